-- written by this session's patched copy of the printer (wip/tools/patch_print.py); Lean checks it
import Derived.Test.YtjogkfcjlljjcaaDoorXaResvStruck
namespace Go.Proofs.YtjogkfcjlljjcaaDoor.P
open Go.RowKit Go.Proofs.YtjogkfcjlljjcaaDoorW.PrintWords Go.Proofs.YtjogkfcjlljjcaaDoorW.PrintLast Go.Proofs.YtjogkfcjlljjcaaDoorW.PrintMore
attribute [local go_sem] max2_int min2_int max_two min_two max_three min_three max_four min_four   -- for this text's walks alone
set_option linter.unusedVariables false
set_option linter.unusedSimpArgs false
set_option linter.unnecessarySimpa false

/-! ### headgatelaw11_ResvStruck: function 6 -/
mutual
def headgatelaw11_ResvStruck.j0 : Nat → ByteArray → Int → Int → Bool → List (S53) → Int → ByteArray → Int → Bool → Option (Bool)
 | 0, _, _, _, _, _, _, _, _, _ => none
 | k + 1, x1, x7, x8, x38, x390000, x390001, x390002, x390003, x390004 => if x38 = true then ((headgatelaw11_wakes.f k).bind fun t394 => (some t394)) else ((headgateref11_Key.f k x390000 x390001 x390002 x390003 x390004 x1).bind fun t395 => ((headgatekeep_Mod.f x8 6).bind fun t396 => ((headgatekeep_CopyTable.f x390000 x390001 x390002 x390003 x390004).bind fun bt398 => ((resv_Do.f k bt398.1 bt398.2.1 bt398.2.2.1 bt398.2.2.2.1 bt398.2.2.2.2 12 0 x1 0 0 (⟨#[]⟩ : ByteArray) false ([] : List (S100)) t395 0 x7 (wrap64 (1 + t396)) false 0).bind fun bt405 => (headgatelaw11_ResvStruck.l0 k x1 x7 bt405.2.2.2.2.2.1 bt405.2.2.2.2.2.2 0 ([] : List (S53)) 0 x390000 x390001 x390002 x390003 x390004 bt405.1 bt405.2.1 bt405.2.2.1 bt405.2.2.2.1 bt405.2.2.2.2.1)))))
def headgatelaw11_ResvStruck.l0 : Nat → ByteArray → Int → List (S46) → Int → Int → List (S53) → Int → List (S53) → Int → ByteArray → Int → Bool → List (S53) → Int → ByteArray → Int → Bool → Option (Bool)
 | 0, _, _, _, _, _, _, _, _, _, _, _, _, _, _, _, _, _ => none
 | k + 1, x1, x7, x11, x12, x13, x14, x15, x390000, x390001, x390002, x390003, x390004, x417000, x417001, x417002, x417003, x417004 => if x15 < (x390000.length : Int) then (if 0 ≤ x15 then (if ((rd_T53 x390000 x15).f0).toList = x1.toList then (headgatelaw11_ResvStruck.j2 k x1 x7 x11 x12 x13 x14 x15 true x390000 x390001 x390002 x390003 x390004 x417000 x417001 x417002 x417003 x417004) else (headgatelaw11_ResvStruck.j2 k x1 x7 x11 x12 x13 x14 x15 (((rd_T53 x390000 x15).f1) != x7) x390000 x390001 x390002 x390003 x390004 x417000 x417001 x417002 x417003 x417004)) else (none)) else (if x12 = 1 then (if (x11.length : Int) = x13 then ((headgatekeep_Regs.f k x417000 x14).bind fun t426 => (if t426 = true then (if x417003 = ((x390003 + 1) % 4294967296) then (if (x417004 == x390004) = true then ((headgatelaw11_wakes.f k).bind fun t427 => (some t427)) else (some false)) else (some false)) else (some false))) else (some false)) else (if x12 = 2 then (if x13 = 0 then ((headgatekeep_Tables.f k x417000 x417001 x417002 x417003 x417004 x390000 x390001 x390002 x390003 x390004).bind fun t428 => (if t428 = true then ((headgatelaw11_wakes.f k).bind fun t429 => (some t429)) else (some false))) else (some false)) else (some false)))
def headgatelaw11_ResvStruck.j2 : Nat → ByteArray → Int → List (S46) → Int → Int → List (S53) → Int → Bool → List (S53) → Int → ByteArray → Int → Bool → List (S53) → Int → ByteArray → Int → Bool → Option (Bool)
 | 0, _, _, _, _, _, _, _, _, _, _, _, _, _, _, _, _, _, _ => none
 | k + 1, x1, x7, x11, x12, x13, x14, x15, x81, x390000, x390001, x390002, x390003, x390004, x417000, x417001, x417002, x417003, x417004 => if x81 = true then (if 0 ≤ x15 then (if x15 < (x390000.length : Int) then (if x14.length < 5864062014805 then (headgatelaw11_ResvStruck.l0 k x1 x7 x11 x12 x13 (x14 ++ [(⟨(rd_T53 x390000 x15).f0, (rd_T53 x390000 x15).f1⟩ : S53)]) (wrap64 (x15 + 1)) x390000 x390001 x390002 x390003 x390004 x417000 x417001 x417002 x417003 x417004) else (none)) else (none)) else (none)) else (if x12 = 1 then (if x13 ≥ (x11.length : Int) then (some false) else (if 0 ≤ x13 then (if x13 < (x11.length : Int) then (if 0 ≤ x15 then (if x15 < (x390000.length : Int) then (if ((rd_T46 x11 x13).f0).toList = ((rd_T53 x390000 x15).f0).toList then (if ((rd_T46 x11 x13).f1) = 2 then (headgatelaw11_ResvStruck.l0 k x1 x7 x11 x12 (wrap64 (x13 + 1)) x14 (wrap64 (x15 + 1)) x390000 x390001 x390002 x390003 x390004 x417000 x417001 x417002 x417003 x417004) else (some false)) else (some false)) else (none)) else (none)) else (none)) else (none))) else (headgatelaw11_ResvStruck.l0 k x1 x7 x11 x12 (wrap64 (x13 + 1)) x14 (wrap64 (x15 + 1)) x390000 x390001 x390002 x390003 x390004 x417000 x417001 x417002 x417003 x417004))
end
def headgatelaw11_ResvStruck.f (k : Nat) (l0_0 : List (S53)) (a0_1 : Int) (a0_2 : ByteArray) (a0_3 : Int) (a0_4 : Bool) (a1 : ByteArray) (a2_0 : Int) (a2_1 : Int) : Option (Bool) := (headgatelaw10_Large.f k l0_0 a0_1 a0_2 a0_3 a0_4).bind fun t391 => (if t391 = true then (headgatelaw11_ResvStruck.j0 k a1 a2_0 (wrap64 (Int.tmod a2_1 6)) true l0_0 a0_1 a0_2 a0_3 a0_4) else ((headgateref11_Good.f k l0_0 a0_1 a0_2 a0_3 a0_4).bind fun t392 => (if t392 = true then ((headgateref11_Key.f k l0_0 a0_1 a0_2 a0_3 a0_4 a1).bind fun t393 => (if t393 = 0 then (headgatelaw11_ResvStruck.j0 k a1 a2_0 (wrap64 (Int.tmod a2_1 6)) true l0_0 a0_1 a0_2 a0_3 a0_4) else (headgatelaw11_ResvStruck.j0 k a1 a2_0 (wrap64 (Int.tmod a2_1 6)) (a2_0 == 0) l0_0 a0_1 a0_2 a0_3 a0_4))) else (headgatelaw11_ResvStruck.j0 k a1 a2_0 (wrap64 (Int.tmod a2_1 6)) true l0_0 a0_1 a0_2 a0_3 a0_4))))
theorem headgatelaw11_ResvStruck.mono_l : ∀ k, (∀ y0 y1 y2 y3 y4 y5 y6 y7 y8, LeO (headgatelaw11_ResvStruck.j0 k y0 y1 y2 y3 y4 y5 y6 y7 y8) (headgatelaw11_ResvStruck.j0 (k + 1) y0 y1 y2 y3 y4 y5 y6 y7 y8)) ∧ (∀ y0 y1 y2 y3 y4 y5 y6 y7 y8 y9 y10 y11 y12 y13 y14 y15 y16, LeO (headgatelaw11_ResvStruck.l0 k y0 y1 y2 y3 y4 y5 y6 y7 y8 y9 y10 y11 y12 y13 y14 y15 y16) (headgatelaw11_ResvStruck.l0 (k + 1) y0 y1 y2 y3 y4 y5 y6 y7 y8 y9 y10 y11 y12 y13 y14 y15 y16)) ∧ (∀ y0 y1 y2 y3 y4 y5 y6 y7 y8 y9 y10 y11 y12 y13 y14 y15 y16 y17, LeO (headgatelaw11_ResvStruck.j2 k y0 y1 y2 y3 y4 y5 y6 y7 y8 y9 y10 y11 y12 y13 y14 y15 y16 y17) (headgatelaw11_ResvStruck.j2 (k + 1) y0 y1 y2 y3 y4 y5 y6 y7 y8 y9 y10 y11 y12 y13 y14 y15 y16 y17))
 | 0 => ⟨fun _ _ _ _ _ _ _ _ _ r h => by simp [headgatelaw11_ResvStruck.j0] at h, fun _ _ _ _ _ _ _ _ _ _ _ _ _ _ _ _ _ r h => by simp [headgatelaw11_ResvStruck.l0] at h, fun _ _ _ _ _ _ _ _ _ _ _ _ _ _ _ _ _ _ r h => by simp [headgatelaw11_ResvStruck.j2] at h⟩
 | k + 1 => by
  obtain ⟨ih0, ih1, ih2⟩ := headgatelaw11_ResvStruck.mono_l k
  refine ⟨?_, ?_, ?_⟩
  ·intro y0 y1 y2 y3 y4 y5 y6 y7 y8
   unfold headgatelaw11_ResvStruck.j0
   repeat' first
   | (with_reducible exact ih0 _ _ _ _ _ _ _ _ _)
   | (with_reducible exact ih1 _ _ _ _ _ _ _ _ _ _ _ _ _ _ _ _ _)
   | (with_reducible exact ih2 _ _ _ _ _ _ _ _ _ _ _ _ _ _ _ _ _ _)
   | (with_reducible exact headgatekeep_Regs.mono _ _ _)
   | (with_reducible exact headgatekeep_Tables.mono _ _ _ _ _ _ _ _ _ _ _)
   | (with_reducible exact headgatelaw10_Large.mono _ _ _ _ _ _)
   | (with_reducible exact headgatelaw11_wakes.mono _)
   | (with_reducible exact headgateref11_Good.mono _ _ _ _ _ _)
   | (with_reducible exact headgateref11_Key.mono _ _ _ _ _ _ _)
   | (with_reducible exact resv_Do.mono _ _ _ _ _ _ _ _ _ _ _ _ _ _ _ _ _ _ _ _)
   | (with_reducible exact LeO.refl _)
   | (with_reducible exact LeO.none _)
   | (with_reducible refine LeO.ite ?_ ?_)
   | (with_reducible refine LeO.bind ?_ (fun _ => ?_))
   | exact ih0 _ _ _ _ _ _ _ _ _
   | exact ih1 _ _ _ _ _ _ _ _ _ _ _ _ _ _ _ _ _
   | exact ih2 _ _ _ _ _ _ _ _ _ _ _ _ _ _ _ _ _ _
   | exact headgatekeep_Regs.mono _ _ _
   | exact headgatekeep_Tables.mono _ _ _ _ _ _ _ _ _ _ _
   | exact headgatelaw10_Large.mono _ _ _ _ _ _
   | exact headgatelaw11_wakes.mono _
   | exact headgateref11_Good.mono _ _ _ _ _ _
   | exact headgateref11_Key.mono _ _ _ _ _ _ _
   | exact resv_Do.mono _ _ _ _ _ _ _ _ _ _ _ _ _ _ _ _ _ _ _ _
   | exact LeO.none _
   | refine LeO.ite ?_ ?_
   | refine LeO.bind ?_ (fun _ => ?_)
  ·intro y0 y1 y2 y3 y4 y5 y6 y7 y8 y9 y10 y11 y12 y13 y14 y15 y16
   unfold headgatelaw11_ResvStruck.l0
   repeat' first
   | (with_reducible exact ih0 _ _ _ _ _ _ _ _ _)
   | (with_reducible exact ih1 _ _ _ _ _ _ _ _ _ _ _ _ _ _ _ _ _)
   | (with_reducible exact ih2 _ _ _ _ _ _ _ _ _ _ _ _ _ _ _ _ _ _)
   | (with_reducible exact headgatekeep_Regs.mono _ _ _)
   | (with_reducible exact headgatekeep_Tables.mono _ _ _ _ _ _ _ _ _ _ _)
   | (with_reducible exact headgatelaw10_Large.mono _ _ _ _ _ _)
   | (with_reducible exact headgatelaw11_wakes.mono _)
   | (with_reducible exact headgateref11_Good.mono _ _ _ _ _ _)
   | (with_reducible exact headgateref11_Key.mono _ _ _ _ _ _ _)
   | (with_reducible exact resv_Do.mono _ _ _ _ _ _ _ _ _ _ _ _ _ _ _ _ _ _ _ _)
   | (with_reducible exact LeO.refl _)
   | (with_reducible exact LeO.none _)
   | (with_reducible refine LeO.ite ?_ ?_)
   | (with_reducible refine LeO.bind ?_ (fun _ => ?_))
   | exact ih0 _ _ _ _ _ _ _ _ _
   | exact ih1 _ _ _ _ _ _ _ _ _ _ _ _ _ _ _ _ _
   | exact ih2 _ _ _ _ _ _ _ _ _ _ _ _ _ _ _ _ _ _
   | exact headgatekeep_Regs.mono _ _ _
   | exact headgatekeep_Tables.mono _ _ _ _ _ _ _ _ _ _ _
   | exact headgatelaw10_Large.mono _ _ _ _ _ _
   | exact headgatelaw11_wakes.mono _
   | exact headgateref11_Good.mono _ _ _ _ _ _
   | exact headgateref11_Key.mono _ _ _ _ _ _ _
   | exact resv_Do.mono _ _ _ _ _ _ _ _ _ _ _ _ _ _ _ _ _ _ _ _
   | exact LeO.none _
   | refine LeO.ite ?_ ?_
   | refine LeO.bind ?_ (fun _ => ?_)
  ·intro y0 y1 y2 y3 y4 y5 y6 y7 y8 y9 y10 y11 y12 y13 y14 y15 y16 y17
   unfold headgatelaw11_ResvStruck.j2
   repeat' first
   | (with_reducible exact ih0 _ _ _ _ _ _ _ _ _)
   | (with_reducible exact ih1 _ _ _ _ _ _ _ _ _ _ _ _ _ _ _ _ _)
   | (with_reducible exact ih2 _ _ _ _ _ _ _ _ _ _ _ _ _ _ _ _ _ _)
   | (with_reducible exact headgatekeep_Regs.mono _ _ _)
   | (with_reducible exact headgatekeep_Tables.mono _ _ _ _ _ _ _ _ _ _ _)
   | (with_reducible exact headgatelaw10_Large.mono _ _ _ _ _ _)
   | (with_reducible exact headgatelaw11_wakes.mono _)
   | (with_reducible exact headgateref11_Good.mono _ _ _ _ _ _)
   | (with_reducible exact headgateref11_Key.mono _ _ _ _ _ _ _)
   | (with_reducible exact resv_Do.mono _ _ _ _ _ _ _ _ _ _ _ _ _ _ _ _ _ _ _ _)
   | (with_reducible exact LeO.refl _)
   | (with_reducible exact LeO.none _)
   | (with_reducible refine LeO.ite ?_ ?_)
   | (with_reducible refine LeO.bind ?_ (fun _ => ?_))
   | exact ih0 _ _ _ _ _ _ _ _ _
   | exact ih1 _ _ _ _ _ _ _ _ _ _ _ _ _ _ _ _ _
   | exact ih2 _ _ _ _ _ _ _ _ _ _ _ _ _ _ _ _ _ _
   | exact headgatekeep_Regs.mono _ _ _
   | exact headgatekeep_Tables.mono _ _ _ _ _ _ _ _ _ _ _
   | exact headgatelaw10_Large.mono _ _ _ _ _ _
   | exact headgatelaw11_wakes.mono _
   | exact headgateref11_Good.mono _ _ _ _ _ _
   | exact headgateref11_Key.mono _ _ _ _ _ _ _
   | exact resv_Do.mono _ _ _ _ _ _ _ _ _ _ _ _ _ _ _ _ _ _ _ _
   | exact LeO.none _
   | refine LeO.ite ?_ ?_
   | refine LeO.bind ?_ (fun _ => ?_)
theorem headgatelaw11_ResvStruck.mono : ∀ a0 a1 a2 a3 a4 a5 a6 a7 k, LeO (headgatelaw11_ResvStruck.f k a0 a1 a2 a3 a4 a5 a6 a7) (headgatelaw11_ResvStruck.f (k + 1) a0 a1 a2 a3 a4 a5 a6 a7) := by
 intro a0 a1 a2 a3 a4 a5 a6 a7 k
 obtain ⟨ih0, ih1, ih2⟩ := headgatelaw11_ResvStruck.mono_l k
 unfold headgatelaw11_ResvStruck.f
 repeat' first
   | (with_reducible exact ih0 _ _ _ _ _ _ _ _ _)
   | (with_reducible exact ih1 _ _ _ _ _ _ _ _ _ _ _ _ _ _ _ _ _)
   | (with_reducible exact ih2 _ _ _ _ _ _ _ _ _ _ _ _ _ _ _ _ _ _)
   | (with_reducible exact headgatekeep_Regs.mono _ _ _)
   | (with_reducible exact headgatekeep_Tables.mono _ _ _ _ _ _ _ _ _ _ _)
   | (with_reducible exact headgatelaw10_Large.mono _ _ _ _ _ _)
   | (with_reducible exact headgatelaw11_wakes.mono _)
   | (with_reducible exact headgateref11_Good.mono _ _ _ _ _ _)
   | (with_reducible exact headgateref11_Key.mono _ _ _ _ _ _ _)
   | (with_reducible exact resv_Do.mono _ _ _ _ _ _ _ _ _ _ _ _ _ _ _ _ _ _ _ _)
   | (with_reducible exact LeO.refl _)
   | (with_reducible exact LeO.none _)
   | (with_reducible refine LeO.ite ?_ ?_)
   | (with_reducible refine LeO.bind ?_ (fun _ => ?_))
   | exact ih0 _ _ _ _ _ _ _ _ _
   | exact ih1 _ _ _ _ _ _ _ _ _ _ _ _ _ _ _ _ _
   | exact ih2 _ _ _ _ _ _ _ _ _ _ _ _ _ _ _ _ _ _
   | exact headgatekeep_Regs.mono _ _ _
   | exact headgatekeep_Tables.mono _ _ _ _ _ _ _ _ _ _ _
   | exact headgatelaw10_Large.mono _ _ _ _ _ _
   | exact headgatelaw11_wakes.mono _
   | exact headgateref11_Good.mono _ _ _ _ _ _
   | exact headgateref11_Key.mono _ _ _ _ _ _ _
   | exact resv_Do.mono _ _ _ _ _ _ _ _ _ _ _ _ _ _ _ _ _ _ _ _
   | exact LeO.none _
   | refine LeO.ite ?_ ?_
   | refine LeO.bind ?_ (fun _ => ?_)
def headgatelaw11_ResvStruck.T1 : Bool × List (List Nat × List Nat) := (true, [([], []), ([0], [0]), ([], []), ([2], [2]), ([3], [3]), ([4], [4]), ([1, 0, 1], [1]), ([5, 6, 0, 1, 2, 3, 4, 5, 6], [5])])
def headgatelaw11_ResvStruck.B1 : List Nat := [0, 1, 0, 4, 12, 28, 3, 127]
theorem headgatelaw11_ResvStruck.tab1 : rtab .any (opsOf Tryd.f6 1) = headgatelaw11_ResvStruck.T1 := by kernel_rfl
theorem headgatelaw11_ResvStruck.bits1 : waitsOk headgatelaw11_ResvStruck.T1.2 headgatelaw11_ResvStruck.B1 = true := by kernel_rfl
def headgatelaw11_ResvStruck.T5 : Bool × List (List Nat × List Nat) := (true, [([], []), ([0], [0]), ([], []), ([1, 2, 1], [1, 2]), ([3], [3]), ([4], [4]), ([4], [4]), ([4], [4]), ([], []), ([8, 5, 3, 0, 1, 2, 3, 4, 5, 8], [5, 8]), ([6, 9, 0, 1, 2, 3, 4, 5, 6, 8, 9], [6]), ([7, 10, 0, 1, 2, 3, 4, 5, 6, 7, 8, 9, 10], [7])])
def headgatelaw11_ResvStruck.B5 : List Nat := [0, 1, 0, 7, 15, 31, 31, 31, 0, 319, 895, 2047]
theorem headgatelaw11_ResvStruck.tab5 : rtab .any (opsOf Tryd.f6 5) = headgatelaw11_ResvStruck.T5 := by kernel_rfl
theorem headgatelaw11_ResvStruck.bits5 : waitsOk headgatelaw11_ResvStruck.T5.2 headgatelaw11_ResvStruck.B5 = true := by kernel_rfl
def headgatelaw11_ResvStruck.T13 : Bool × List (List Nat × List Nat) := (true, [([], []), ([0], [0]), ([1], [1]), ([2], [2]), ([2], [2]), ([4, 2], [2, 4]), ([3, 5, 2], [2, 3, 5]), ([6, 2, 2], [2, 6]), ([7], [7]), ([7], [7]), ([8, 9, 7], [7, 8, 9]), ([10, 7], [7, 10]), ([11, 7], [7, 11]), ([7], [7]), ([13, 7], [7, 13]), ([7], [7]), ([14, 15, 7], [7, 14, 15]), ([16, 7], [7, 16]), ([17, 7], [7, 17]), ([12, 18, 7], [7, 12, 18]), ([7, 19, 2], [2, 7, 19]), ([20, 7, 2], [2, 20]), ([21], [21]), ([21], [21]), ([22, 23, 21], [21, 22, 23]), ([24, 21], [21, 24]), ([25, 21], [21, 25]), ([26, 21], [21, 26]), ([21, 27, 2], [2, 21, 27]), ([2, 28], [2, 28])])
def headgatelaw11_ResvStruck.B13 : List Nat := [0, 1, 3, 7, 7, 23, 63, 127, 255, 255, 1023, 2047, 4095, 255, 8447, 255, 57599, 123135, 254207, 524287, 1048575, 2097151, 4194303, 4194303, 16777215, 33554431, 67108863, 134217727, 268435455, 536870911]
theorem headgatelaw11_ResvStruck.tab13 : rtab .any (opsOf Tryd.f6 13) = headgatelaw11_ResvStruck.T13 := by kernel_rfl
theorem headgatelaw11_ResvStruck.bits13 : waitsOk headgatelaw11_ResvStruck.T13.2 headgatelaw11_ResvStruck.B13 = true := by kernel_rfl
abbrev d6x0 : Array Bool := #[false, false, false, false, false, false, false, false, false, false, false, false, false, false, false, false, false, false, false, false, false, false, false, false, false, false, false, false, false, false]
abbrev d6x1 : Array Bool := #[false, false, false, false, false, false, false, false, false, false, false, false]
abbrev d6x2 : Array Bool := #[false, false, false, false, false, false, false, false]
abbrev d6x3 : Array Bool := dB 30 1
abbrev d6x4 : Array Bool := dB 12 1
abbrev d6x5 : Array Bool := dB 8 1
abbrev d6x6 : Array Bool := dB 12 5
abbrev d6x7 : Array Bool := dB 12 261
abbrev d6x8 : Array Bool := dB 8 5
abbrev d6x9 : Array Bool := dB 30 3
abbrev d6x10 : Array Bool := dB 30 7
abbrev d6x11 : Array Bool := dB 12 7
abbrev d6x12 : Array Bool := dB 12 263
abbrev d6x13 : Array Bool := dB 8 7
abbrev d6x14 : Array Bool := dB 8 71
abbrev d6x15 : Array Bool := dB 30 15
abbrev d6x16 : Array Bool := dB 12 15
abbrev d6x17 : Array Bool := dB 12 271
abbrev d6x18 : Array Bool := dB 8 79
abbrev d6x19 : Array Bool := dB 30 31
abbrev d6x20 : Array Bool := dB 12 31
abbrev d6x21 : Array Bool := dB 12 287
abbrev d6x22 : Array Bool := dB 8 95
abbrev d6x23 : Array Bool := dB 30 63
abbrev d6x24 : Array Bool := dB 12 63
abbrev d6x25 : Array Bool := dB 12 319
abbrev d6x26 : Array Bool := dB 30 127
abbrev d6x27 : Array Bool := dB 12 127
abbrev d6x28 : Array Bool := dB 12 383
abbrev d6x29 : Array Bool := dB 8 127
abbrev d6x30 : Array Bool := dB 30 255
abbrev d6x31 : Array Bool := dB 12 255
abbrev d6x32 : Array Bool := dB 30 511
abbrev d6x33 : Array Bool := dB 12 511
abbrev d6x34 : Array Bool := dB 30 1023
abbrev d6x35 : Array Bool := dB 12 1023
abbrev d6x36 : Array Bool := dB 30 2047
abbrev d6x37 : Array Bool := dB 12 2047
abbrev d6x38 : Array Bool := dB 30 4095
abbrev d6x39 : Array Bool := dB 30 12287
abbrev d6x40 : Array Bool := dB 30 45055
abbrev d6x41 : Array Bool := dB 30 8191
abbrev d6x42 : Array Bool := dB 30 16383
abbrev d6x43 : Array Bool := dB 30 49151
abbrev d6x44 : Array Bool := dB 30 32767
abbrev d6x45 : Array Bool := dB 30 65535
abbrev d6x46 : Array Bool := dB 30 131071
abbrev d6x47 : Array Bool := dB 30 262143
abbrev d6x48 : Array Bool := dB 30 524287
abbrev d6x49 : Array Bool := dB 30 1048575
abbrev d6x50 : Array Bool := dB 30 2097151
abbrev d6x51 : Array Bool := dB 30 4194303
abbrev d6x52 : Array Bool := dB 30 8388607
abbrev d6x53 : Array Bool := dB 30 16777215
abbrev d6x54 : Array Bool := dB 30 33554431
abbrev d6x55 : Array Bool := dB 30 67108863
abbrev d6x56 : Array Bool := dB 30 134217727
abbrev d6x57 : Array Bool := dB 30 268435455
abbrev d6x58 : Array Bool := dB 30 536870911
abbrev d6x59 : Array Bool := dB 30 1073741823
abbrev d6x60 : Array Bool := dB 12 4095
abbrev d6x61 : Array Bool := dB 8 255
set_option maxHeartbeats 8000000 in
set_option maxRecDepth 100000 in
theorem headgatelaw11_ResvStruck.calls (k : Nat) (A0_0 : Option Addr) (c0_0 : Nat) (l0_0 : List (S53)) (a0_1 : Int) (a0_2 : ByteArray) (a0_3 : Int) (a0_4 : Bool) (a1 : ByteArray) (a2_0 : Int) (a2_1 : Int) (r : Bool) (w : World) (hr0_0 : Kd.C k53 w A0_0 l0_0.length l0_0) (hc0_0 : l0_0.length ≤ c0_0) (hG : Glob w) (hT : r = true) (h : headgatelaw11_ResvStruck.f k l0_0 a0_1 a0_2 a0_3 a0_4 a1 a2_0 a2_1 = some r) :
  Calls Tryd.prog 6 #[.agg #[.slice A0_0 l0_0.length c0_0, .int .i64 a0_1, .string a0_2, .int .u32 a0_3, .bool a0_4], .string a1, .agg #[.int .u64 a2_0, .int .u64 a2_1]] w fun e w' => e = .returned (.bool r) ∧ Below w.heap.size w w' := by
 have hu27 := Tryd.underlying27
 have hu50 := Tryd.underlying50
 have hu31 := Tryd.underlying31
 have hu53 := Tryd.underlying53
 have HT0 := Aside0.mk hT
 clear hT
 have HG := Aside0.mk hG
 clear hG
 have HR0_0 := Aside0.mk hr0_0
 have HC0_0 := Aside0.mk hc0_0
 clear hr0_0 hc0_0
 have HB := Aside0.mk (Below.refl w.heap.size w)
 have H : ((headgatelaw10_Large.f k l0_0 a0_1 a0_2 a0_3 a0_4).bind fun t391 => (if t391 = true then (headgatelaw11_ResvStruck.j0 k a1 a2_0 (wrap64 (Int.tmod a2_1 6)) true l0_0 a0_1 a0_2 a0_3 a0_4) else ((headgateref11_Good.f k l0_0 a0_1 a0_2 a0_3 a0_4).bind fun t392 => (if t392 = true then ((headgateref11_Key.f k l0_0 a0_1 a0_2 a0_3 a0_4 a1).bind fun t393 => (if t393 = 0 then (headgatelaw11_ResvStruck.j0 k a1 a2_0 (wrap64 (Int.tmod a2_1 6)) true l0_0 a0_1 a0_2 a0_3 a0_4) else (headgatelaw11_ResvStruck.j0 k a1 a2_0 (wrap64 (Int.tmod a2_1 6)) (a2_0 == 0) l0_0 a0_1 a0_2 a0_3 a0_4))) else (headgatelaw11_ResvStruck.j0 k a1 a2_0 (wrap64 (Int.tmod a2_1 6)) true l0_0 a0_1 a0_2 a0_3 a0_4))))) = some r := h
 clear h
 have HC4 := Aside0.mk H
 clear H
 go_enter Tryd.func6, Tryd.ntmps6
 try go_wp2_with (first | ((with_reducible refine gate_dst (N := 3) rfl ?_); refine box_event ?hg (N := 3) ?hd (cs := #[.slice A0_0 l0_0.length c0_0, .int .i64 a0_1, .string a0_2, .int .u32 a0_3, .bool a0_4]) (t := 27) ?hr ?_; (case hd => rfl); (case hg => rfl); (case hr => first | (go_simp; done) | (go_simp; rfl)); intro gb389 hg w5 hbox hb; have n0_ := Aside0.mk (below_step (hb_ HB) hb); have n1_ := Aside0.mk (hbox); have n2_ := Aside0.mk ((by rw [hg]; exact (below_size (hb_ HB)) : w.heap.size ≤ gb389)); have n3_ := Aside0.mk ((by rw [hg]; exact (below_size (hb_ HB)) : w.heap.size ≤ gb389)); clear HB; have HB := n0_; have BK389 := n1_; have GW389 := n2_; have GE389 := n3_; clear n0_ n1_ n2_ n3_; clear hb hbox hg) | ((with_reducible refine gate_dst (N := 5) rfl ?_); refine box_event ?hg (N := 5) ?hd (cs := #[.int .u64 a2_0, .int .u64 a2_1]) (t := 50) ?hr ?_; (case hd => rfl); (case hg => rfl); (case hr => first | (go_simp; done) | (go_simp; rfl)); intro gb390 hg w6 hbox hb; have n0_ := Aside0.mk (blk_below (bk_ BK389) hb); have n1_ := Aside0.mk (below_step (hb_ HB) hb); have n2_ := Aside0.mk (hbox); have n3_ := Aside0.mk ((by rw [hg]; exact (below_size (hb_ HB)) : w.heap.size ≤ gb390)); have n4_ := Aside0.mk ((by rw [hg]; exact (below_size (hb_ HB)) : w.heap.size ≤ gb390)); have n5_ := Aside0.mk ((by rw [hg]; exact Nat.ne_of_lt (blk_lt (g := gb389) (o := .cells #[.slice A0_0 l0_0.length c0_0, .int .i64 a0_1, .string a0_2, .int .u32 a0_3, .bool a0_4] 27 (0, 0)) (bk_ BK389)) : gb389 ≠ gb390)); have n6_ := Aside0.mk ((by rw [hg]; exact Nat.ne_of_gt (blk_lt (g := gb389) (o := .cells #[.slice A0_0 l0_0.length c0_0, .int .i64 a0_1, .string a0_2, .int .u32 a0_3, .bool a0_4] 27 (0, 0)) (bk_ BK389)) : gb390 ≠ gb389)); clear BK389; clear HB; have BK389 := n0_; have HB := n1_; have BK390 := n2_; have GW390 := n3_; have GE390 := n4_; have NB389_390 := n5_; have NB390_389 := n6_; clear n0_ n1_ n2_ n3_ n4_ n5_ n6_; clear hb hbox hg))
 have n0_ := Aside0.mk (blk_drew BK389.out)
 have n1_ := Aside0.mk (blk_drew BK390.out)
 have n2_ := Aside0.mk (below_drew1 HB.out)
 clear BK389
 clear BK390
 clear HB
 have BK389 := n0_
 have BK390 := n1_
 have HB := n2_
 clear n0_ n1_ n2_
 refine start_ (n := 8) (S := fun w' => w'.cell? ⟨gb390, 0, none⟩ = some (.int .u64 a2_0) ∧ w'.cell? ⟨gb390, 1, none⟩ = some (.int .u64 a2_1)) (ds := []) d6x2 (by kernel_rfl) rfl rfl ⟨(blk_cell BK390.out 0).trans rfl, (blk_cell BK390.out 1).trans rfl⟩ (fun hHeld => ?_); refine with_tabW headgatelaw11_ResvStruck.tab1 headgatelaw11_ResvStruck.bits1 (fun HT_ HW_ => ?_)
 generalize w6.drew = w7 at BK389 BK390 HB hHeld ⊢
 refine pon_ 0 (some 16) d6x5 HT_.out ?_
 refine pon_ 2 (some 18) d6x8 HT_.out ?_
 refine ptk_ 1 (some 17) d6x13 HT_.out HW_.out hHeld ?_
 refine pon_ 6 (some 7) d6x14 HT_.out ?_
 refine ptk_ 3 (some 19) d6x18 HT_.out HW_.out hHeld ?_
 refine pon_ 4 (some 20) d6x22 HT_.out ?_
 refine pon_ 5 (some 21) d6x29 HT_.out ?_
 refine pon_ 7 (some 8) d6x61 HT_.out ?_
 refine done_ (done_of HT_.out (by kernel_rfl)) ?_
 go_upto_region 2 with (fail)
 go_cut [38] (fun v38 wc => ∃ (kq : Nat) (x38_3 : Bool), v38 = .bool x38_3 ∧ Aside0 (headgatelaw11_ResvStruck.j0 kq a1 a2_0 (wrap64 (Int.tmod a2_1 6)) x38_3 l0_0 a0_1 a0_2 a0_3 a0_4 = some r) ∧ Aside0 (kq ≤ k) ∧ Aside0 (wc.heap[gb389]? = some (.cells #[(.slice A0_0 l0_0.length c0_0), .int .i64 a0_1, .string a0_2, .int .u32 a0_3, .bool a0_4] 27 (0, 0))) ∧ Aside0 (wc.heap[gb390]? = some (.cells #[.int .u64 a2_0, .int .u64 a2_1] 50 (0, 0))) ∧ Aside0 (Below w.heap.size w wc))
 case first =>
  have H := HC4.out
  clear HC4
  replace H := Option.bind_eq_some_iff.mp H
  obtain ⟨t391, A80, H⟩ := H
  try dsimp only at H
  have A8 := Aside0.mk A80
  clear A80
  by_cases c9 : t391 = true
  ·subst c9
   have H1 := H
   rw [if_pos rfl] at H1
   clear H
   have H := H1
   clear H1
   have H' := Aside0.mk H
   clear H
   have hnb10 := NB389_390.out
   have hnc10 := NB390_389.out
   have hcz11_0 : w7.cell? ⟨gb389, 0, none⟩ = some (.slice A0_0 l0_0.length c0_0) := (blk_cell BK389.out 0).trans rfl
   have hcz11_1 : w7.cell? ⟨gb389, 1, none⟩ = some (.int .i64 a0_1) := (blk_cell BK389.out 1).trans rfl
   have hcz11_2 : w7.cell? ⟨gb389, 2, none⟩ = some (.string a0_2) := (blk_cell BK389.out 2).trans rfl
   have hcz11_3 : w7.cell? ⟨gb389, 3, none⟩ = some (.int .u32 a0_3) := (blk_cell BK389.out 3).trans rfl
   have hcz11_4 : w7.cell? ⟨gb389, 4, none⟩ = some (.bool a0_4) := (blk_cell BK389.out 4).trans rfl
   have hfz11_0 := blk_frozen BK389.out 0
   have hfz11_1 := blk_frozen BK389.out 1
   have hfz11_2 := blk_frozen BK389.out 2
   have hfz11_3 := blk_frozen BK389.out 3
   have hfz11_4 := blk_frozen BK389.out 4
   go_wp2_with (first | ((with_reducible refine gate_callee (f := 11) rfl ?_); refine goesL_ (some 23) rfl rfl Tryd.func11 (by kernel_rfl) rfl #[.agg #[.slice A0_0 l0_0.length c0_0, .int .i64 a0_1, .string a0_2, .int .u32 a0_3, .bool a0_4]] rfl (by (try simp only [List.map_toArray, List.map_cons, List.map_nil]); first | done | rfl | (simp only [List.length_drop, List.length_take]; rfl)) ?_; (with_reducible refine (headgatelaw10_Large.calls k _ _ l0_0 a0_1 a0_2 a0_3 a0_4 true _ ?side1 ?side2 A8.out).mono ?_); (case side1 => repeat (first | exact (Kd.C_below HR0_0.out HB.out) | (with_reducible refine Kd.C_alloc ?_ _) | (with_reducible refine Kd.C_drewN ?_ _) | (with_reducible refine Kd.C_drew ?_))); (case side2 => exact HC0_0.out); rintro e w12 ⟨rfl, hb⟩; refine ⟨_, rfl, ?_⟩; have n0_ := Aside0.mk (blk_below (bk_ BK389) hb); have n1_ := Aside0.mk (blk_below (bk_ BK390) hb); have n2_ := Aside0.mk (below_step (hb_ HB) hb); clear BK389; clear BK390; clear HB; have BK389 := n0_; have BK390 := n1_; have HB := n2_; clear n0_ n1_ n2_; (try clear hb); (try clear hb2); (try clear hk); (try clear hi)))
   go_meet
   case rel => exact ⟨_, (true), (by first | rfl | (simp; done) | (simp [*]; done)), H', ⟨by first | omega | exact Nat.le_refl _⟩, ⟨bk_ BK389⟩, ⟨bk_ BK390⟩, ⟨hb_ HB⟩⟩
  replace c9 := Bool.eq_false_iff.mpr c9
  subst c9
  have H1 := H
  rw [if_neg (show ¬ (false = true) by decide)] at H1
  clear H
  have H := H1
  clear H1
  replace H := Option.bind_eq_some_iff.mp H
  obtain ⟨t392, A130, H⟩ := H
  try dsimp only at H
  have A13 := Aside0.mk A130
  clear A130
  refine neg_first (p := (t392 = true)) (fun c14 => ?_) (fun c14 => ?_)
  ·replace c14 := Bool.eq_false_iff.mpr c14
   subst c14
   have H1 := H
   rw [if_neg (show ¬ (false = true) by decide)] at H1
   clear H
   have H := H1
   clear H1
   have H' := Aside0.mk H
   clear H
   have hnb31 := NB389_390.out
   have hnc31 := NB390_389.out
   have hcz32_0 : w7.cell? ⟨gb389, 0, none⟩ = some (.slice A0_0 l0_0.length c0_0) := (blk_cell BK389.out 0).trans rfl
   have hcz32_1 : w7.cell? ⟨gb389, 1, none⟩ = some (.int .i64 a0_1) := (blk_cell BK389.out 1).trans rfl
   have hcz32_2 : w7.cell? ⟨gb389, 2, none⟩ = some (.string a0_2) := (blk_cell BK389.out 2).trans rfl
   have hcz32_3 : w7.cell? ⟨gb389, 3, none⟩ = some (.int .u32 a0_3) := (blk_cell BK389.out 3).trans rfl
   have hcz32_4 : w7.cell? ⟨gb389, 4, none⟩ = some (.bool a0_4) := (blk_cell BK389.out 4).trans rfl
   have hfz32_0 := blk_frozen BK389.out 0
   have hfz32_1 := blk_frozen BK389.out 1
   have hfz32_2 := blk_frozen BK389.out 2
   have hfz32_3 := blk_frozen BK389.out 3
   have hfz32_4 := blk_frozen BK389.out 4
   go_wp2_with (first | ((with_reducible refine gate_callee (f := 11) rfl ?_); refine goesL_ (some 23) rfl rfl Tryd.func11 (by kernel_rfl) rfl #[.agg #[.slice A0_0 l0_0.length c0_0, .int .i64 a0_1, .string a0_2, .int .u32 a0_3, .bool a0_4]] rfl (by (try simp only [List.map_toArray, List.map_cons, List.map_nil]); first | done | rfl | (simp only [List.length_drop, List.length_take]; rfl)) ?_; (with_reducible refine (headgatelaw10_Large.calls k _ _ l0_0 a0_1 a0_2 a0_3 a0_4 false _ ?side1 ?side2 A8.out).mono ?_); (case side1 => repeat (first | exact (Kd.C_below HR0_0.out HB.out) | (with_reducible refine Kd.C_alloc ?_ _) | (with_reducible refine Kd.C_drewN ?_ _) | (with_reducible refine Kd.C_drew ?_))); (case side2 => exact HC0_0.out); rintro e w33 ⟨rfl, hb⟩; refine ⟨_, rfl, ?_⟩; have n0_ := Aside0.mk (blk_below (bk_ BK389) hb); have n1_ := Aside0.mk (blk_below (bk_ BK390) hb); have n2_ := Aside0.mk (below_step (hb_ HB) hb); clear BK389; clear BK390; clear HB; have BK389 := n0_; have BK390 := n1_; have HB := n2_; clear n0_ n1_ n2_; (try clear hb); (try clear hb2); (try clear hk); (try clear hi); have hcz34_0 : w33.cell? ⟨gb389, 0, none⟩ = some (.slice A0_0 l0_0.length c0_0) := (blk_cell BK389.out 0).trans rfl; have hcz34_1 : w33.cell? ⟨gb389, 1, none⟩ = some (.int .i64 a0_1) := (blk_cell BK389.out 1).trans rfl; have hcz34_2 : w33.cell? ⟨gb389, 2, none⟩ = some (.string a0_2) := (blk_cell BK389.out 2).trans rfl; have hcz34_3 : w33.cell? ⟨gb389, 3, none⟩ = some (.int .u32 a0_3) := (blk_cell BK389.out 3).trans rfl; have hcz34_4 : w33.cell? ⟨gb389, 4, none⟩ = some (.bool a0_4) := (blk_cell BK389.out 4).trans rfl; have hfz34_0 := blk_frozen BK389.out 0; have hfz34_1 := blk_frozen BK389.out 1; have hfz34_2 := blk_frozen BK389.out 2; have hfz34_3 := blk_frozen BK389.out 3; have hfz34_4 := blk_frozen BK389.out 4) | (go_at_call 20; (with_reducible refine (headgateref11_Good.calls k _ _ l0_0 a0_1 a0_2 a0_3 a0_4 false _ ?side1 ?side2 A13.out).mono ?_); (case side1 => repeat (first | exact (Kd.C_below HR0_0.out HB.out) | (with_reducible refine Kd.C_alloc ?_ _) | (with_reducible refine Kd.C_drewN ?_ _) | (with_reducible refine Kd.C_drew ?_))); (case side2 => exact HC0_0.out); rintro e w35 ⟨rfl, hb⟩; have n0_ := Aside0.mk (blk_below (bk_ BK389) hb); have n1_ := Aside0.mk (blk_below (bk_ BK390) hb); have n2_ := Aside0.mk (below_step (hb_ HB) hb); clear BK389; clear BK390; clear HB; have BK389 := n0_; have BK390 := n1_; have HB := n2_; clear n0_ n1_ n2_; (try clear hb); (try clear hb2); (try clear hk); (try clear hi)))
   go_meet
   case rel => exact ⟨_, (true), (by first | rfl | (simp; done) | (simp [*]; done)), H', ⟨by first | omega | exact Nat.le_refl _⟩, ⟨bk_ BK389⟩, ⟨bk_ BK390⟩, ⟨hb_ HB⟩⟩
  subst c14
  have H1 := H
  rw [if_pos rfl] at H1
  clear H
  have H := H1
  clear H1
  replace H := Option.bind_eq_some_iff.mp H
  obtain ⟨t393, A150, H⟩ := H
  try dsimp only at H
  have A15 := Aside0.mk A150
  clear A150
  refine neg_first (p := (t393 = 0)) (fun c16 => ?_) (fun c16 => ?_)
  ·rw [if_neg c16] at H
   have c16b0 : (t393 == 0) = false := beq_eq_false_iff_ne.mpr c16
   have c16b1 : (t393 != 0) = true := bne_iff_ne.mpr c16
   (first | rw [c16b0] | (simp only [i64_w, i32_w]; rw [c16b0]) | skip)
   have H' := Aside0.mk H
   clear H
   have hnb24 := NB389_390.out
   have hnc24 := NB390_389.out
   have hcz25_0 : w7.cell? ⟨gb389, 0, none⟩ = some (.slice A0_0 l0_0.length c0_0) := (blk_cell BK389.out 0).trans rfl
   have hcz25_1 : w7.cell? ⟨gb389, 1, none⟩ = some (.int .i64 a0_1) := (blk_cell BK389.out 1).trans rfl
   have hcz25_2 : w7.cell? ⟨gb389, 2, none⟩ = some (.string a0_2) := (blk_cell BK389.out 2).trans rfl
   have hcz25_3 : w7.cell? ⟨gb389, 3, none⟩ = some (.int .u32 a0_3) := (blk_cell BK389.out 3).trans rfl
   have hcz25_4 : w7.cell? ⟨gb389, 4, none⟩ = some (.bool a0_4) := (blk_cell BK389.out 4).trans rfl
   have hfz25_0 := blk_frozen BK389.out 0
   have hfz25_1 := blk_frozen BK389.out 1
   have hfz25_2 := blk_frozen BK389.out 2
   have hfz25_3 := blk_frozen BK389.out 3
   have hfz25_4 := blk_frozen BK389.out 4
   go_wp2_with (first | ((with_reducible refine gate_callee (f := 11) rfl ?_); refine goesL_ (some 23) rfl rfl Tryd.func11 (by kernel_rfl) rfl #[.agg #[.slice A0_0 l0_0.length c0_0, .int .i64 a0_1, .string a0_2, .int .u32 a0_3, .bool a0_4]] rfl (by (try simp only [List.map_toArray, List.map_cons, List.map_nil]); first | done | rfl | (simp only [List.length_drop, List.length_take]; rfl)) ?_; (with_reducible refine (headgatelaw10_Large.calls k _ _ l0_0 a0_1 a0_2 a0_3 a0_4 false _ ?side1 ?side2 A8.out).mono ?_); (case side1 => repeat (first | exact (Kd.C_below HR0_0.out HB.out) | (with_reducible refine Kd.C_alloc ?_ _) | (with_reducible refine Kd.C_drewN ?_ _) | (with_reducible refine Kd.C_drew ?_))); (case side2 => exact HC0_0.out); rintro e w26 ⟨rfl, hb⟩; refine ⟨_, rfl, ?_⟩; have n0_ := Aside0.mk (blk_below (bk_ BK389) hb); have n1_ := Aside0.mk (blk_below (bk_ BK390) hb); have n2_ := Aside0.mk (below_step (hb_ HB) hb); clear BK389; clear BK390; clear HB; have BK389 := n0_; have BK390 := n1_; have HB := n2_; clear n0_ n1_ n2_; (try clear hb); (try clear hb2); (try clear hk); (try clear hi); have hcz27_0 : w26.cell? ⟨gb389, 0, none⟩ = some (.slice A0_0 l0_0.length c0_0) := (blk_cell BK389.out 0).trans rfl; have hcz27_1 : w26.cell? ⟨gb389, 1, none⟩ = some (.int .i64 a0_1) := (blk_cell BK389.out 1).trans rfl; have hcz27_2 : w26.cell? ⟨gb389, 2, none⟩ = some (.string a0_2) := (blk_cell BK389.out 2).trans rfl; have hcz27_3 : w26.cell? ⟨gb389, 3, none⟩ = some (.int .u32 a0_3) := (blk_cell BK389.out 3).trans rfl; have hcz27_4 : w26.cell? ⟨gb389, 4, none⟩ = some (.bool a0_4) := (blk_cell BK389.out 4).trans rfl; have hfz27_0 := blk_frozen BK389.out 0; have hfz27_1 := blk_frozen BK389.out 1; have hfz27_2 := blk_frozen BK389.out 2; have hfz27_3 := blk_frozen BK389.out 3; have hfz27_4 := blk_frozen BK389.out 4) | (go_at_call 20; (with_reducible refine (headgateref11_Good.calls k _ _ l0_0 a0_1 a0_2 a0_3 a0_4 true _ ?side1 ?side2 A13.out).mono ?_); (case side1 => repeat (first | exact (Kd.C_below HR0_0.out HB.out) | (with_reducible refine Kd.C_alloc ?_ _) | (with_reducible refine Kd.C_drewN ?_ _) | (with_reducible refine Kd.C_drew ?_))); (case side2 => exact HC0_0.out); rintro e w28 ⟨rfl, hb⟩; have n0_ := Aside0.mk (blk_below (bk_ BK389) hb); have n1_ := Aside0.mk (blk_below (bk_ BK390) hb); have n2_ := Aside0.mk (below_step (hb_ HB) hb); clear BK389; clear BK390; clear HB; have BK389 := n0_; have BK390 := n1_; have HB := n2_; clear n0_ n1_ n2_; (try clear hb); (try clear hb2); (try clear hk); (try clear hi); have hcz29_0 : w28.cell? ⟨gb389, 0, none⟩ = some (.slice A0_0 l0_0.length c0_0) := (blk_cell BK389.out 0).trans rfl; have hcz29_1 : w28.cell? ⟨gb389, 1, none⟩ = some (.int .i64 a0_1) := (blk_cell BK389.out 1).trans rfl; have hcz29_2 : w28.cell? ⟨gb389, 2, none⟩ = some (.string a0_2) := (blk_cell BK389.out 2).trans rfl; have hcz29_3 : w28.cell? ⟨gb389, 3, none⟩ = some (.int .u32 a0_3) := (blk_cell BK389.out 3).trans rfl; have hcz29_4 : w28.cell? ⟨gb389, 4, none⟩ = some (.bool a0_4) := (blk_cell BK389.out 4).trans rfl; have hfz29_0 := blk_frozen BK389.out 0; have hfz29_1 := blk_frozen BK389.out 1; have hfz29_2 := blk_frozen BK389.out 2; have hfz29_3 := blk_frozen BK389.out 3; have hfz29_4 := blk_frozen BK389.out 4) | (go_at_call 19; (with_reducible refine (headgateref11_Key.calls k _ _ l0_0 a0_1 a0_2 a0_3 a0_4 a1 t393 _ ?side1 ?side2 A15.out).mono ?_); (case side1 => repeat (first | exact (Kd.C_below HR0_0.out HB.out) | (with_reducible refine Kd.C_alloc ?_ _) | (with_reducible refine Kd.C_drewN ?_ _) | (with_reducible refine Kd.C_drew ?_))); (case side2 => exact HC0_0.out); rintro e w30 ⟨rfl, hb⟩; have n0_ := Aside0.mk (blk_below (bk_ BK389) hb); have n1_ := Aside0.mk (blk_below (bk_ BK390) hb); have n2_ := Aside0.mk (below_step (hb_ HB) hb); clear BK389; clear BK390; clear HB; have BK389 := n0_; have BK390 := n1_; have HB := n2_; clear n0_ n1_ n2_; (try clear hb); (try clear hb2); (try clear hk); (try clear hi)))
   go_meet
   case rel => exact ⟨_, ((a2_0 == 0)), (by first | rfl | (simp; done) | (simp [*]; done)), H', ⟨by first | omega | exact Nat.le_refl _⟩, ⟨bk_ BK389⟩, ⟨bk_ BK390⟩, ⟨hb_ HB⟩⟩
  rw [if_pos c16] at H
  have c16b0 : (t393 == 0) = true := beq_iff_eq.mpr c16
  have c16b1 : (t393 != 0) = false := bne_eq_false_iff_eq.mpr c16
  clear c16
  (first | rw [c16b0] | (simp only [i64_w, i32_w]; rw [c16b0]) | skip)
  have H' := Aside0.mk H
  clear H
  have hnb17 := NB389_390.out
  have hnc17 := NB390_389.out
  have hcz18_0 : w7.cell? ⟨gb389, 0, none⟩ = some (.slice A0_0 l0_0.length c0_0) := (blk_cell BK389.out 0).trans rfl
  have hcz18_1 : w7.cell? ⟨gb389, 1, none⟩ = some (.int .i64 a0_1) := (blk_cell BK389.out 1).trans rfl
  have hcz18_2 : w7.cell? ⟨gb389, 2, none⟩ = some (.string a0_2) := (blk_cell BK389.out 2).trans rfl
  have hcz18_3 : w7.cell? ⟨gb389, 3, none⟩ = some (.int .u32 a0_3) := (blk_cell BK389.out 3).trans rfl
  have hcz18_4 : w7.cell? ⟨gb389, 4, none⟩ = some (.bool a0_4) := (blk_cell BK389.out 4).trans rfl
  have hfz18_0 := blk_frozen BK389.out 0
  have hfz18_1 := blk_frozen BK389.out 1
  have hfz18_2 := blk_frozen BK389.out 2
  have hfz18_3 := blk_frozen BK389.out 3
  have hfz18_4 := blk_frozen BK389.out 4
  go_wp2_with (first | ((with_reducible refine gate_callee (f := 11) rfl ?_); refine goesL_ (some 23) rfl rfl Tryd.func11 (by kernel_rfl) rfl #[.agg #[.slice A0_0 l0_0.length c0_0, .int .i64 a0_1, .string a0_2, .int .u32 a0_3, .bool a0_4]] rfl (by (try simp only [List.map_toArray, List.map_cons, List.map_nil]); first | done | rfl | (simp only [List.length_drop, List.length_take]; rfl)) ?_; (with_reducible refine (headgatelaw10_Large.calls k _ _ l0_0 a0_1 a0_2 a0_3 a0_4 false _ ?side1 ?side2 A8.out).mono ?_); (case side1 => repeat (first | exact (Kd.C_below HR0_0.out HB.out) | (with_reducible refine Kd.C_alloc ?_ _) | (with_reducible refine Kd.C_drewN ?_ _) | (with_reducible refine Kd.C_drew ?_))); (case side2 => exact HC0_0.out); rintro e w19 ⟨rfl, hb⟩; refine ⟨_, rfl, ?_⟩; have n0_ := Aside0.mk (blk_below (bk_ BK389) hb); have n1_ := Aside0.mk (blk_below (bk_ BK390) hb); have n2_ := Aside0.mk (below_step (hb_ HB) hb); clear BK389; clear BK390; clear HB; have BK389 := n0_; have BK390 := n1_; have HB := n2_; clear n0_ n1_ n2_; (try clear hb); (try clear hb2); (try clear hk); (try clear hi); have hcz20_0 : w19.cell? ⟨gb389, 0, none⟩ = some (.slice A0_0 l0_0.length c0_0) := (blk_cell BK389.out 0).trans rfl; have hcz20_1 : w19.cell? ⟨gb389, 1, none⟩ = some (.int .i64 a0_1) := (blk_cell BK389.out 1).trans rfl; have hcz20_2 : w19.cell? ⟨gb389, 2, none⟩ = some (.string a0_2) := (blk_cell BK389.out 2).trans rfl; have hcz20_3 : w19.cell? ⟨gb389, 3, none⟩ = some (.int .u32 a0_3) := (blk_cell BK389.out 3).trans rfl; have hcz20_4 : w19.cell? ⟨gb389, 4, none⟩ = some (.bool a0_4) := (blk_cell BK389.out 4).trans rfl; have hfz20_0 := blk_frozen BK389.out 0; have hfz20_1 := blk_frozen BK389.out 1; have hfz20_2 := blk_frozen BK389.out 2; have hfz20_3 := blk_frozen BK389.out 3; have hfz20_4 := blk_frozen BK389.out 4) | (go_at_call 20; (with_reducible refine (headgateref11_Good.calls k _ _ l0_0 a0_1 a0_2 a0_3 a0_4 true _ ?side1 ?side2 A13.out).mono ?_); (case side1 => repeat (first | exact (Kd.C_below HR0_0.out HB.out) | (with_reducible refine Kd.C_alloc ?_ _) | (with_reducible refine Kd.C_drewN ?_ _) | (with_reducible refine Kd.C_drew ?_))); (case side2 => exact HC0_0.out); rintro e w21 ⟨rfl, hb⟩; have n0_ := Aside0.mk (blk_below (bk_ BK389) hb); have n1_ := Aside0.mk (blk_below (bk_ BK390) hb); have n2_ := Aside0.mk (below_step (hb_ HB) hb); clear BK389; clear BK390; clear HB; have BK389 := n0_; have BK390 := n1_; have HB := n2_; clear n0_ n1_ n2_; (try clear hb); (try clear hb2); (try clear hk); (try clear hi); have hcz22_0 : w21.cell? ⟨gb389, 0, none⟩ = some (.slice A0_0 l0_0.length c0_0) := (blk_cell BK389.out 0).trans rfl; have hcz22_1 : w21.cell? ⟨gb389, 1, none⟩ = some (.int .i64 a0_1) := (blk_cell BK389.out 1).trans rfl; have hcz22_2 : w21.cell? ⟨gb389, 2, none⟩ = some (.string a0_2) := (blk_cell BK389.out 2).trans rfl; have hcz22_3 : w21.cell? ⟨gb389, 3, none⟩ = some (.int .u32 a0_3) := (blk_cell BK389.out 3).trans rfl; have hcz22_4 : w21.cell? ⟨gb389, 4, none⟩ = some (.bool a0_4) := (blk_cell BK389.out 4).trans rfl; have hfz22_0 := blk_frozen BK389.out 0; have hfz22_1 := blk_frozen BK389.out 1; have hfz22_2 := blk_frozen BK389.out 2; have hfz22_3 := blk_frozen BK389.out 3; have hfz22_4 := blk_frozen BK389.out 4) | (go_at_call 19; (with_reducible refine (headgateref11_Key.calls k _ _ l0_0 a0_1 a0_2 a0_3 a0_4 a1 t393 _ ?side1 ?side2 A15.out).mono ?_); (case side1 => repeat (first | exact (Kd.C_below HR0_0.out HB.out) | (with_reducible refine Kd.C_alloc ?_ _) | (with_reducible refine Kd.C_drewN ?_ _) | (with_reducible refine Kd.C_drew ?_))); (case side2 => exact HC0_0.out); rintro e w23 ⟨rfl, hb⟩; have n0_ := Aside0.mk (blk_below (bk_ BK389) hb); have n1_ := Aside0.mk (blk_below (bk_ BK390) hb); have n2_ := Aside0.mk (below_step (hb_ HB) hb); clear BK389; clear BK390; clear HB; have BK389 := n0_; have BK390 := n1_; have HB := n2_; clear n0_ n1_ n2_; (try clear hb); (try clear hb2); (try clear hk); (try clear hi)))
  go_meet
  case rel => exact ⟨_, (true), (by first | rfl | (simp; done) | (simp [*]; done)), H', ⟨by first | omega | exact Nat.le_refl _⟩, ⟨bk_ BK389⟩, ⟨bk_ BK390⟩, ⟨hb_ HB⟩⟩
 case rest =>
  clear HC4
  try clear c1
  try clear c2
  try clear p2
  try clear c3
  try clear c6
  try clear p6
  try clear c9
  try clear c10
  try clear c11
  try clear c14
  try clear c16
  try clear c16b0
  try clear c16b1
  try clear c17
  try clear c24
  try clear c31
  try clear hcz11_0
  try clear hcz11_1
  try clear hcz11_2
  try clear hcz11_3
  try clear hcz11_4
  try clear hcz18_0
  try clear hcz18_1
  try clear hcz18_2
  try clear hcz18_3
  try clear hcz18_4
  try clear hcz20_0
  try clear hcz20_1
  try clear hcz20_2
  try clear hcz20_3
  try clear hcz20_4
  try clear hcz22_0
  try clear hcz22_1
  try clear hcz22_2
  try clear hcz22_3
  try clear hcz22_4
  try clear hcz25_0
  try clear hcz25_1
  try clear hcz25_2
  try clear hcz25_3
  try clear hcz25_4
  try clear hcz27_0
  try clear hcz27_1
  try clear hcz27_2
  try clear hcz27_3
  try clear hcz27_4
  try clear hcz29_0
  try clear hcz29_1
  try clear hcz29_2
  try clear hcz29_3
  try clear hcz29_4
  try clear hcz32_0
  try clear hcz32_1
  try clear hcz32_2
  try clear hcz32_3
  try clear hcz32_4
  try clear hcz34_0
  try clear hcz34_1
  try clear hcz34_2
  try clear hcz34_3
  try clear hcz34_4
  try clear hfz11_0
  try clear hfz11_1
  try clear hfz11_2
  try clear hfz11_3
  try clear hfz11_4
  try clear hfz18_0
  try clear hfz18_1
  try clear hfz18_2
  try clear hfz18_3
  try clear hfz18_4
  try clear hfz20_0
  try clear hfz20_1
  try clear hfz20_2
  try clear hfz20_3
  try clear hfz20_4
  try clear hfz22_0
  try clear hfz22_1
  try clear hfz22_2
  try clear hfz22_3
  try clear hfz22_4
  try clear hfz25_0
  try clear hfz25_1
  try clear hfz25_2
  try clear hfz25_3
  try clear hfz25_4
  try clear hfz27_0
  try clear hfz27_1
  try clear hfz27_2
  try clear hfz27_3
  try clear hfz27_4
  try clear hfz29_0
  try clear hfz29_1
  try clear hfz29_2
  try clear hfz29_3
  try clear hfz29_4
  try clear hfz32_0
  try clear hfz32_1
  try clear hfz32_2
  try clear hfz32_3
  try clear hfz32_4
  try clear hfz34_0
  try clear hfz34_1
  try clear hfz34_2
  try clear hfz34_3
  try clear hfz34_4
  obtain ⟨kq, x38_3, rfl, HA, HJ3, BK389, BK390, HB⟩ := hcut
  cases kq with
  | zero => exact absurd HA.out (by simp [headgatelaw11_ResvStruck.j0])
  | succ kj3 =>
   have H := HA.out
   clear HA
   simp only [headgatelaw11_ResvStruck.j0] at H
   by_cases c36 : x38_3 = true
   ·subst c36
    have H1 := H
    rw [if_pos rfl] at H1
    clear H
    have H := H1
    clear H1
    replace H := Option.bind_eq_some_iff.mp H
    obtain ⟨t394, A370, H⟩ := H
    try dsimp only at H
    have A37 := Aside0.mk A370
    clear A370
    obtain rfl := Option.some.inj H
    go_wp2_with (first | ((with_reducible refine gate_callee (f := 13) rfl ?_); refine goesL_ (some 39) rfl rfl Tryd.func13 (by kernel_rfl) rfl #[] rfl (by (try simp only [List.map_toArray, List.map_cons, List.map_nil]); first | done | rfl | (simp only [List.length_drop, List.length_take]; rfl)) ?_; (with_reducible refine (headgatelaw11_wakes.calls kj3  t394 _ ?side1 A37.out).mono ?_); (case side1 => first | ((refine Glob.keep HG.out ?_); (repeat (first | (with_reducible first | exact HB.out | apply below_alloc | apply pw_below_drewN | apply below_drew1 | refine below_set ?_ GE389.out | refine below_set ?_ GE390.out) | exact HB.out)); done) | exact HG.out); rintro e w38 ⟨rfl, hb⟩; refine ⟨_, rfl, ?_⟩; have n0_ := Aside0.mk (blk_below (bk_ BK389) hb); have n1_ := Aside0.mk (blk_below (bk_ BK390) hb); have n2_ := Aside0.mk (below_step (hb_ HB) hb); clear BK389; clear BK390; clear HB; have BK389 := n0_; have BK390 := n1_; have HB := n2_; clear n0_ n1_ n2_; (try clear hb); (try clear hb2); (try clear hk); (try clear hi)))
    go_ret
    exact ⟨by first | rfl | (simp [errW_none, errW_some] <;> rfl) | (simp [*, errW_none, errW_some] <;> rfl) | (simp [bt, *]; done) | (unfold bt; simp [*]; done), by repeat (first | (with_reducible first | exact HB.out | apply below_alloc | apply pw_below_drewN | apply below_drew1 | refine below_set ?_ GE389.out | refine below_set ?_ GE390.out) | exact HB.out)⟩
   replace c36 := Bool.eq_false_iff.mpr c36
   subst c36
   have H1 := H
   rw [if_neg (show ¬ (false = true) by decide)] at H1
   clear H
   have H := H1
   clear H1
   replace H := Option.bind_eq_some_iff.mp H
   obtain ⟨t395, A390, H⟩ := H
   try dsimp only at H
   have A39 := Aside0.mk A390
   clear A390
   replace H := Option.bind_eq_some_iff.mp H
   obtain ⟨t396, A400, H⟩ := H
   try dsimp only at H
   have A40 := Aside0.mk A400
   clear A400
   replace H := Option.bind_eq_some_iff.mp H
   obtain ⟨⟨t398, t401, t402, t403, t404⟩, A410, H⟩ := H
   try dsimp only at H
   have A41 := Aside0.mk A410
   clear A410
   replace H := Option.bind_eq_some_iff.mp H
   obtain ⟨⟨t405, t408, t409, t410, t411, t412, t415⟩, A420, H⟩ := H
   try dsimp only at H
   have A42 := Aside0.mk A420
   clear A420
   have H' := Aside0.mk H
   clear H
   have hnb43 := NB389_390.out
   have hnc43 := NB390_389.out
   have hcz44_0 : wc.cell? ⟨gb389, 0, none⟩ = some (.slice A0_0 l0_0.length c0_0) := (blk_cell BK389.out 0).trans rfl
   have hcz44_1 : wc.cell? ⟨gb389, 1, none⟩ = some (.int .i64 a0_1) := (blk_cell BK389.out 1).trans rfl
   have hcz44_2 : wc.cell? ⟨gb389, 2, none⟩ = some (.string a0_2) := (blk_cell BK389.out 2).trans rfl
   have hcz44_3 : wc.cell? ⟨gb389, 3, none⟩ = some (.int .u32 a0_3) := (blk_cell BK389.out 3).trans rfl
   have hcz44_4 : wc.cell? ⟨gb389, 4, none⟩ = some (.bool a0_4) := (blk_cell BK389.out 4).trans rfl
   have hfz44_0 := blk_frozen BK389.out 0
   have hfz44_1 := blk_frozen BK389.out 1
   have hfz44_2 := blk_frozen BK389.out 2
   have hfz44_3 := blk_frozen BK389.out 3
   have hfz44_4 := blk_frozen BK389.out 4
   try go_wp2_with (first | ((with_reducible refine gate_callee (f := 19) rfl ?_); refine goesL_ (some 43) rfl rfl Tryd.func19 (by kernel_rfl) rfl #[.agg #[.slice A0_0 l0_0.length c0_0, .int .i64 a0_1, .string a0_2, .int .u32 a0_3, .bool a0_4], .string a1] rfl (by (try simp only [List.map_toArray, List.map_cons, List.map_nil]); first | done | rfl | (simp only [List.length_drop, List.length_take]; rfl)) ?_; (with_reducible refine (headgateref11_Key.calls kj3 _ _ l0_0 a0_1 a0_2 a0_3 a0_4 a1 t395 _ ?side1 ?side2 A39.out).mono ?_); (case side1 => repeat (first | exact (Kd.C_below HR0_0.out HB.out) | (with_reducible refine Kd.C_alloc ?_ _) | (with_reducible refine Kd.C_drewN ?_ _) | (with_reducible refine Kd.C_drew ?_))); (case side2 => exact HC0_0.out); rintro e w45 ⟨rfl, hb⟩; refine ⟨_, rfl, ?_⟩; have n0_ := Aside0.mk (blk_below (bk_ BK389) hb); have n1_ := Aside0.mk (blk_below (bk_ BK390) hb); have n2_ := Aside0.mk (below_step (hb_ HB) hb); clear BK389; clear BK390; clear HB; have BK389 := n0_; have BK390 := n1_; have HB := n2_; clear n0_ n1_ n2_; (try clear hb); (try clear hb2); (try clear hk); (try clear hi)) | ((with_reducible refine gate_callee (f := 22) rfl ?_); refine goesL_ (some 46) rfl rfl Tryd.func22 (by kernel_rfl) rfl #[.int .i64 (wrap64 (Int.tmod a2_1 6)), .int .i64 6] rfl (by (try simp only [List.map_toArray, List.map_cons, List.map_nil]); first | done | rfl | (simp only [List.length_drop, List.length_take]; rfl)) ?_; (with_reducible refine (headgatekeep_Mod.calls (wrap64 (Int.tmod a2_1 6)) 6 t396 _ A40.out).mono ?_); rintro e w' ⟨rfl, ⟨nd, rfl⟩⟩; refine ⟨_, rfl, ?_⟩; (try (rw [drewN_self w45]; generalize hq_ : World.drewN w45 _ = w45; have n0_ : Aside0 (w45.heap[gb389]? = some (.cells #[.slice A0_0 l0_0.length c0_0, .int .i64 a0_1, .string a0_2, .int .u32 a0_3, .bool a0_4] 27 (0, 0))) := ⟨by rw [← hq_]; exact (bk_ BK389)⟩; have n1_ : Aside0 (w45.heap[gb390]? = some (.cells #[.int .u64 a2_0, .int .u64 a2_1] 50 (0, 0))) := ⟨by rw [← hq_]; exact (bk_ BK390)⟩; have n2_ : Aside0 (Below w.heap.size w w45) := ⟨by rw [← hq_]; exact (hb_ HB)⟩; clear BK389 BK390 HB hq_; have BK389 := n0_; have BK390 := n1_; have HB := n2_; clear n0_ n1_ n2_))) | ((with_reducible refine gate_dst (N := 9) rfl ?_); refine box_event ?hg (N := 9) ?hd (cs := #[.int .i64 0, .int .i64 0, .string (⟨#[]⟩ : ByteArray), .int .i64 0, .int .i64 0, .string (⟨#[]⟩ : ByteArray), .bool false, .slice none 0 0, .int .u64 0, .int .u64 0, .int .u64 0, .int .i64 0, .bool false, .int .i64 0]) (t := 31) ?hr ?_; (case hd => rfl); (case hg => rfl); (case hr => first | (go_simp; done) | (go_simp; rfl)); intro gb397 hg w46 hbox hb; have n0_ := Aside0.mk (blk_below (bk_ BK389) hb); have n1_ := Aside0.mk (blk_below (bk_ BK390) hb); have n2_ := Aside0.mk (below_step (hb_ HB) hb); have n3_ := Aside0.mk (hbox); have n4_ := Aside0.mk ((by rw [hg]; exact (below_size (hb_ HB)) : w.heap.size ≤ gb397)); have n5_ := Aside0.mk ((by rw [hg]; exact (below_size (hb_ HB)) : w.heap.size ≤ gb397)); have n6_ := Aside0.mk ((by rw [hg]; exact Nat.ne_of_lt (blk_lt (g := gb389) (o := .cells #[.slice A0_0 l0_0.length c0_0, .int .i64 a0_1, .string a0_2, .int .u32 a0_3, .bool a0_4] 27 (0, 0)) (bk_ BK389)) : gb389 ≠ gb397)); have n7_ := Aside0.mk ((by rw [hg]; exact Nat.ne_of_gt (blk_lt (g := gb389) (o := .cells #[.slice A0_0 l0_0.length c0_0, .int .i64 a0_1, .string a0_2, .int .u32 a0_3, .bool a0_4] 27 (0, 0)) (bk_ BK389)) : gb397 ≠ gb389)); have n8_ := Aside0.mk ((by rw [hg]; exact Nat.ne_of_lt (blk_lt (g := gb390) (o := .cells #[.int .u64 a2_0, .int .u64 a2_1] 50 (0, 0)) (bk_ BK390)) : gb390 ≠ gb397)); have n9_ := Aside0.mk ((by rw [hg]; exact Nat.ne_of_gt (blk_lt (g := gb390) (o := .cells #[.int .u64 a2_0, .int .u64 a2_1] 50 (0, 0)) (bk_ BK390)) : gb397 ≠ gb390)); clear BK389; clear BK390; clear HB; have BK389 := n0_; have BK390 := n1_; have HB := n2_; have BK397 := n3_; have GW397 := n4_; have GE397 := n5_; have NB389_397 := n6_; have NB397_389 := n7_; have NB390_397 := n8_; have NB397_390 := n9_; clear n0_ n1_ n2_ n3_ n4_ n5_ n6_ n7_ n8_ n9_; clear hb hbox hg; have hnb47 := NB397_389.out; have hnc47 := NB389_397.out; have hnb48 := NB397_390.out; have hnc48 := NB390_397.out; have hcz49_0 : w46.cell? ⟨gb397, 0, none⟩ = some (.int .i64 0) := (blk_cell BK397.out 0).trans rfl; have hcz49_1 : w46.cell? ⟨gb397, 1, none⟩ = some (.int .i64 0) := (blk_cell BK397.out 1).trans rfl; have hcz49_2 : w46.cell? ⟨gb397, 2, none⟩ = some (.string (⟨#[]⟩ : ByteArray)) := (blk_cell BK397.out 2).trans rfl; have hcz49_3 : w46.cell? ⟨gb397, 3, none⟩ = some (.int .i64 0) := (blk_cell BK397.out 3).trans rfl; have hcz49_4 : w46.cell? ⟨gb397, 4, none⟩ = some (.int .i64 0) := (blk_cell BK397.out 4).trans rfl; have hcz49_5 : w46.cell? ⟨gb397, 5, none⟩ = some (.string (⟨#[]⟩ : ByteArray)) := (blk_cell BK397.out 5).trans rfl; have hcz49_6 : w46.cell? ⟨gb397, 6, none⟩ = some (.bool false) := (blk_cell BK397.out 6).trans rfl; have hcz49_7 : w46.cell? ⟨gb397, 7, none⟩ = some (.slice none 0 0) := (blk_cell BK397.out 7).trans rfl; have hcz49_8 : w46.cell? ⟨gb397, 8, none⟩ = some (.int .u64 0) := (blk_cell BK397.out 8).trans rfl; have hcz49_9 : w46.cell? ⟨gb397, 9, none⟩ = some (.int .u64 0) := (blk_cell BK397.out 9).trans rfl; have hcz49_10 : w46.cell? ⟨gb397, 10, none⟩ = some (.int .u64 0) := (blk_cell BK397.out 10).trans rfl; have hcz49_11 : w46.cell? ⟨gb397, 11, none⟩ = some (.int .i64 0) := (blk_cell BK397.out 11).trans rfl; have hcz49_12 : w46.cell? ⟨gb397, 12, none⟩ = some (.bool false) := (blk_cell BK397.out 12).trans rfl; have hcz49_13 : w46.cell? ⟨gb397, 13, none⟩ = some (.int .i64 0) := (blk_cell BK397.out 13).trans rfl; have hfz49_0 := blk_frozen BK397.out 0; have hfz49_1 := blk_frozen BK397.out 1; have hfz49_2 := blk_frozen BK397.out 2; have hfz49_3 := blk_frozen BK397.out 3; have hfz49_4 := blk_frozen BK397.out 4; have hfz49_5 := blk_frozen BK397.out 5; have hfz49_6 := blk_frozen BK397.out 6; have hfz49_7 := blk_frozen BK397.out 7; have hfz49_8 := blk_frozen BK397.out 8; have hfz49_9 := blk_frozen BK397.out 9; have hfz49_10 := blk_frozen BK397.out 10; have hfz49_11 := blk_frozen BK397.out 11; have hfz49_12 := blk_frozen BK397.out 12; have hfz49_13 := blk_frozen BK397.out 13))
   have n0_ : Aside0 (((((((((((((((w46.setCell ⟨gb397, 0, none⟩ (.int .i64 12)).setCell ⟨gb397, 1, none⟩ (.int .i64 0)).setCell ⟨gb397, 2, none⟩ (.string a1)).setCell ⟨gb397, 3, none⟩ (.int .i64 0)).setCell ⟨gb397, 4, none⟩ (.int .i64 0)).setCell ⟨gb397, 5, none⟩ (.string (⟨#[]⟩ : ByteArray))).setCell ⟨gb397, 6, none⟩ (.bool false)).setCell ⟨gb397, 7, none⟩ (.slice none 0 0)).setCell ⟨gb397, 8, none⟩ (.int .u64 t395)).setCell ⟨gb397, 9, none⟩ (.int .u64 0)).setCell ⟨gb397, 10, none⟩ (.int .u64 a2_0)).setCell ⟨gb397, 11, none⟩ (.int .i64 (wrap64 (1 + t396)))).setCell ⟨gb397, 12, none⟩ (.bool false)).setCell ⟨gb397, 13, none⟩ (.int .i64 0)).heap[gb389]? = some (.cells #[.slice A0_0 l0_0.length c0_0, .int .i64 a0_1, .string a0_2, .int .u32 a0_3, .bool a0_4] 27 (0, 0))) := ⟨by (with_reducible repeat (first | refine blk_drewN ?_ _ | refine blk_drew ?_ | refine blk_alloc ?_ _ | refine blk_far ?_ NB389_397.out _)); exact BK389.out⟩
   have n1_ : Aside0 (((((((((((((((w46.setCell ⟨gb397, 0, none⟩ (.int .i64 12)).setCell ⟨gb397, 1, none⟩ (.int .i64 0)).setCell ⟨gb397, 2, none⟩ (.string a1)).setCell ⟨gb397, 3, none⟩ (.int .i64 0)).setCell ⟨gb397, 4, none⟩ (.int .i64 0)).setCell ⟨gb397, 5, none⟩ (.string (⟨#[]⟩ : ByteArray))).setCell ⟨gb397, 6, none⟩ (.bool false)).setCell ⟨gb397, 7, none⟩ (.slice none 0 0)).setCell ⟨gb397, 8, none⟩ (.int .u64 t395)).setCell ⟨gb397, 9, none⟩ (.int .u64 0)).setCell ⟨gb397, 10, none⟩ (.int .u64 a2_0)).setCell ⟨gb397, 11, none⟩ (.int .i64 (wrap64 (1 + t396)))).setCell ⟨gb397, 12, none⟩ (.bool false)).setCell ⟨gb397, 13, none⟩ (.int .i64 0)).heap[gb390]? = some (.cells #[.int .u64 a2_0, .int .u64 a2_1] 50 (0, 0))) := ⟨by (with_reducible repeat (first | refine blk_drewN ?_ _ | refine blk_drew ?_ | refine blk_alloc ?_ _ | refine blk_far ?_ NB390_397.out _)); exact BK390.out⟩
   have n2_ : Aside0 (((((((((((((((w46.setCell ⟨gb397, 0, none⟩ (.int .i64 12)).setCell ⟨gb397, 1, none⟩ (.int .i64 0)).setCell ⟨gb397, 2, none⟩ (.string a1)).setCell ⟨gb397, 3, none⟩ (.int .i64 0)).setCell ⟨gb397, 4, none⟩ (.int .i64 0)).setCell ⟨gb397, 5, none⟩ (.string (⟨#[]⟩ : ByteArray))).setCell ⟨gb397, 6, none⟩ (.bool false)).setCell ⟨gb397, 7, none⟩ (.slice none 0 0)).setCell ⟨gb397, 8, none⟩ (.int .u64 t395)).setCell ⟨gb397, 9, none⟩ (.int .u64 0)).setCell ⟨gb397, 10, none⟩ (.int .u64 a2_0)).setCell ⟨gb397, 11, none⟩ (.int .i64 (wrap64 (1 + t396)))).setCell ⟨gb397, 12, none⟩ (.bool false)).setCell ⟨gb397, 13, none⟩ (.int .i64 0)).heap[gb397]? = some (.cells #[.int .i64 12, .int .i64 0, .string a1, .int .i64 0, .int .i64 0, .string (⟨#[]⟩ : ByteArray), .bool false, .slice none 0 0, .int .u64 t395, .int .u64 0, .int .u64 a2_0, .int .i64 (wrap64 (1 + t396)), .bool false, .int .i64 0] 31 (0, 0))) := ⟨by (with_reducible repeat (first | refine blk_drewN ?_ _ | refine blk_drew ?_ | refine blk_alloc ?_ _)); refine blk_put (cs := #[.int .i64 12, .int .i64 0, .string a1, .int .i64 0, .int .i64 0, .string (⟨#[]⟩ : ByteArray), .bool false, .slice none 0 0, .int .u64 t395, .int .u64 0, .int .u64 a2_0, .int .i64 (wrap64 (1 + t396)), .bool false, .int .i64 0]) ?_ 13 _ rfl; (with_reducible repeat (first | refine blk_drewN ?_ _ | refine blk_drew ?_ | refine blk_alloc ?_ _)); refine blk_put (cs := #[.int .i64 12, .int .i64 0, .string a1, .int .i64 0, .int .i64 0, .string (⟨#[]⟩ : ByteArray), .bool false, .slice none 0 0, .int .u64 t395, .int .u64 0, .int .u64 a2_0, .int .i64 (wrap64 (1 + t396)), .bool false, .int .i64 0]) ?_ 12 _ rfl; (with_reducible repeat (first | refine blk_drewN ?_ _ | refine blk_drew ?_ | refine blk_alloc ?_ _)); refine blk_put (cs := #[.int .i64 12, .int .i64 0, .string a1, .int .i64 0, .int .i64 0, .string (⟨#[]⟩ : ByteArray), .bool false, .slice none 0 0, .int .u64 t395, .int .u64 0, .int .u64 a2_0, .int .i64 0, .bool false, .int .i64 0]) ?_ 11 _ rfl; (with_reducible repeat (first | refine blk_drewN ?_ _ | refine blk_drew ?_ | refine blk_alloc ?_ _)); refine blk_put (cs := #[.int .i64 12, .int .i64 0, .string a1, .int .i64 0, .int .i64 0, .string (⟨#[]⟩ : ByteArray), .bool false, .slice none 0 0, .int .u64 t395, .int .u64 0, .int .u64 0, .int .i64 0, .bool false, .int .i64 0]) ?_ 10 _ rfl; (with_reducible repeat (first | refine blk_drewN ?_ _ | refine blk_drew ?_ | refine blk_alloc ?_ _)); refine blk_put (cs := #[.int .i64 12, .int .i64 0, .string a1, .int .i64 0, .int .i64 0, .string (⟨#[]⟩ : ByteArray), .bool false, .slice none 0 0, .int .u64 t395, .int .u64 0, .int .u64 0, .int .i64 0, .bool false, .int .i64 0]) ?_ 9 _ rfl; (with_reducible repeat (first | refine blk_drewN ?_ _ | refine blk_drew ?_ | refine blk_alloc ?_ _)); refine blk_put (cs := #[.int .i64 12, .int .i64 0, .string a1, .int .i64 0, .int .i64 0, .string (⟨#[]⟩ : ByteArray), .bool false, .slice none 0 0, .int .u64 0, .int .u64 0, .int .u64 0, .int .i64 0, .bool false, .int .i64 0]) ?_ 8 _ rfl; (with_reducible repeat (first | refine blk_drewN ?_ _ | refine blk_drew ?_ | refine blk_alloc ?_ _)); refine blk_put (cs := #[.int .i64 12, .int .i64 0, .string a1, .int .i64 0, .int .i64 0, .string (⟨#[]⟩ : ByteArray), .bool false, .slice none 0 0, .int .u64 0, .int .u64 0, .int .u64 0, .int .i64 0, .bool false, .int .i64 0]) ?_ 7 _ rfl; (with_reducible repeat (first | refine blk_drewN ?_ _ | refine blk_drew ?_ | refine blk_alloc ?_ _)); refine blk_put (cs := #[.int .i64 12, .int .i64 0, .string a1, .int .i64 0, .int .i64 0, .string (⟨#[]⟩ : ByteArray), .bool false, .slice none 0 0, .int .u64 0, .int .u64 0, .int .u64 0, .int .i64 0, .bool false, .int .i64 0]) ?_ 6 _ rfl; (with_reducible repeat (first | refine blk_drewN ?_ _ | refine blk_drew ?_ | refine blk_alloc ?_ _)); refine blk_put (cs := #[.int .i64 12, .int .i64 0, .string a1, .int .i64 0, .int .i64 0, .string (⟨#[]⟩ : ByteArray), .bool false, .slice none 0 0, .int .u64 0, .int .u64 0, .int .u64 0, .int .i64 0, .bool false, .int .i64 0]) ?_ 5 _ rfl; (with_reducible repeat (first | refine blk_drewN ?_ _ | refine blk_drew ?_ | refine blk_alloc ?_ _)); refine blk_put (cs := #[.int .i64 12, .int .i64 0, .string a1, .int .i64 0, .int .i64 0, .string (⟨#[]⟩ : ByteArray), .bool false, .slice none 0 0, .int .u64 0, .int .u64 0, .int .u64 0, .int .i64 0, .bool false, .int .i64 0]) ?_ 4 _ rfl; (with_reducible repeat (first | refine blk_drewN ?_ _ | refine blk_drew ?_ | refine blk_alloc ?_ _)); refine blk_put (cs := #[.int .i64 12, .int .i64 0, .string a1, .int .i64 0, .int .i64 0, .string (⟨#[]⟩ : ByteArray), .bool false, .slice none 0 0, .int .u64 0, .int .u64 0, .int .u64 0, .int .i64 0, .bool false, .int .i64 0]) ?_ 3 _ rfl; (with_reducible repeat (first | refine blk_drewN ?_ _ | refine blk_drew ?_ | refine blk_alloc ?_ _)); refine blk_put (cs := #[.int .i64 12, .int .i64 0, .string (⟨#[]⟩ : ByteArray), .int .i64 0, .int .i64 0, .string (⟨#[]⟩ : ByteArray), .bool false, .slice none 0 0, .int .u64 0, .int .u64 0, .int .u64 0, .int .i64 0, .bool false, .int .i64 0]) ?_ 2 _ rfl; (with_reducible repeat (first | refine blk_drewN ?_ _ | refine blk_drew ?_ | refine blk_alloc ?_ _)); refine blk_put (cs := #[.int .i64 12, .int .i64 0, .string (⟨#[]⟩ : ByteArray), .int .i64 0, .int .i64 0, .string (⟨#[]⟩ : ByteArray), .bool false, .slice none 0 0, .int .u64 0, .int .u64 0, .int .u64 0, .int .i64 0, .bool false, .int .i64 0]) ?_ 1 _ rfl; (with_reducible repeat (first | refine blk_drewN ?_ _ | refine blk_drew ?_ | refine blk_alloc ?_ _)); refine blk_put (cs := #[.int .i64 0, .int .i64 0, .string (⟨#[]⟩ : ByteArray), .int .i64 0, .int .i64 0, .string (⟨#[]⟩ : ByteArray), .bool false, .slice none 0 0, .int .u64 0, .int .u64 0, .int .u64 0, .int .i64 0, .bool false, .int .i64 0]) ?_ 0 _ rfl; (with_reducible repeat (first | refine blk_drewN ?_ _ | refine blk_drew ?_ | refine blk_alloc ?_ _)); exact BK397.out⟩
   have n3_ : Aside0 (Below w.heap.size w ((((((((((((((w46.setCell ⟨gb397, 0, none⟩ (.int .i64 12)).setCell ⟨gb397, 1, none⟩ (.int .i64 0)).setCell ⟨gb397, 2, none⟩ (.string a1)).setCell ⟨gb397, 3, none⟩ (.int .i64 0)).setCell ⟨gb397, 4, none⟩ (.int .i64 0)).setCell ⟨gb397, 5, none⟩ (.string (⟨#[]⟩ : ByteArray))).setCell ⟨gb397, 6, none⟩ (.bool false)).setCell ⟨gb397, 7, none⟩ (.slice none 0 0)).setCell ⟨gb397, 8, none⟩ (.int .u64 t395)).setCell ⟨gb397, 9, none⟩ (.int .u64 0)).setCell ⟨gb397, 10, none⟩ (.int .u64 a2_0)).setCell ⟨gb397, 11, none⟩ (.int .i64 (wrap64 (1 + t396)))).setCell ⟨gb397, 12, none⟩ (.bool false)).setCell ⟨gb397, 13, none⟩ (.int .i64 0))) := ⟨hb_ HB⟩
   (try clear BK389)
   (try clear BK390)
   (try clear BK397)
   (try clear HB)
   generalize ((((((((((((((w46.setCell ⟨gb397, 0, none⟩ (.int .i64 12)).setCell ⟨gb397, 1, none⟩ (.int .i64 0)).setCell ⟨gb397, 2, none⟩ (.string a1)).setCell ⟨gb397, 3, none⟩ (.int .i64 0)).setCell ⟨gb397, 4, none⟩ (.int .i64 0)).setCell ⟨gb397, 5, none⟩ (.string (⟨#[]⟩ : ByteArray))).setCell ⟨gb397, 6, none⟩ (.bool false)).setCell ⟨gb397, 7, none⟩ (.slice none 0 0)).setCell ⟨gb397, 8, none⟩ (.int .u64 t395)).setCell ⟨gb397, 9, none⟩ (.int .u64 0)).setCell ⟨gb397, 10, none⟩ (.int .u64 a2_0)).setCell ⟨gb397, 11, none⟩ (.int .i64 (wrap64 (1 + t396)))).setCell ⟨gb397, 12, none⟩ (.bool false)).setCell ⟨gb397, 13, none⟩ (.int .i64 0)) = w50 at n0_ n1_ n2_ n3_ ⊢
   have BK389 := n0_
   have BK390 := n1_
   have BK397 := n2_
   have HB := n3_
   clear n0_ n1_ n2_ n3_
   have n0_ := Aside0.mk (blk_drew BK389.out)
   have n1_ := Aside0.mk (blk_drew BK390.out)
   have n2_ := Aside0.mk (blk_drew BK397.out)
   have n3_ := Aside0.mk (below_drew1 HB.out)
   clear BK389
   clear BK390
   clear BK397
   clear HB
   have BK389 := n0_
   have BK390 := n1_
   have BK397 := n2_
   have HB := n3_
   clear n0_ n1_ n2_ n3_
   refine start_ (n := 12) (S := fun w' => w'.cell? ⟨gb389, 0, none⟩ = some (.slice A0_0 l0_0.length c0_0) ∧ w'.cell? ⟨gb389, 1, none⟩ = some (.int .i64 a0_1) ∧ w'.cell? ⟨gb389, 2, none⟩ = some (.string a0_2) ∧ w'.cell? ⟨gb389, 3, none⟩ = some (.int .u32 a0_3) ∧ w'.cell? ⟨gb389, 4, none⟩ = some (.bool a0_4) ∧ w'.cell? ⟨gb397, 0, none⟩ = some (.int .i64 12) ∧ w'.cell? ⟨gb397, 1, none⟩ = some (.int .i64 0) ∧ w'.cell? ⟨gb397, 2, none⟩ = some (.string a1) ∧ w'.cell? ⟨gb397, 3, none⟩ = some (.int .i64 0) ∧ w'.cell? ⟨gb397, 4, none⟩ = some (.int .i64 0) ∧ w'.cell? ⟨gb397, 5, none⟩ = some (.string (⟨#[]⟩ : ByteArray)) ∧ w'.cell? ⟨gb397, 6, none⟩ = some (.bool false) ∧ w'.cell? ⟨gb397, 7, none⟩ = some (.slice none 0 0) ∧ w'.cell? ⟨gb397, 8, none⟩ = some (.int .u64 t395) ∧ w'.cell? ⟨gb397, 9, none⟩ = some (.int .u64 0) ∧ w'.cell? ⟨gb397, 10, none⟩ = some (.int .u64 a2_0) ∧ w'.cell? ⟨gb397, 11, none⟩ = some (.int .i64 (wrap64 (1 + t396))) ∧ w'.cell? ⟨gb397, 12, none⟩ = some (.bool false) ∧ w'.cell? ⟨gb397, 13, none⟩ = some (.int .i64 0)) (ds := []) d6x1 (by kernel_rfl) rfl rfl ⟨(blk_cell BK389.out 0).trans rfl, (blk_cell BK389.out 1).trans rfl, (blk_cell BK389.out 2).trans rfl, (blk_cell BK389.out 3).trans rfl, (blk_cell BK389.out 4).trans rfl, (blk_cell BK397.out 0).trans rfl, (blk_cell BK397.out 1).trans rfl, (blk_cell BK397.out 2).trans rfl, (blk_cell BK397.out 3).trans rfl, (blk_cell BK397.out 4).trans rfl, (blk_cell BK397.out 5).trans rfl, (blk_cell BK397.out 6).trans rfl, (blk_cell BK397.out 7).trans rfl, (blk_cell BK397.out 8).trans rfl, (blk_cell BK397.out 9).trans rfl, (blk_cell BK397.out 10).trans rfl, (blk_cell BK397.out 11).trans rfl, (blk_cell BK397.out 12).trans rfl, (blk_cell BK397.out 13).trans rfl⟩ (fun hHeld => ?_); refine with_tabW headgatelaw11_ResvStruck.tab5 headgatelaw11_ResvStruck.bits5 (fun HT_ HW_ => ?_)
   generalize w50.drew = w51 at BK389 BK390 BK397 HB hHeld ⊢
   refine ptk_ 0 (some 50) d6x4 HT_.out HW_.out hHeld ?_
   refine ptk_ 2 (some 52) d6x6 HT_.out HW_.out hHeld ?_
   refine join_ (σ := Value × Value × Value × Nat) 3 d6x33 (fun s_ => [(51, .agg #[s_.1, .int .i64 t401, .string t402, .int .u32 t403, .bool t404]), (53, .tuple #[.agg #[s_.2.1, .int .i64 t408, .string t409, .int .u32 t410, .bool t411], s_.2.2.1, .int .i64 t415]), (10, .pointer (some ⟨s_.2.2.2, 0, none⟩)), (49, .tuple #[.agg #[s_.2.1, .int .i64 t408, .string t409, .int .u32 t410, .bool t411], s_.2.2.1, .int .i64 t415]), (54, .agg #[s_.2.1, .int .i64 t408, .string t409, .int .u32 t410, .bool t411]), (55, s_.2.2.1), (56, .int .i64 t415)]) (fun s_ w' => (w'.cell? ⟨gb389, 0, none⟩ = some (.slice A0_0 l0_0.length c0_0) ∧ w'.cell? ⟨gb389, 1, none⟩ = some (.int .i64 a0_1) ∧ w'.cell? ⟨gb389, 2, none⟩ = some (.string a0_2) ∧ w'.cell? ⟨gb389, 3, none⟩ = some (.int .u32 a0_3) ∧ w'.cell? ⟨gb389, 4, none⟩ = some (.bool a0_4) ∧ w'.cell? ⟨gb397, 0, none⟩ = some (.int .i64 12) ∧ w'.cell? ⟨gb397, 1, none⟩ = some (.int .i64 0) ∧ w'.cell? ⟨gb397, 2, none⟩ = some (.string a1) ∧ w'.cell? ⟨gb397, 3, none⟩ = some (.int .i64 0) ∧ w'.cell? ⟨gb397, 4, none⟩ = some (.int .i64 0) ∧ w'.cell? ⟨gb397, 5, none⟩ = some (.string (⟨#[]⟩ : ByteArray)) ∧ w'.cell? ⟨gb397, 6, none⟩ = some (.bool false) ∧ w'.cell? ⟨gb397, 7, none⟩ = some (.slice none 0 0) ∧ w'.cell? ⟨gb397, 8, none⟩ = some (.int .u64 t395) ∧ w'.cell? ⟨gb397, 9, none⟩ = some (.int .u64 0) ∧ w'.cell? ⟨gb397, 10, none⟩ = some (.int .u64 a2_0) ∧ w'.cell? ⟨gb397, 11, none⟩ = some (.int .i64 (wrap64 (1 + t396))) ∧ w'.cell? ⟨gb397, 12, none⟩ = some (.bool false) ∧ w'.cell? ⟨gb397, 13, none⟩ = some (.int .i64 0)) ∧ (Kd.R k53 53 w' w.heap.size (fun _ => True) s_.1 t398) ∧ (Kd.V k53 53 w' w.heap.size (fun k_ => some k_ ≠ (s_.2.2.1 : Value).ownBlock ∧ k_ ≠ gb389 ∧ k_ ≠ gb390 ∧ k_ ≠ gb397 ∧ k_ ≠ s_.2.2.2) s_.2.1 t405) ∧ (Kd.R k46 46 w' w.heap.size (fun _ => True) s_.2.2.1 t412) ∧ (w'.heap[gb389]? = some (.cells #[.slice A0_0 l0_0.length c0_0, .int .i64 a0_1, .string a0_2, .int .u32 a0_3, .bool a0_4] 27 (0, 0))) ∧ (w'.heap[gb390]? = some (.cells #[.int .u64 a2_0, .int .u64 a2_1] 50 (0, 0))) ∧ (w'.heap[gb397]? = some (.cells #[.int .i64 12, .int .i64 0, .string a1, .int .i64 0, .int .i64 0, .string (⟨#[]⟩ : ByteArray), .bool false, .slice none 0 0, .int .u64 t395, .int .u64 0, .int .u64 a2_0, .int .i64 (wrap64 (1 + t396)), .bool false, .int .i64 0] 31 (0, 0))) ∧ (w'.heap[s_.2.2.2]? = some (.cells #[.slice none 0 0, .int .i64 0, .string (⟨#[]⟩ : ByteArray), .int .u32 0, .bool false] 27 (0, 0))) ∧ (w.heap.size ≤ s_.2.2.2) ∧ (w.heap.size ≤ s_.2.2.2) ∧ (gb389 ≠ s_.2.2.2) ∧ (s_.2.2.2 ≠ gb389) ∧ (gb390 ≠ s_.2.2.2) ∧ (s_.2.2.2 ≠ gb390) ∧ (gb397 ≠ s_.2.2.2) ∧ (s_.2.2.2 ≠ gb397) ∧ (Below w.heap.size w w')) ?_ ?_
   rotate_left
   ·intro hCont
    refine two_ (i := 1) (j := 8) (Ni := some 51) (Nj := some 10) d6x11 d6x7 rfl rfl rfl rfl (two_of HT_.out (by kernel_rfl)) (by decide) (by decide) (fun K hK => ?_) (fun K hK => ?_)
    ·skip
     refine goes_ Tryd.func14 (by kernel_rfl) rfl #[.agg #[.slice A0_0 l0_0.length c0_0, .int .i64 a0_1, .string a0_2, .int .u32 a0_3, .bool a0_4]] (by rfl) rfl rfl (by (try simp only [List.map_toArray, List.map_cons, List.map_nil]); first | done | rfl | (simp only [List.length_drop, List.length_take]; rfl)) ?_
     with_reducible refine (headgatekeep_CopyTable.calls _ _ l0_0 a0_1 a0_2 a0_3 a0_4 t398 t401 t402 t403 t404 _ ?side1 ?side2 A41.out).mono ?_
     (case side1 => repeat (first | exact (Kd.C_below HR0_0.out HB.out) | (with_reducible refine Kd.C_alloc ?_ _) | (with_reducible refine Kd.C_drewN ?_ _) | (with_reducible refine Kd.C_drew ?_)))
     (case side2 => exact HC0_0.out)
     rintro e w52 ⟨v399, rfl, ho0, hb⟩
     refine ⟨_, rfl, ?_⟩
     have n0_ := Aside0.mk (Kd.R_lower ho0 (below_size (hb_ HB)))
     have n1_ := Aside0.mk (blk_below (bk_ BK389) hb)
     have n2_ := Aside0.mk (blk_below (bk_ BK390) hb)
     have n3_ := Aside0.mk (blk_below (bk_ BK397) hb)
     have n4_ := Aside0.mk (below_step (hb_ HB) hb)
     clear BK389
     clear BK390
     clear BK397
     clear HB
     have HO400 := n0_
     have BK389 := n1_
     have BK390 := n2_
     have BK397 := n3_
     have HB := n4_
     clear n0_ n1_ n2_ n3_ n4_
     (try clear hb)
     (try clear hb2)
     (try clear hk)
     (try clear hi)
     (try clear ho0)
     obtain ⟨Ao53, co53, eo53⟩ := Kd.R_slice HO400.out
     (first | subst eo53 | (injection eo53 with f1_ f2_ f3_; have f4_ := f1_.symm; have f5_ := f3_.symm; clear f1_ f2_ f3_; subst f4_; subst f5_))
     refine hK.out _ _ ⟨(blk_cell BK389.out 0).trans rfl, (blk_cell BK389.out 1).trans rfl, (blk_cell BK389.out 2).trans rfl, (blk_cell BK389.out 3).trans rfl, (blk_cell BK389.out 4).trans rfl, (blk_cell BK397.out 0).trans rfl, (blk_cell BK397.out 1).trans rfl, (blk_cell BK397.out 2).trans rfl, (blk_cell BK397.out 3).trans rfl, (blk_cell BK397.out 4).trans rfl, (blk_cell BK397.out 5).trans rfl, (blk_cell BK397.out 6).trans rfl, (blk_cell BK397.out 7).trans rfl, (blk_cell BK397.out 8).trans rfl, (blk_cell BK397.out 9).trans rfl, (blk_cell BK397.out 10).trans rfl, (blk_cell BK397.out 11).trans rfl, (blk_cell BK397.out 12).trans rfl, (blk_cell BK397.out 13).trans rfl⟩ (fun hHeld => ?_)
     clear hK K
     refine norm_ (a' := ?_) ?_ ?_
     rotate_left
     ·show Act.put _ (some 51) _ = _
      simp only [Act.put, la_, lb_, lc_, i64_w, i32_w]
      rfl
     refine two_ (i := 3) (j := 8) (Ni := some 53) (Nj := some 10) d6x16 d6x12 rfl rfl rfl rfl (two_of HT_.out (by kernel_rfl)) (by decide) (by decide) (fun K hK => ?_) (fun K hK => ?_)
     ·skip
      refine goes_ Tryd.func15 (by kernel_rfl) rfl #[.agg #[.slice Ao53 t398.length co53, .int .i64 t401, .string t402, .int .u32 t403, .bool t404], .agg #[.int .i64 12, .int .i64 0, .string a1, .int .i64 0, .int .i64 0, .string (⟨#[]⟩ : ByteArray), .bool false, .slice none 0 0, .int .u64 t395, .int .u64 0, .int .u64 a2_0, .int .i64 (wrap64 (1 + t396)), .bool false, .int .i64 0]] (by rfl) rfl rfl (by (try simp only [List.map_toArray, List.map_cons, List.map_nil]); first | done | rfl | (simp only [List.length_drop, List.length_take]; rfl)) ?_
      refine (resv_Do.calls kj3 (fun k_ => some k_ = (.slice Ao53 t398.length co53 : Value).ownBlock) _ _ t398 t401 t402 t403 t404 12 0 a1 0 0 (⟨#[]⟩ : ByteArray) false _ _ ([] : List (S100)) t395 0 a2_0 (wrap64 (1 + t396)) false 0 t405 t408 t409 t410 t411 t412 t415 _ ?side1 ?side2 ?side3 ?side4 A42.out).mono ?_
      (case side1 => exact Kd.R_V (Kd.R_tight rfl (Kd.R_types (Kd.R_types (Kd.R_types (HO400.out) BK389.out (by decide)) BK390.out (by decide)) BK397.out (by decide))))
      (case side2 => exact Kd.C_nil _ _)
      (case side3 => exact Nat.le_refl _)
      (case side4 => first | ((refine Glob.keep HG.out ?_); (repeat (first | (with_reducible first | exact HB.out | apply below_alloc | apply pw_below_drewN | apply below_drew1 | refine below_set ?_ GE389.out | refine below_set ?_ GE390.out | refine below_set ?_ GE397.out) | exact HB.out)); done) | exact HG.out)
      rintro e w54 ⟨v406, v413, rfl, ho0, ho1, hb⟩
      refine ⟨_, rfl, ?_⟩
      have n0_ := Aside0.mk (Kd.R_below (by (with_reducible repeat (first | apply Kd.R_alloc | apply Kd.R_drewN | apply Kd.R_drew)); exact HO400.out) hb)
      have n1_ := Aside0.mk (Kd.V_lower (Kd.V_mono (ok' := fun k_ => some k_ ≠ (v413 : Value).ownBlock ∧ k_ ≠ gb389 ∧ k_ ≠ gb390 ∧ k_ ≠ gb397) ho0 (fun k_ hk_ => ⟨hk_.2, Or.elim hk_.1 (fun hs_ => ((Kd.R_types (Kd.R_types (Kd.R_types (HO400.out) BK389.out (by decide)) BK390.out (by decide)) BK397.out (by decide)).1 k_ hs_.symm).1.1.2) (fun hn_ => (Kd.freshB (g := gb389) (o := .cells #[.slice A0_0 l0_0.length c0_0, .int .i64 a0_1, .string a0_2, .int .u32 a0_3, .bool a0_4] 27 (0, 0)) (bk_ BK389) k_ hn_)), Or.elim hk_.1 (fun hs_ => ((Kd.R_types (Kd.R_types (Kd.R_types (HO400.out) BK389.out (by decide)) BK390.out (by decide)) BK397.out (by decide)).1 k_ hs_.symm).1.2) (fun hn_ => (Kd.freshB (g := gb390) (o := .cells #[.int .u64 a2_0, .int .u64 a2_1] 50 (0, 0)) (bk_ BK390) k_ hn_)), Or.elim hk_.1 (fun hs_ => ((Kd.R_types (Kd.R_types (Kd.R_types (HO400.out) BK389.out (by decide)) BK390.out (by decide)) BK397.out (by decide)).1 k_ hs_.symm).2) (fun hn_ => (Kd.freshB (g := gb397) (o := .cells #[.int .i64 12, .int .i64 0, .string a1, .int .i64 0, .int .i64 0, .string (⟨#[]⟩ : ByteArray), .bool false, .slice none 0 0, .int .u64 t395, .int .u64 0, .int .u64 a2_0, .int .i64 (wrap64 (1 + t396)), .bool false, .int .i64 0] 31 (0, 0)) (bk_ BK397) k_ hn_))⟩)) (below_size (hb_ HB)))
      have n2_ := Aside0.mk (Kd.R_lower (Kd.R_mono (ok' := fun k_ => True) ho1 (fun _ hk_ => trivial)) (below_size (hb_ HB)))
      have n3_ := Aside0.mk (blk_below (bk_ BK389) hb)
      have n4_ := Aside0.mk (blk_below (bk_ BK390) hb)
      have n5_ := Aside0.mk (blk_below (bk_ BK397) hb)
      have n6_ := Aside0.mk (below_step (hb_ HB) hb)
      clear HO400
      clear BK389
      clear BK390
      clear BK397
      clear HB
      have HO400 := n0_
      have HO407 := n1_
      have HO414 := n2_
      have BK389 := n3_
      have BK390 := n4_
      have BK397 := n5_
      have HB := n6_
      clear n0_ n1_ n2_ n3_ n4_ n5_ n6_
      (try clear hb)
      (try clear hb2)
      (try clear hk)
      (try clear hi)
      (try clear ho0)
      (try clear ho1)
      refine hK.out _ _ ⟨(blk_cell BK389.out 0).trans rfl, (blk_cell BK389.out 1).trans rfl, (blk_cell BK389.out 2).trans rfl, (blk_cell BK389.out 3).trans rfl, (blk_cell BK389.out 4).trans rfl, (blk_cell BK397.out 0).trans rfl, (blk_cell BK397.out 1).trans rfl, (blk_cell BK397.out 2).trans rfl, (blk_cell BK397.out 3).trans rfl, (blk_cell BK397.out 4).trans rfl, (blk_cell BK397.out 5).trans rfl, (blk_cell BK397.out 6).trans rfl, (blk_cell BK397.out 7).trans rfl, (blk_cell BK397.out 8).trans rfl, (blk_cell BK397.out 9).trans rfl, (blk_cell BK397.out 10).trans rfl, (blk_cell BK397.out 11).trans rfl, (blk_cell BK397.out 12).trans rfl, (blk_cell BK397.out 13).trans rfl⟩ (fun hHeld => ?_)
      clear hK K
      refine norm_ (a' := ?_) ?_ ?_
      rotate_left
      ·show Act.put _ (some 53) _ = _
       simp only [Act.put, la_, lb_, lc_, i64_w, i32_w]
       rfl
      refine pon_ 4 (some 49) d6x20 HT_.out ?_
      refine pon_ 5 (some 54) d6x24 HT_.out ?_
      refine pon_ 6 (some 55) d6x27 HT_.out ?_
      refine pon_ 7 (some 56) d6x31 HT_.out ?_
      refine one_ (i := 8) (N := some 10) d6x33 rfl rfl (one_of HT_.out (by kernel_rfl)) (by decide) (fun K hK => ?_)
      refine box_step ?hg (N := 10) ?hd (cs := #[.slice none 0 0, .int .i64 0, .string (⟨#[]⟩ : ByteArray), .int .u32 0, .bool false]) (t := 27) ?hr ?_; (case hd => rfl); (case hg => rfl); (case hr => first | (go_simp; done) | (go_simp; rfl))
      intro gb416 hg w55 hbox hb
      have n0_ := Aside0.mk (Kd.R_below (by (with_reducible repeat (first | apply Kd.R_alloc | apply Kd.R_drewN | apply Kd.R_drew)); exact HO400.out) hb)
      have n1_ := Aside0.mk (Kd.V_below (Kd.V_elderB (by (with_reducible repeat (first | apply Kd.V_alloc | apply Kd.V_drewN | apply Kd.V_drew)); exact HO407.out) gb416 (Nat.le_of_eq hg.symm)) hb)
      have n2_ := Aside0.mk (Kd.R_below (by (with_reducible repeat (first | apply Kd.R_alloc | apply Kd.R_drewN | apply Kd.R_drew)); exact HO414.out) hb)
      have n3_ := Aside0.mk (blk_below (bk_ BK389) hb)
      have n4_ := Aside0.mk (blk_below (bk_ BK390) hb)
      have n5_ := Aside0.mk (blk_below (bk_ BK397) hb)
      have n6_ := Aside0.mk (below_step (hb_ HB) hb)
      have n7_ := Aside0.mk (hbox)
      have n8_ := Aside0.mk ((by rw [hg]; exact (below_size (hb_ HB)) : w.heap.size ≤ gb416))
      have n9_ := Aside0.mk ((by rw [hg]; exact (below_size (hb_ HB)) : w.heap.size ≤ gb416))
      have n10_ := Aside0.mk ((by rw [hg]; exact Nat.ne_of_lt (blk_lt (g := gb389) (o := .cells #[.slice A0_0 l0_0.length c0_0, .int .i64 a0_1, .string a0_2, .int .u32 a0_3, .bool a0_4] 27 (0, 0)) (bk_ BK389)) : gb389 ≠ gb416))
      have n11_ := Aside0.mk ((by rw [hg]; exact Nat.ne_of_gt (blk_lt (g := gb389) (o := .cells #[.slice A0_0 l0_0.length c0_0, .int .i64 a0_1, .string a0_2, .int .u32 a0_3, .bool a0_4] 27 (0, 0)) (bk_ BK389)) : gb416 ≠ gb389))
      have n12_ := Aside0.mk ((by rw [hg]; exact Nat.ne_of_lt (blk_lt (g := gb390) (o := .cells #[.int .u64 a2_0, .int .u64 a2_1] 50 (0, 0)) (bk_ BK390)) : gb390 ≠ gb416))
      have n13_ := Aside0.mk ((by rw [hg]; exact Nat.ne_of_gt (blk_lt (g := gb390) (o := .cells #[.int .u64 a2_0, .int .u64 a2_1] 50 (0, 0)) (bk_ BK390)) : gb416 ≠ gb390))
      have n14_ := Aside0.mk ((by rw [hg]; exact Nat.ne_of_lt (blk_lt (g := gb397) (o := .cells #[.int .i64 12, .int .i64 0, .string a1, .int .i64 0, .int .i64 0, .string (⟨#[]⟩ : ByteArray), .bool false, .slice none 0 0, .int .u64 t395, .int .u64 0, .int .u64 a2_0, .int .i64 (wrap64 (1 + t396)), .bool false, .int .i64 0] 31 (0, 0)) (bk_ BK397)) : gb397 ≠ gb416))
      have n15_ := Aside0.mk ((by rw [hg]; exact Nat.ne_of_gt (blk_lt (g := gb397) (o := .cells #[.int .i64 12, .int .i64 0, .string a1, .int .i64 0, .int .i64 0, .string (⟨#[]⟩ : ByteArray), .bool false, .slice none 0 0, .int .u64 t395, .int .u64 0, .int .u64 a2_0, .int .i64 (wrap64 (1 + t396)), .bool false, .int .i64 0] 31 (0, 0)) (bk_ BK397)) : gb416 ≠ gb397))
      clear HO400
      clear HO407
      clear HO414
      clear BK389
      clear BK390
      clear BK397
      clear HB
      have HO400 := n0_
      have HO407 := n1_
      have HO414 := n2_
      have BK389 := n3_
      have BK390 := n4_
      have BK397 := n5_
      have HB := n6_
      have BK416 := n7_
      have GW416 := n8_
      have GE416 := n9_
      have NB389_416 := n10_
      have NB416_389 := n11_
      have NB390_416 := n12_
      have NB416_390 := n13_
      have NB397_416 := n14_
      have NB416_397 := n15_
      clear n0_ n1_ n2_ n3_ n4_ n5_ n6_ n7_ n8_ n9_ n10_ n11_ n12_ n13_ n14_ n15_
      clear hb hbox hg
      refine hK.out _ _ ⟨(blk_cell BK389.out 0).trans rfl, (blk_cell BK389.out 1).trans rfl, (blk_cell BK389.out 2).trans rfl, (blk_cell BK389.out 3).trans rfl, (blk_cell BK389.out 4).trans rfl, (blk_cell BK397.out 0).trans rfl, (blk_cell BK397.out 1).trans rfl, (blk_cell BK397.out 2).trans rfl, (blk_cell BK397.out 3).trans rfl, (blk_cell BK397.out 4).trans rfl, (blk_cell BK397.out 5).trans rfl, (blk_cell BK397.out 6).trans rfl, (blk_cell BK397.out 7).trans rfl, (blk_cell BK397.out 8).trans rfl, (blk_cell BK397.out 9).trans rfl, (blk_cell BK397.out 10).trans rfl, (blk_cell BK397.out 11).trans rfl, (blk_cell BK397.out 12).trans rfl, (blk_cell BK397.out 13).trans rfl⟩ (fun hHeld => ?_)
      clear hK K
      refine norm_ (a' := ?_) ?_ ?_
      rotate_left
      ·show Act.put _ (some 10) _ = _
       simp only [Act.put, la_, lb_, lc_, i64_w, i32_w]
       rfl
      exact norm_ (by simp only [putAll, Act.put, la_, lb_, lc_]) (hCont (.slice Ao53 t398.length co53, v406, v413, gb416) _ ⟨hHeld, (by (with_reducible repeat (first | apply Kd.R_alloc | apply Kd.R_drewN | apply Kd.R_drew)); exact HO400.out), (by (with_reducible repeat (first | apply Kd.V_alloc | apply Kd.V_drewN | apply Kd.V_drew)); exact Kd.V_mono HO407.out (fun _ hk => ⟨hk.1.1, ⟨hk.1.2.1, ⟨hk.1.2.2.1, ⟨hk.1.2.2.2, hk.2⟩⟩⟩⟩)), (by (with_reducible repeat (first | apply Kd.R_alloc | apply Kd.R_drewN | apply Kd.R_drew)); exact HO414.out), (bk_ BK389), (bk_ BK390), (bk_ BK397), (bk_ BK416), GW416.out, GE416.out, NB389_416.out, NB416_389.out, NB390_416.out, NB416_390.out, NB397_416.out, NB416_397.out, (hb_ HB)⟩)
     ·skip
      refine box_step ?hg (N := 10) ?hd (cs := #[.slice none 0 0, .int .i64 0, .string (⟨#[]⟩ : ByteArray), .int .u32 0, .bool false]) (t := 27) ?hr ?_; (case hd => rfl); (case hg => rfl); (case hr => first | (go_simp; done) | (go_simp; rfl))
      intro gb416 hg w53 hbox hb
      have n0_ := Aside0.mk (Kd.R_below (by (with_reducible repeat (first | apply Kd.R_alloc | apply Kd.R_drewN | apply Kd.R_drew)); exact HO400.out) hb)
      have n1_ := Aside0.mk (blk_below (bk_ BK389) hb)
      have n2_ := Aside0.mk (blk_below (bk_ BK390) hb)
      have n3_ := Aside0.mk (blk_below (bk_ BK397) hb)
      have n4_ := Aside0.mk (below_step (hb_ HB) hb)
      have n5_ := Aside0.mk (hbox)
      have n6_ := Aside0.mk ((by rw [hg]; exact (below_size (hb_ HB)) : w.heap.size ≤ gb416))
      have n7_ := Aside0.mk ((by rw [hg]; exact (below_size (hb_ HB)) : w.heap.size ≤ gb416))
      have n8_ := Aside0.mk ((by rw [hg]; exact Nat.ne_of_lt (blk_lt (g := gb389) (o := .cells #[.slice A0_0 l0_0.length c0_0, .int .i64 a0_1, .string a0_2, .int .u32 a0_3, .bool a0_4] 27 (0, 0)) (bk_ BK389)) : gb389 ≠ gb416))
      have n9_ := Aside0.mk ((by rw [hg]; exact Nat.ne_of_gt (blk_lt (g := gb389) (o := .cells #[.slice A0_0 l0_0.length c0_0, .int .i64 a0_1, .string a0_2, .int .u32 a0_3, .bool a0_4] 27 (0, 0)) (bk_ BK389)) : gb416 ≠ gb389))
      have n10_ := Aside0.mk ((by rw [hg]; exact Nat.ne_of_lt (blk_lt (g := gb390) (o := .cells #[.int .u64 a2_0, .int .u64 a2_1] 50 (0, 0)) (bk_ BK390)) : gb390 ≠ gb416))
      have n11_ := Aside0.mk ((by rw [hg]; exact Nat.ne_of_gt (blk_lt (g := gb390) (o := .cells #[.int .u64 a2_0, .int .u64 a2_1] 50 (0, 0)) (bk_ BK390)) : gb416 ≠ gb390))
      have n12_ := Aside0.mk ((by rw [hg]; exact Nat.ne_of_lt (blk_lt (g := gb397) (o := .cells #[.int .i64 12, .int .i64 0, .string a1, .int .i64 0, .int .i64 0, .string (⟨#[]⟩ : ByteArray), .bool false, .slice none 0 0, .int .u64 t395, .int .u64 0, .int .u64 a2_0, .int .i64 (wrap64 (1 + t396)), .bool false, .int .i64 0] 31 (0, 0)) (bk_ BK397)) : gb397 ≠ gb416))
      have n13_ := Aside0.mk ((by rw [hg]; exact Nat.ne_of_gt (blk_lt (g := gb397) (o := .cells #[.int .i64 12, .int .i64 0, .string a1, .int .i64 0, .int .i64 0, .string (⟨#[]⟩ : ByteArray), .bool false, .slice none 0 0, .int .u64 t395, .int .u64 0, .int .u64 a2_0, .int .i64 (wrap64 (1 + t396)), .bool false, .int .i64 0] 31 (0, 0)) (bk_ BK397)) : gb416 ≠ gb397))
      clear HO400
      clear BK389
      clear BK390
      clear BK397
      clear HB
      have HO400 := n0_
      have BK389 := n1_
      have BK390 := n2_
      have BK397 := n3_
      have HB := n4_
      have BK416 := n5_
      have GW416 := n6_
      have GE416 := n7_
      have NB389_416 := n8_
      have NB416_389 := n9_
      have NB390_416 := n10_
      have NB416_390 := n11_
      have NB397_416 := n12_
      have NB416_397 := n13_
      clear n0_ n1_ n2_ n3_ n4_ n5_ n6_ n7_ n8_ n9_ n10_ n11_ n12_ n13_
      clear hb hbox hg
      obtain ⟨Ao54, co54, eo54⟩ := Kd.R_slice HO400.out
      (first | subst eo54 | (injection eo54 with f1_ f2_ f3_; have f4_ := f1_.symm; have f5_ := f3_.symm; clear f1_ f2_ f3_; subst f4_; subst f5_))
      refine hK.out _ _ ⟨(blk_cell BK389.out 0).trans rfl, (blk_cell BK389.out 1).trans rfl, (blk_cell BK389.out 2).trans rfl, (blk_cell BK389.out 3).trans rfl, (blk_cell BK389.out 4).trans rfl, (blk_cell BK397.out 0).trans rfl, (blk_cell BK397.out 1).trans rfl, (blk_cell BK397.out 2).trans rfl, (blk_cell BK397.out 3).trans rfl, (blk_cell BK397.out 4).trans rfl, (blk_cell BK397.out 5).trans rfl, (blk_cell BK397.out 6).trans rfl, (blk_cell BK397.out 7).trans rfl, (blk_cell BK397.out 8).trans rfl, (blk_cell BK397.out 9).trans rfl, (blk_cell BK397.out 10).trans rfl, (blk_cell BK397.out 11).trans rfl, (blk_cell BK397.out 12).trans rfl, (blk_cell BK397.out 13).trans rfl⟩ (fun hHeld => ?_)
      clear hK K
      refine norm_ (a' := ?_) ?_ ?_
      rotate_left
      ·show Act.put _ (some 10) _ = _
       simp only [Act.put, la_, lb_, lc_, i64_w, i32_w]
       rfl
      refine one_ (i := 3) (N := some 53) d6x17 rfl rfl (one_of HT_.out (by kernel_rfl)) (by decide) (fun K hK => ?_)
      refine goes_ Tryd.func15 (by kernel_rfl) rfl #[.agg #[.slice Ao54 t398.length co54, .int .i64 t401, .string t402, .int .u32 t403, .bool t404], .agg #[.int .i64 12, .int .i64 0, .string a1, .int .i64 0, .int .i64 0, .string (⟨#[]⟩ : ByteArray), .bool false, .slice none 0 0, .int .u64 t395, .int .u64 0, .int .u64 a2_0, .int .i64 (wrap64 (1 + t396)), .bool false, .int .i64 0]] (by rfl) rfl rfl (by (try simp only [List.map_toArray, List.map_cons, List.map_nil]); first | done | rfl | (simp only [List.length_drop, List.length_take]; rfl)) ?_
      refine (resv_Do.calls kj3 (fun k_ => some k_ = (.slice Ao54 t398.length co54 : Value).ownBlock) _ _ t398 t401 t402 t403 t404 12 0 a1 0 0 (⟨#[]⟩ : ByteArray) false _ _ ([] : List (S100)) t395 0 a2_0 (wrap64 (1 + t396)) false 0 t405 t408 t409 t410 t411 t412 t415 _ ?side1 ?side2 ?side3 ?side4 A42.out).mono ?_
      (case side1 => exact Kd.R_V (Kd.R_tight rfl (Kd.R_types (Kd.R_types (Kd.R_types (Kd.R_types (HO400.out) BK389.out (by decide)) BK390.out (by decide)) BK397.out (by decide)) BK416.out (by decide))))
      (case side2 => exact Kd.C_nil _ _)
      (case side3 => exact Nat.le_refl _)
      (case side4 => first | ((refine Glob.keep HG.out ?_); (repeat (first | (with_reducible first | exact HB.out | apply below_alloc | apply pw_below_drewN | apply below_drew1 | refine below_set ?_ GE389.out | refine below_set ?_ GE390.out | refine below_set ?_ GE397.out | refine below_set ?_ GE416.out) | exact HB.out)); done) | exact HG.out)
      rintro e w55 ⟨v406, v413, rfl, ho0, ho1, hb⟩
      refine ⟨_, rfl, ?_⟩
      have n0_ := Aside0.mk (Kd.R_below (by (with_reducible repeat (first | apply Kd.R_alloc | apply Kd.R_drewN | apply Kd.R_drew)); exact HO400.out) hb)
      have n1_ := Aside0.mk (Kd.V_lower (Kd.V_mono (ok' := fun k_ => some k_ ≠ (v413 : Value).ownBlock ∧ k_ ≠ gb389 ∧ k_ ≠ gb390 ∧ k_ ≠ gb397 ∧ k_ ≠ gb416) ho0 (fun k_ hk_ => ⟨hk_.2, Or.elim hk_.1 (fun hs_ => ((Kd.R_types (Kd.R_types (Kd.R_types (Kd.R_types (HO400.out) BK389.out (by decide)) BK390.out (by decide)) BK397.out (by decide)) BK416.out (by decide)).1 k_ hs_.symm).1.1.1.2) (fun hn_ => (Kd.freshB (g := gb389) (o := .cells #[.slice A0_0 l0_0.length c0_0, .int .i64 a0_1, .string a0_2, .int .u32 a0_3, .bool a0_4] 27 (0, 0)) (bk_ BK389) k_ hn_)), Or.elim hk_.1 (fun hs_ => ((Kd.R_types (Kd.R_types (Kd.R_types (Kd.R_types (HO400.out) BK389.out (by decide)) BK390.out (by decide)) BK397.out (by decide)) BK416.out (by decide)).1 k_ hs_.symm).1.1.2) (fun hn_ => (Kd.freshB (g := gb390) (o := .cells #[.int .u64 a2_0, .int .u64 a2_1] 50 (0, 0)) (bk_ BK390) k_ hn_)), Or.elim hk_.1 (fun hs_ => ((Kd.R_types (Kd.R_types (Kd.R_types (Kd.R_types (HO400.out) BK389.out (by decide)) BK390.out (by decide)) BK397.out (by decide)) BK416.out (by decide)).1 k_ hs_.symm).1.2) (fun hn_ => (Kd.freshB (g := gb397) (o := .cells #[.int .i64 12, .int .i64 0, .string a1, .int .i64 0, .int .i64 0, .string (⟨#[]⟩ : ByteArray), .bool false, .slice none 0 0, .int .u64 t395, .int .u64 0, .int .u64 a2_0, .int .i64 (wrap64 (1 + t396)), .bool false, .int .i64 0] 31 (0, 0)) (bk_ BK397) k_ hn_)), Or.elim hk_.1 (fun hs_ => ((Kd.R_types (Kd.R_types (Kd.R_types (Kd.R_types (HO400.out) BK389.out (by decide)) BK390.out (by decide)) BK397.out (by decide)) BK416.out (by decide)).1 k_ hs_.symm).2) (fun hn_ => (Kd.freshB (g := gb416) (o := .cells #[.slice none 0 0, .int .i64 0, .string (⟨#[]⟩ : ByteArray), .int .u32 0, .bool false] 27 (0, 0)) (bk_ BK416) k_ hn_))⟩)) (below_size (hb_ HB)))
      have n2_ := Aside0.mk (Kd.R_lower (Kd.R_mono (ok' := fun k_ => True) ho1 (fun _ hk_ => trivial)) (below_size (hb_ HB)))
      have n3_ := Aside0.mk (blk_below (bk_ BK389) hb)
      have n4_ := Aside0.mk (blk_below (bk_ BK390) hb)
      have n5_ := Aside0.mk (blk_below (bk_ BK397) hb)
      have n6_ := Aside0.mk (blk_below (bk_ BK416) hb)
      have n7_ := Aside0.mk (below_step (hb_ HB) hb)
      clear HO400
      clear BK389
      clear BK390
      clear BK397
      clear BK416
      clear HB
      have HO400 := n0_
      have HO407 := n1_
      have HO414 := n2_
      have BK389 := n3_
      have BK390 := n4_
      have BK397 := n5_
      have BK416 := n6_
      have HB := n7_
      clear n0_ n1_ n2_ n3_ n4_ n5_ n6_ n7_
      (try clear hb)
      (try clear hb2)
      (try clear hk)
      (try clear hi)
      (try clear ho0)
      (try clear ho1)
      refine hK.out _ _ ⟨(blk_cell BK389.out 0).trans rfl, (blk_cell BK389.out 1).trans rfl, (blk_cell BK389.out 2).trans rfl, (blk_cell BK389.out 3).trans rfl, (blk_cell BK389.out 4).trans rfl, (blk_cell BK397.out 0).trans rfl, (blk_cell BK397.out 1).trans rfl, (blk_cell BK397.out 2).trans rfl, (blk_cell BK397.out 3).trans rfl, (blk_cell BK397.out 4).trans rfl, (blk_cell BK397.out 5).trans rfl, (blk_cell BK397.out 6).trans rfl, (blk_cell BK397.out 7).trans rfl, (blk_cell BK397.out 8).trans rfl, (blk_cell BK397.out 9).trans rfl, (blk_cell BK397.out 10).trans rfl, (blk_cell BK397.out 11).trans rfl, (blk_cell BK397.out 12).trans rfl, (blk_cell BK397.out 13).trans rfl⟩ (fun hHeld => ?_)
      clear hK K
      refine norm_ (a' := ?_) ?_ ?_
      rotate_left
      ·show Act.put _ (some 53) _ = _
       simp only [Act.put, la_, lb_, lc_, i64_w, i32_w]
       rfl
      refine pon_ 4 (some 49) d6x21 HT_.out ?_
      refine pon_ 5 (some 54) d6x25 HT_.out ?_
      refine pon_ 6 (some 55) d6x28 HT_.out ?_
      refine pon_ 7 (some 56) d6x33 HT_.out ?_
      exact norm_ (by simp only [putAll, Act.put, la_, lb_, lc_]) (hCont (.slice Ao54 t398.length co54, v406, v413, gb416) _ ⟨hHeld, (by (with_reducible repeat (first | apply Kd.R_alloc | apply Kd.R_drewN | apply Kd.R_drew)); exact HO400.out), (by (with_reducible repeat (first | apply Kd.V_alloc | apply Kd.V_drewN | apply Kd.V_drew)); exact HO407.out), (by (with_reducible repeat (first | apply Kd.R_alloc | apply Kd.R_drewN | apply Kd.R_drew)); exact HO414.out), (bk_ BK389), (bk_ BK390), (bk_ BK397), (bk_ BK416), GW416.out, GE416.out, NB389_416.out, NB416_389.out, NB390_416.out, NB416_390.out, NB397_416.out, NB416_397.out, (hb_ HB)⟩)
    ·skip
     refine box_step ?hg (N := 10) ?hd (cs := #[.slice none 0 0, .int .i64 0, .string (⟨#[]⟩ : ByteArray), .int .u32 0, .bool false]) (t := 27) ?hr ?_; (case hd => rfl); (case hg => rfl); (case hr => first | (go_simp; done) | (go_simp; rfl))
     intro gb416 hg w52 hbox hb
     have n0_ := Aside0.mk (blk_below (bk_ BK389) hb)
     have n1_ := Aside0.mk (blk_below (bk_ BK390) hb)
     have n2_ := Aside0.mk (blk_below (bk_ BK397) hb)
     have n3_ := Aside0.mk (below_step (hb_ HB) hb)
     have n4_ := Aside0.mk (hbox)
     have n5_ := Aside0.mk ((by rw [hg]; exact (below_size (hb_ HB)) : w.heap.size ≤ gb416))
     have n6_ := Aside0.mk ((by rw [hg]; exact (below_size (hb_ HB)) : w.heap.size ≤ gb416))
     have n7_ := Aside0.mk ((by rw [hg]; exact Nat.ne_of_lt (blk_lt (g := gb389) (o := .cells #[.slice A0_0 l0_0.length c0_0, .int .i64 a0_1, .string a0_2, .int .u32 a0_3, .bool a0_4] 27 (0, 0)) (bk_ BK389)) : gb389 ≠ gb416))
     have n8_ := Aside0.mk ((by rw [hg]; exact Nat.ne_of_gt (blk_lt (g := gb389) (o := .cells #[.slice A0_0 l0_0.length c0_0, .int .i64 a0_1, .string a0_2, .int .u32 a0_3, .bool a0_4] 27 (0, 0)) (bk_ BK389)) : gb416 ≠ gb389))
     have n9_ := Aside0.mk ((by rw [hg]; exact Nat.ne_of_lt (blk_lt (g := gb390) (o := .cells #[.int .u64 a2_0, .int .u64 a2_1] 50 (0, 0)) (bk_ BK390)) : gb390 ≠ gb416))
     have n10_ := Aside0.mk ((by rw [hg]; exact Nat.ne_of_gt (blk_lt (g := gb390) (o := .cells #[.int .u64 a2_0, .int .u64 a2_1] 50 (0, 0)) (bk_ BK390)) : gb416 ≠ gb390))
     have n11_ := Aside0.mk ((by rw [hg]; exact Nat.ne_of_lt (blk_lt (g := gb397) (o := .cells #[.int .i64 12, .int .i64 0, .string a1, .int .i64 0, .int .i64 0, .string (⟨#[]⟩ : ByteArray), .bool false, .slice none 0 0, .int .u64 t395, .int .u64 0, .int .u64 a2_0, .int .i64 (wrap64 (1 + t396)), .bool false, .int .i64 0] 31 (0, 0)) (bk_ BK397)) : gb397 ≠ gb416))
     have n12_ := Aside0.mk ((by rw [hg]; exact Nat.ne_of_gt (blk_lt (g := gb397) (o := .cells #[.int .i64 12, .int .i64 0, .string a1, .int .i64 0, .int .i64 0, .string (⟨#[]⟩ : ByteArray), .bool false, .slice none 0 0, .int .u64 t395, .int .u64 0, .int .u64 a2_0, .int .i64 (wrap64 (1 + t396)), .bool false, .int .i64 0] 31 (0, 0)) (bk_ BK397)) : gb416 ≠ gb397))
     clear BK389
     clear BK390
     clear BK397
     clear HB
     have BK389 := n0_
     have BK390 := n1_
     have BK397 := n2_
     have HB := n3_
     have BK416 := n4_
     have GW416 := n5_
     have GE416 := n6_
     have NB389_416 := n7_
     have NB416_389 := n8_
     have NB390_416 := n9_
     have NB416_390 := n10_
     have NB397_416 := n11_
     have NB416_397 := n12_
     clear n0_ n1_ n2_ n3_ n4_ n5_ n6_ n7_ n8_ n9_ n10_ n11_ n12_
     clear hb hbox hg
     refine hK.out _ _ ⟨(blk_cell BK389.out 0).trans rfl, (blk_cell BK389.out 1).trans rfl, (blk_cell BK389.out 2).trans rfl, (blk_cell BK389.out 3).trans rfl, (blk_cell BK389.out 4).trans rfl, (blk_cell BK397.out 0).trans rfl, (blk_cell BK397.out 1).trans rfl, (blk_cell BK397.out 2).trans rfl, (blk_cell BK397.out 3).trans rfl, (blk_cell BK397.out 4).trans rfl, (blk_cell BK397.out 5).trans rfl, (blk_cell BK397.out 6).trans rfl, (blk_cell BK397.out 7).trans rfl, (blk_cell BK397.out 8).trans rfl, (blk_cell BK397.out 9).trans rfl, (blk_cell BK397.out 10).trans rfl, (blk_cell BK397.out 11).trans rfl, (blk_cell BK397.out 12).trans rfl, (blk_cell BK397.out 13).trans rfl⟩ (fun hHeld => ?_)
     clear hK K
     refine norm_ (a' := ?_) ?_ ?_
     rotate_left
     ·show Act.put _ (some 10) _ = _
      simp only [Act.put, la_, lb_, lc_, i64_w, i32_w]
      rfl
     refine one_ (i := 1) (N := some 51) d6x12 rfl rfl (one_of HT_.out (by kernel_rfl)) (by decide) (fun K hK => ?_)
     refine goes_ Tryd.func14 (by kernel_rfl) rfl #[.agg #[.slice A0_0 l0_0.length c0_0, .int .i64 a0_1, .string a0_2, .int .u32 a0_3, .bool a0_4]] (by rfl) rfl rfl (by (try simp only [List.map_toArray, List.map_cons, List.map_nil]); first | done | rfl | (simp only [List.length_drop, List.length_take]; rfl)) ?_
     with_reducible refine (headgatekeep_CopyTable.calls _ _ l0_0 a0_1 a0_2 a0_3 a0_4 t398 t401 t402 t403 t404 _ ?side1 ?side2 A41.out).mono ?_
     (case side1 => repeat (first | exact (Kd.C_below HR0_0.out HB.out) | (with_reducible refine Kd.C_alloc ?_ _) | (with_reducible refine Kd.C_drewN ?_ _) | (with_reducible refine Kd.C_drew ?_)))
     (case side2 => exact HC0_0.out)
     rintro e w53 ⟨v399, rfl, ho0, hb⟩
     refine ⟨_, rfl, ?_⟩
     have n0_ := Aside0.mk (Kd.R_lower ho0 (below_size (hb_ HB)))
     have n1_ := Aside0.mk (blk_below (bk_ BK389) hb)
     have n2_ := Aside0.mk (blk_below (bk_ BK390) hb)
     have n3_ := Aside0.mk (blk_below (bk_ BK397) hb)
     have n4_ := Aside0.mk (blk_below (bk_ BK416) hb)
     have n5_ := Aside0.mk (below_step (hb_ HB) hb)
     clear BK389
     clear BK390
     clear BK397
     clear BK416
     clear HB
     have HO400 := n0_
     have BK389 := n1_
     have BK390 := n2_
     have BK397 := n3_
     have BK416 := n4_
     have HB := n5_
     clear n0_ n1_ n2_ n3_ n4_ n5_
     (try clear hb)
     (try clear hb2)
     (try clear hk)
     (try clear hi)
     (try clear ho0)
     obtain ⟨Ao54, co54, eo54⟩ := Kd.R_slice HO400.out
     (first | subst eo54 | (injection eo54 with f1_ f2_ f3_; have f4_ := f1_.symm; have f5_ := f3_.symm; clear f1_ f2_ f3_; subst f4_; subst f5_))
     refine hK.out _ _ ⟨(blk_cell BK389.out 0).trans rfl, (blk_cell BK389.out 1).trans rfl, (blk_cell BK389.out 2).trans rfl, (blk_cell BK389.out 3).trans rfl, (blk_cell BK389.out 4).trans rfl, (blk_cell BK397.out 0).trans rfl, (blk_cell BK397.out 1).trans rfl, (blk_cell BK397.out 2).trans rfl, (blk_cell BK397.out 3).trans rfl, (blk_cell BK397.out 4).trans rfl, (blk_cell BK397.out 5).trans rfl, (blk_cell BK397.out 6).trans rfl, (blk_cell BK397.out 7).trans rfl, (blk_cell BK397.out 8).trans rfl, (blk_cell BK397.out 9).trans rfl, (blk_cell BK397.out 10).trans rfl, (blk_cell BK397.out 11).trans rfl, (blk_cell BK397.out 12).trans rfl, (blk_cell BK397.out 13).trans rfl⟩ (fun hHeld => ?_)
     clear hK K
     refine norm_ (a' := ?_) ?_ ?_
     rotate_left
     ·show Act.put _ (some 51) _ = _
      simp only [Act.put, la_, lb_, lc_, i64_w, i32_w]
      rfl
     refine one_ (i := 3) (N := some 53) d6x17 rfl rfl (one_of HT_.out (by kernel_rfl)) (by decide) (fun K hK => ?_)
     refine goes_ Tryd.func15 (by kernel_rfl) rfl #[.agg #[.slice Ao54 t398.length co54, .int .i64 t401, .string t402, .int .u32 t403, .bool t404], .agg #[.int .i64 12, .int .i64 0, .string a1, .int .i64 0, .int .i64 0, .string (⟨#[]⟩ : ByteArray), .bool false, .slice none 0 0, .int .u64 t395, .int .u64 0, .int .u64 a2_0, .int .i64 (wrap64 (1 + t396)), .bool false, .int .i64 0]] (by rfl) rfl rfl (by (try simp only [List.map_toArray, List.map_cons, List.map_nil]); first | done | rfl | (simp only [List.length_drop, List.length_take]; rfl)) ?_
     refine (resv_Do.calls kj3 (fun k_ => some k_ = (.slice Ao54 t398.length co54 : Value).ownBlock) _ _ t398 t401 t402 t403 t404 12 0 a1 0 0 (⟨#[]⟩ : ByteArray) false _ _ ([] : List (S100)) t395 0 a2_0 (wrap64 (1 + t396)) false 0 t405 t408 t409 t410 t411 t412 t415 _ ?side1 ?side2 ?side3 ?side4 A42.out).mono ?_
     (case side1 => exact Kd.R_V (Kd.R_tight rfl (Kd.R_types (Kd.R_types (Kd.R_types (Kd.R_types (HO400.out) BK389.out (by decide)) BK390.out (by decide)) BK397.out (by decide)) BK416.out (by decide))))
     (case side2 => exact Kd.C_nil _ _)
     (case side3 => exact Nat.le_refl _)
     (case side4 => first | ((refine Glob.keep HG.out ?_); (repeat (first | (with_reducible first | exact HB.out | apply below_alloc | apply pw_below_drewN | apply below_drew1 | refine below_set ?_ GE389.out | refine below_set ?_ GE390.out | refine below_set ?_ GE397.out | refine below_set ?_ GE416.out) | exact HB.out)); done) | exact HG.out)
     rintro e w55 ⟨v406, v413, rfl, ho0, ho1, hb⟩
     refine ⟨_, rfl, ?_⟩
     have n0_ := Aside0.mk (Kd.R_below (by (with_reducible repeat (first | apply Kd.R_alloc | apply Kd.R_drewN | apply Kd.R_drew)); exact HO400.out) hb)
     have n1_ := Aside0.mk (Kd.V_lower (Kd.V_mono (ok' := fun k_ => some k_ ≠ (v413 : Value).ownBlock ∧ k_ ≠ gb389 ∧ k_ ≠ gb390 ∧ k_ ≠ gb397 ∧ k_ ≠ gb416) ho0 (fun k_ hk_ => ⟨hk_.2, Or.elim hk_.1 (fun hs_ => ((Kd.R_types (Kd.R_types (Kd.R_types (Kd.R_types (HO400.out) BK389.out (by decide)) BK390.out (by decide)) BK397.out (by decide)) BK416.out (by decide)).1 k_ hs_.symm).1.1.1.2) (fun hn_ => (Kd.freshB (g := gb389) (o := .cells #[.slice A0_0 l0_0.length c0_0, .int .i64 a0_1, .string a0_2, .int .u32 a0_3, .bool a0_4] 27 (0, 0)) (bk_ BK389) k_ hn_)), Or.elim hk_.1 (fun hs_ => ((Kd.R_types (Kd.R_types (Kd.R_types (Kd.R_types (HO400.out) BK389.out (by decide)) BK390.out (by decide)) BK397.out (by decide)) BK416.out (by decide)).1 k_ hs_.symm).1.1.2) (fun hn_ => (Kd.freshB (g := gb390) (o := .cells #[.int .u64 a2_0, .int .u64 a2_1] 50 (0, 0)) (bk_ BK390) k_ hn_)), Or.elim hk_.1 (fun hs_ => ((Kd.R_types (Kd.R_types (Kd.R_types (Kd.R_types (HO400.out) BK389.out (by decide)) BK390.out (by decide)) BK397.out (by decide)) BK416.out (by decide)).1 k_ hs_.symm).1.2) (fun hn_ => (Kd.freshB (g := gb397) (o := .cells #[.int .i64 12, .int .i64 0, .string a1, .int .i64 0, .int .i64 0, .string (⟨#[]⟩ : ByteArray), .bool false, .slice none 0 0, .int .u64 t395, .int .u64 0, .int .u64 a2_0, .int .i64 (wrap64 (1 + t396)), .bool false, .int .i64 0] 31 (0, 0)) (bk_ BK397) k_ hn_)), Or.elim hk_.1 (fun hs_ => ((Kd.R_types (Kd.R_types (Kd.R_types (Kd.R_types (HO400.out) BK389.out (by decide)) BK390.out (by decide)) BK397.out (by decide)) BK416.out (by decide)).1 k_ hs_.symm).2) (fun hn_ => (Kd.freshB (g := gb416) (o := .cells #[.slice none 0 0, .int .i64 0, .string (⟨#[]⟩ : ByteArray), .int .u32 0, .bool false] 27 (0, 0)) (bk_ BK416) k_ hn_))⟩)) (below_size (hb_ HB)))
     have n2_ := Aside0.mk (Kd.R_lower (Kd.R_mono (ok' := fun k_ => True) ho1 (fun _ hk_ => trivial)) (below_size (hb_ HB)))
     have n3_ := Aside0.mk (blk_below (bk_ BK389) hb)
     have n4_ := Aside0.mk (blk_below (bk_ BK390) hb)
     have n5_ := Aside0.mk (blk_below (bk_ BK397) hb)
     have n6_ := Aside0.mk (blk_below (bk_ BK416) hb)
     have n7_ := Aside0.mk (below_step (hb_ HB) hb)
     clear HO400
     clear BK389
     clear BK390
     clear BK397
     clear BK416
     clear HB
     have HO400 := n0_
     have HO407 := n1_
     have HO414 := n2_
     have BK389 := n3_
     have BK390 := n4_
     have BK397 := n5_
     have BK416 := n6_
     have HB := n7_
     clear n0_ n1_ n2_ n3_ n4_ n5_ n6_ n7_
     (try clear hb)
     (try clear hb2)
     (try clear hk)
     (try clear hi)
     (try clear ho0)
     (try clear ho1)
     refine hK.out _ _ ⟨(blk_cell BK389.out 0).trans rfl, (blk_cell BK389.out 1).trans rfl, (blk_cell BK389.out 2).trans rfl, (blk_cell BK389.out 3).trans rfl, (blk_cell BK389.out 4).trans rfl, (blk_cell BK397.out 0).trans rfl, (blk_cell BK397.out 1).trans rfl, (blk_cell BK397.out 2).trans rfl, (blk_cell BK397.out 3).trans rfl, (blk_cell BK397.out 4).trans rfl, (blk_cell BK397.out 5).trans rfl, (blk_cell BK397.out 6).trans rfl, (blk_cell BK397.out 7).trans rfl, (blk_cell BK397.out 8).trans rfl, (blk_cell BK397.out 9).trans rfl, (blk_cell BK397.out 10).trans rfl, (blk_cell BK397.out 11).trans rfl, (blk_cell BK397.out 12).trans rfl, (blk_cell BK397.out 13).trans rfl⟩ (fun hHeld => ?_)
     clear hK K
     refine norm_ (a' := ?_) ?_ ?_
     rotate_left
     ·show Act.put _ (some 53) _ = _
      simp only [Act.put, la_, lb_, lc_, i64_w, i32_w]
      rfl
     refine pon_ 4 (some 49) d6x21 HT_.out ?_
     refine pon_ 5 (some 54) d6x25 HT_.out ?_
     refine pon_ 6 (some 55) d6x28 HT_.out ?_
     refine pon_ 7 (some 56) d6x33 HT_.out ?_
     exact norm_ (by simp only [putAll, Act.put, la_, lb_, lc_]) (hCont (.slice Ao54 t398.length co54, v406, v413, gb416) _ ⟨hHeld, (by (with_reducible repeat (first | apply Kd.R_alloc | apply Kd.R_drewN | apply Kd.R_drew)); exact HO400.out), (by (with_reducible repeat (first | apply Kd.V_alloc | apply Kd.V_drewN | apply Kd.V_drew)); exact HO407.out), (by (with_reducible repeat (first | apply Kd.R_alloc | apply Kd.R_drewN | apply Kd.R_drew)); exact HO414.out), (bk_ BK389), (bk_ BK390), (bk_ BK397), (bk_ BK416), GW416.out, GE416.out, NB389_416.out, NB416_389.out, NB390_416.out, NB416_390.out, NB397_416.out, NB416_397.out, (hb_ HB)⟩)
   rintro ⟨v399, v406, v413, gb416⟩ w56 ⟨hS_, h0_, h1_, h2_, h3_, h4_, h5_, h6_, h7_, h8_, h9_, h10_, h11_, h12_, h13_, h14_, h15_⟩
   have n0_ : Aside0 (Kd.R k53 53 w56 w.heap.size (fun _ => True) v399 t398) := ⟨h0_⟩
   have n1_ : Aside0 (Kd.V k53 53 w56 w.heap.size (fun k_ => some k_ ≠ (v413 : Value).ownBlock ∧ k_ ≠ gb389 ∧ k_ ≠ gb390 ∧ k_ ≠ gb397 ∧ k_ ≠ gb416) v406 t405) := ⟨h1_⟩
   have n2_ : Aside0 (Kd.R k46 46 w56 w.heap.size (fun _ => True) v413 t412) := ⟨h2_⟩
   have n3_ : Aside0 (w56.heap[gb389]? = some (.cells #[.slice A0_0 l0_0.length c0_0, .int .i64 a0_1, .string a0_2, .int .u32 a0_3, .bool a0_4] 27 (0, 0))) := ⟨h3_⟩
   have n4_ : Aside0 (w56.heap[gb390]? = some (.cells #[.int .u64 a2_0, .int .u64 a2_1] 50 (0, 0))) := ⟨h4_⟩
   have n5_ : Aside0 (w56.heap[gb397]? = some (.cells #[.int .i64 12, .int .i64 0, .string a1, .int .i64 0, .int .i64 0, .string (⟨#[]⟩ : ByteArray), .bool false, .slice none 0 0, .int .u64 t395, .int .u64 0, .int .u64 a2_0, .int .i64 (wrap64 (1 + t396)), .bool false, .int .i64 0] 31 (0, 0))) := ⟨h5_⟩
   have n6_ : Aside0 (w56.heap[gb416]? = some (.cells #[.slice none 0 0, .int .i64 0, .string (⟨#[]⟩ : ByteArray), .int .u32 0, .bool false] 27 (0, 0))) := ⟨h6_⟩
   have n7_ : Aside0 (w.heap.size ≤ gb416) := ⟨h7_⟩
   have n8_ : Aside0 (w.heap.size ≤ gb416) := ⟨h8_⟩
   have n9_ : Aside0 (gb389 ≠ gb416) := ⟨h9_⟩
   have n10_ : Aside0 (gb416 ≠ gb389) := ⟨h10_⟩
   have n11_ : Aside0 (gb390 ≠ gb416) := ⟨h11_⟩
   have n12_ : Aside0 (gb416 ≠ gb390) := ⟨h12_⟩
   have n13_ : Aside0 (gb397 ≠ gb416) := ⟨h13_⟩
   have n14_ : Aside0 (gb416 ≠ gb397) := ⟨h14_⟩
   have n15_ : Aside0 (Below w.heap.size w w56) := ⟨h15_⟩
   clear BK389
   clear BK390
   clear BK397
   clear HB
   clear h0_ h1_ h2_ h3_ h4_ h5_ h6_ h7_ h8_ h9_ h10_ h11_ h12_ h13_ h14_ h15_
   have HO400 := n0_
   have HO407 := n1_
   have HO414 := n2_
   have BK389 := n3_
   have BK390 := n4_
   have BK397 := n5_
   have BK416 := n6_
   have GW416 := n7_
   have GE416 := n8_
   have NB389_416 := n9_
   have NB416_389 := n10_
   have NB390_416 := n11_
   have NB416_390 := n12_
   have NB397_416 := n13_
   have NB416_397 := n14_
   have HB := n15_
   clear n0_ n1_ n2_ n3_ n4_ n5_ n6_ n7_ n8_ n9_ n10_ n11_ n12_ n13_ n14_ n15_
   have hHeld : w56.cell? ⟨gb389, 0, none⟩ = some (.slice A0_0 l0_0.length c0_0) ∧ w56.cell? ⟨gb389, 1, none⟩ = some (.int .i64 a0_1) ∧ w56.cell? ⟨gb389, 2, none⟩ = some (.string a0_2) ∧ w56.cell? ⟨gb389, 3, none⟩ = some (.int .u32 a0_3) ∧ w56.cell? ⟨gb389, 4, none⟩ = some (.bool a0_4) ∧ w56.cell? ⟨gb397, 0, none⟩ = some (.int .i64 12) ∧ w56.cell? ⟨gb397, 1, none⟩ = some (.int .i64 0) ∧ w56.cell? ⟨gb397, 2, none⟩ = some (.string a1) ∧ w56.cell? ⟨gb397, 3, none⟩ = some (.int .i64 0) ∧ w56.cell? ⟨gb397, 4, none⟩ = some (.int .i64 0) ∧ w56.cell? ⟨gb397, 5, none⟩ = some (.string (⟨#[]⟩ : ByteArray)) ∧ w56.cell? ⟨gb397, 6, none⟩ = some (.bool false) ∧ w56.cell? ⟨gb397, 7, none⟩ = some (.slice none 0 0) ∧ w56.cell? ⟨gb397, 8, none⟩ = some (.int .u64 t395) ∧ w56.cell? ⟨gb397, 9, none⟩ = some (.int .u64 0) ∧ w56.cell? ⟨gb397, 10, none⟩ = some (.int .u64 a2_0) ∧ w56.cell? ⟨gb397, 11, none⟩ = some (.int .i64 (wrap64 (1 + t396))) ∧ w56.cell? ⟨gb397, 12, none⟩ = some (.bool false) ∧ w56.cell? ⟨gb397, 13, none⟩ = some (.int .i64 0) := hS_
   obtain ⟨Ao57, co57, eo57⟩ := Kd.V_slice HO407.out
   (first | subst eo57 | (injection eo57 with f1_ f2_ f3_; have f4_ := f1_.symm; have f5_ := f3_.symm; clear f1_ f2_ f3_; subst f4_; subst f5_))
   refine norm_ (a' := ?_) ?_ ?_
   rotate_left
   ·simp only [putAll, Act.put, la_, lb_, lc_]
    rfl
   refine one_ (i := 9) (N := none) d6x35 rfl rfl (one_of HT_.out (by kernel_rfl)) (by decide) (fun K hK => ?_)
   have hs58 : w56.cell? ⟨gb416, 0, none⟩ = some (.slice none 0 0) := (blk_cell BK416.out 0).trans rfl
   have hfs58 := blk_frozen BK416.out 0
   have hns58_0 := NB389_416.out
   have hns58_1 := NB390_416.out
   have hns58_2 := NB397_416.out
   have hms58_0 := NB416_389.out
   have hms58_1 := NB416_390.out
   have hms58_2 := NB416_397.out
   have hs59 : w56.cell? ⟨gb416, 1, none⟩ = some (.int .i64 0) := (blk_cell BK416.out 1).trans rfl
   have hfs59 := blk_frozen BK416.out 1
   have hns59_0 := NB389_416.out
   have hns59_1 := NB390_416.out
   have hns59_2 := NB397_416.out
   have hms59_0 := NB416_389.out
   have hms59_1 := NB416_390.out
   have hms59_2 := NB416_397.out
   have hs60 : w56.cell? ⟨gb416, 2, none⟩ = some (.string (⟨#[]⟩ : ByteArray)) := (blk_cell BK416.out 2).trans rfl
   have hfs60 := blk_frozen BK416.out 2
   have hns60_0 := NB389_416.out
   have hns60_1 := NB390_416.out
   have hns60_2 := NB397_416.out
   have hms60_0 := NB416_389.out
   have hms60_1 := NB416_390.out
   have hms60_2 := NB416_397.out
   have hs61 : w56.cell? ⟨gb416, 3, none⟩ = some (.int .u32 0) := (blk_cell BK416.out 3).trans rfl
   have hfs61 := blk_frozen BK416.out 3
   have hns61_0 := NB389_416.out
   have hns61_1 := NB390_416.out
   have hns61_2 := NB397_416.out
   have hms61_0 := NB416_389.out
   have hms61_1 := NB416_390.out
   have hms61_2 := NB416_397.out
   have hs62 : w56.cell? ⟨gb416, 4, none⟩ = some (.bool false) := (blk_cell BK416.out 4).trans rfl
   have hfs62 := blk_frozen BK416.out 4
   have hns62_0 := NB389_416.out
   have hns62_1 := NB390_416.out
   have hns62_2 := NB397_416.out
   have hms62_0 := NB416_389.out
   have hms62_1 := NB416_390.out
   have hms62_2 := NB416_397.out
   refine skip_ (w1 := ?_) (by rfl) rfl ?_ ?_
   rotate_left
   ·go_simp
    rfl
   refine hK.out _ _ ⟨((cell_far (p := ⟨gb416, _, none⟩) NB389_416.out _).trans (((cell_far (p := ⟨gb416, _, none⟩) NB389_416.out _).trans (((cell_far (p := ⟨gb416, _, none⟩) NB389_416.out _).trans (((cell_far (p := ⟨gb416, _, none⟩) NB389_416.out _).trans (((cell_far (p := ⟨gb416, _, none⟩) NB389_416.out _).trans (hHeld.1)))))))))), ((cell_far (p := ⟨gb416, _, none⟩) NB389_416.out _).trans (((cell_far (p := ⟨gb416, _, none⟩) NB389_416.out _).trans (((cell_far (p := ⟨gb416, _, none⟩) NB389_416.out _).trans (((cell_far (p := ⟨gb416, _, none⟩) NB389_416.out _).trans (((cell_far (p := ⟨gb416, _, none⟩) NB389_416.out _).trans (hHeld.2.1)))))))))), ((cell_far (p := ⟨gb416, _, none⟩) NB389_416.out _).trans (((cell_far (p := ⟨gb416, _, none⟩) NB389_416.out _).trans (((cell_far (p := ⟨gb416, _, none⟩) NB389_416.out _).trans (((cell_far (p := ⟨gb416, _, none⟩) NB389_416.out _).trans (((cell_far (p := ⟨gb416, _, none⟩) NB389_416.out _).trans (hHeld.2.2.1)))))))))), ((cell_far (p := ⟨gb416, _, none⟩) NB389_416.out _).trans (((cell_far (p := ⟨gb416, _, none⟩) NB389_416.out _).trans (((cell_far (p := ⟨gb416, _, none⟩) NB389_416.out _).trans (((cell_far (p := ⟨gb416, _, none⟩) NB389_416.out _).trans (((cell_far (p := ⟨gb416, _, none⟩) NB389_416.out _).trans (hHeld.2.2.2.1)))))))))), ((cell_far (p := ⟨gb416, _, none⟩) NB389_416.out _).trans (((cell_far (p := ⟨gb416, _, none⟩) NB389_416.out _).trans (((cell_far (p := ⟨gb416, _, none⟩) NB389_416.out _).trans (((cell_far (p := ⟨gb416, _, none⟩) NB389_416.out _).trans (((cell_far (p := ⟨gb416, _, none⟩) NB389_416.out _).trans (hHeld.2.2.2.2.1)))))))))), ((cell_far (p := ⟨gb416, _, none⟩) NB397_416.out _).trans (((cell_far (p := ⟨gb416, _, none⟩) NB397_416.out _).trans (((cell_far (p := ⟨gb416, _, none⟩) NB397_416.out _).trans (((cell_far (p := ⟨gb416, _, none⟩) NB397_416.out _).trans (((cell_far (p := ⟨gb416, _, none⟩) NB397_416.out _).trans (hHeld.2.2.2.2.2.1)))))))))), ((cell_far (p := ⟨gb416, _, none⟩) NB397_416.out _).trans (((cell_far (p := ⟨gb416, _, none⟩) NB397_416.out _).trans (((cell_far (p := ⟨gb416, _, none⟩) NB397_416.out _).trans (((cell_far (p := ⟨gb416, _, none⟩) NB397_416.out _).trans (((cell_far (p := ⟨gb416, _, none⟩) NB397_416.out _).trans (hHeld.2.2.2.2.2.2.1)))))))))), ((cell_far (p := ⟨gb416, _, none⟩) NB397_416.out _).trans (((cell_far (p := ⟨gb416, _, none⟩) NB397_416.out _).trans (((cell_far (p := ⟨gb416, _, none⟩) NB397_416.out _).trans (((cell_far (p := ⟨gb416, _, none⟩) NB397_416.out _).trans (((cell_far (p := ⟨gb416, _, none⟩) NB397_416.out _).trans (hHeld.2.2.2.2.2.2.2.1)))))))))), ((cell_far (p := ⟨gb416, _, none⟩) NB397_416.out _).trans (((cell_far (p := ⟨gb416, _, none⟩) NB397_416.out _).trans (((cell_far (p := ⟨gb416, _, none⟩) NB397_416.out _).trans (((cell_far (p := ⟨gb416, _, none⟩) NB397_416.out _).trans (((cell_far (p := ⟨gb416, _, none⟩) NB397_416.out _).trans (hHeld.2.2.2.2.2.2.2.2.1)))))))))), ((cell_far (p := ⟨gb416, _, none⟩) NB397_416.out _).trans (((cell_far (p := ⟨gb416, _, none⟩) NB397_416.out _).trans (((cell_far (p := ⟨gb416, _, none⟩) NB397_416.out _).trans (((cell_far (p := ⟨gb416, _, none⟩) NB397_416.out _).trans (((cell_far (p := ⟨gb416, _, none⟩) NB397_416.out _).trans (hHeld.2.2.2.2.2.2.2.2.2.1)))))))))), ((cell_far (p := ⟨gb416, _, none⟩) NB397_416.out _).trans (((cell_far (p := ⟨gb416, _, none⟩) NB397_416.out _).trans (((cell_far (p := ⟨gb416, _, none⟩) NB397_416.out _).trans (((cell_far (p := ⟨gb416, _, none⟩) NB397_416.out _).trans (((cell_far (p := ⟨gb416, _, none⟩) NB397_416.out _).trans (hHeld.2.2.2.2.2.2.2.2.2.2.1)))))))))), ((cell_far (p := ⟨gb416, _, none⟩) NB397_416.out _).trans (((cell_far (p := ⟨gb416, _, none⟩) NB397_416.out _).trans (((cell_far (p := ⟨gb416, _, none⟩) NB397_416.out _).trans (((cell_far (p := ⟨gb416, _, none⟩) NB397_416.out _).trans (((cell_far (p := ⟨gb416, _, none⟩) NB397_416.out _).trans (hHeld.2.2.2.2.2.2.2.2.2.2.2.1)))))))))), ((cell_far (p := ⟨gb416, _, none⟩) NB397_416.out _).trans (((cell_far (p := ⟨gb416, _, none⟩) NB397_416.out _).trans (((cell_far (p := ⟨gb416, _, none⟩) NB397_416.out _).trans (((cell_far (p := ⟨gb416, _, none⟩) NB397_416.out _).trans (((cell_far (p := ⟨gb416, _, none⟩) NB397_416.out _).trans (hHeld.2.2.2.2.2.2.2.2.2.2.2.2.1)))))))))), ((cell_far (p := ⟨gb416, _, none⟩) NB397_416.out _).trans (((cell_far (p := ⟨gb416, _, none⟩) NB397_416.out _).trans (((cell_far (p := ⟨gb416, _, none⟩) NB397_416.out _).trans (((cell_far (p := ⟨gb416, _, none⟩) NB397_416.out _).trans (((cell_far (p := ⟨gb416, _, none⟩) NB397_416.out _).trans (hHeld.2.2.2.2.2.2.2.2.2.2.2.2.2.1)))))))))), ((cell_far (p := ⟨gb416, _, none⟩) NB397_416.out _).trans (((cell_far (p := ⟨gb416, _, none⟩) NB397_416.out _).trans (((cell_far (p := ⟨gb416, _, none⟩) NB397_416.out _).trans (((cell_far (p := ⟨gb416, _, none⟩) NB397_416.out _).trans (((cell_far (p := ⟨gb416, _, none⟩) NB397_416.out _).trans (hHeld.2.2.2.2.2.2.2.2.2.2.2.2.2.2.1)))))))))), ((cell_far (p := ⟨gb416, _, none⟩) NB397_416.out _).trans (((cell_far (p := ⟨gb416, _, none⟩) NB397_416.out _).trans (((cell_far (p := ⟨gb416, _, none⟩) NB397_416.out _).trans (((cell_far (p := ⟨gb416, _, none⟩) NB397_416.out _).trans (((cell_far (p := ⟨gb416, _, none⟩) NB397_416.out _).trans (hHeld.2.2.2.2.2.2.2.2.2.2.2.2.2.2.2.1)))))))))), ((cell_far (p := ⟨gb416, _, none⟩) NB397_416.out _).trans (((cell_far (p := ⟨gb416, _, none⟩) NB397_416.out _).trans (((cell_far (p := ⟨gb416, _, none⟩) NB397_416.out _).trans (((cell_far (p := ⟨gb416, _, none⟩) NB397_416.out _).trans (((cell_far (p := ⟨gb416, _, none⟩) NB397_416.out _).trans (hHeld.2.2.2.2.2.2.2.2.2.2.2.2.2.2.2.2.1)))))))))), ((cell_far (p := ⟨gb416, _, none⟩) NB397_416.out _).trans (((cell_far (p := ⟨gb416, _, none⟩) NB397_416.out _).trans (((cell_far (p := ⟨gb416, _, none⟩) NB397_416.out _).trans (((cell_far (p := ⟨gb416, _, none⟩) NB397_416.out _).trans (((cell_far (p := ⟨gb416, _, none⟩) NB397_416.out _).trans (hHeld.2.2.2.2.2.2.2.2.2.2.2.2.2.2.2.2.2.1)))))))))), ((cell_far (p := ⟨gb416, _, none⟩) NB397_416.out _).trans (((cell_far (p := ⟨gb416, _, none⟩) NB397_416.out _).trans (((cell_far (p := ⟨gb416, _, none⟩) NB397_416.out _).trans (((cell_far (p := ⟨gb416, _, none⟩) NB397_416.out _).trans (((cell_far (p := ⟨gb416, _, none⟩) NB397_416.out _).trans (hHeld.2.2.2.2.2.2.2.2.2.2.2.2.2.2.2.2.2.2))))))))))⟩ (fun hHeld => ?_)
   clear hK K
   refine pon_ 10 (some 11) d6x37 HT_.out ?_
   refine pon_ 11 (some 12) d6x60 HT_.out ?_
   refine done_ (done_of HT_.out (by kernel_rfl)) ?_
   try go_wp2
   go_loopg [13, 14, 15] kj3 (fun kq v13 v14 v15 w' => ∃ (x13_2 : Int) (x14_2 : List (S53)) (x15_2 : Int), v13 = .int .i64 x13_2 ∧ v15 = .int .i64 x15_2 ∧ Aside0 (headgatelaw11_ResvStruck.l0 kq a1 a2_0 t412 t415 x13_2 x14_2 x15_2 l0_0 a0_1 a0_2 a0_3 a0_4 t405 t408 t409 t410 t411 = some r) ∧ Aside0 (kq ≤ kj3) ∧ Aside0 (Kd.R k46 46 w' w.heap.size (fun _ => True) v413 t412) ∧ Aside0 (Kd.R k53 53 w' w.heap.size (fun _ => True) v14 x14_2) ∧ Aside0 (Kd.V k53 53 w' w.heap.size (fun k_ => some k_ ≠ (v413 : Value).ownBlock ∧ some k_ ≠ (v14 : Value).ownBlock ∧ k_ ≠ gb389 ∧ k_ ≠ gb390 ∧ k_ ≠ gb397 ∧ k_ ≠ gb416) (.slice Ao57 t405.length co57) t405) ∧ Aside0 (w'.heap[gb389]? = some (.cells #[(.slice A0_0 l0_0.length c0_0), .int .i64 a0_1, .string a0_2, .int .u32 a0_3, .bool a0_4] 27 (0, 0))) ∧ Aside0 (w'.heap[gb390]? = some (.cells #[.int .u64 a2_0, .int .u64 a2_1] 50 (0, 0))) ∧ Aside0 (w'.heap[gb397]? = some (.cells #[.int .i64 12, .int .i64 0, .string a1, .int .i64 0, .int .i64 0, .string (⟨#[]⟩ : ByteArray), .bool false, (.slice none 0 0), .int .u64 t395, .int .u64 0, .int .u64 a2_0, .int .i64 (wrap64 (1 + t396)), .bool false, .int .i64 0] 31 (0, 0))) ∧ Aside0 (w'.heap[gb416]? = some (.cells #[(.slice Ao57 t405.length co57), .int .i64 t408, .string t409, .int .u32 t410, .bool t411] 27 (0, 0))) ∧ Aside0 (Below w.heap.size w w'))
   case atStart => exact ⟨(0), (([] : List (S53))), (0), (by first | rfl | (simp; done) | (simp [*]; done)), (by first | rfl | (simp; done) | (simp [*]; done)), H', ⟨Nat.le_refl _⟩, ⟨by (with_reducible repeat (first | apply Kd.R_alloc | apply Kd.R_drewN | apply Kd.R_drew)); exact Kd.R_mono (Kd.R_far (p := ⟨gb416, 4, none⟩) (Kd.R_far (p := ⟨gb416, 3, none⟩) (Kd.R_far (p := ⟨gb416, 2, none⟩) (Kd.R_far (p := ⟨gb416, 1, none⟩) (Kd.R_far (p := ⟨gb416, 0, none⟩) (Kd.R_types HO414.out BK416.out (by decide)) (fun _ hk => hk.2) (.slice Ao57 t405.length co57)) (fun _ hk => hk.2) (.int .i64 t408)) (fun _ hk => hk.2) (.string t409)) (fun _ hk => hk.2) (.int .u32 t410)) (fun _ hk => hk.2) (.bool t411)) (fun _ hk => trivial)⟩, ⟨by first | exact Kd.R_nil _ _ _ _ _ | exact Kd.N_nil _ _ _ _ _ | exact Kd.V_nil _ _ _ _ _ | exact Kd.Q_nil _ _ _ _ _ | exact Kd.S_nil _ _ _ _ _⟩, ⟨by (with_reducible repeat (first | apply Kd.V_alloc | apply Kd.V_drewN | apply Kd.V_drew)); exact Kd.V_mono (Kd.V_far (p := ⟨gb416, 4, none⟩) (Kd.V_far (p := ⟨gb416, 3, none⟩) (Kd.V_far (p := ⟨gb416, 2, none⟩) (Kd.V_far (p := ⟨gb416, 1, none⟩) (Kd.V_far (p := ⟨gb416, 0, none⟩) (Kd.V_mono HO407.out (fun k_ hk => (⟨hk, hk.2.2.2.2⟩ : _ ∧ k_ ≠ gb416))) (fun _ hk => hk.2) (.slice Ao57 t405.length co57)) (fun _ hk => hk.2) (.int .i64 t408)) (fun _ hk => hk.2) (.string t409)) (fun _ hk => hk.2) (.int .u32 t410)) (fun _ hk => hk.2) (.bool t411)) (fun _ hk => ⟨hk.1.1, ⟨(by simp [Value.ownBlock]), ⟨hk.1.2.1, ⟨hk.1.2.2.1, ⟨hk.1.2.2.2.1, hk.1.2.2.2.2⟩⟩⟩⟩⟩)⟩, ⟨by (with_reducible repeat (first | refine blk_drewN ?_ _ | refine blk_drew ?_ | refine blk_alloc ?_ _ | refine blk_far ?_ NB389_416.out _)); exact BK389.out⟩, ⟨by (with_reducible repeat (first | refine blk_drewN ?_ _ | refine blk_drew ?_ | refine blk_alloc ?_ _ | refine blk_far ?_ NB390_416.out _)); exact BK390.out⟩, ⟨by (with_reducible repeat (first | refine blk_drewN ?_ _ | refine blk_drew ?_ | refine blk_alloc ?_ _ | refine blk_far ?_ NB397_416.out _)); exact BK397.out⟩, ⟨by (with_reducible repeat (first | refine blk_drewN ?_ _ | refine blk_drew ?_ | refine blk_alloc ?_ _)); refine blk_put (cs := #[.slice Ao57 t405.length co57, .int .i64 t408, .string t409, .int .u32 t410, .bool false]) ?_ 4 _ rfl; (with_reducible repeat (first | refine blk_drewN ?_ _ | refine blk_drew ?_ | refine blk_alloc ?_ _)); refine blk_put (cs := #[.slice Ao57 t405.length co57, .int .i64 t408, .string t409, .int .u32 0, .bool false]) ?_ 3 _ rfl; (with_reducible repeat (first | refine blk_drewN ?_ _ | refine blk_drew ?_ | refine blk_alloc ?_ _)); refine blk_put (cs := #[.slice Ao57 t405.length co57, .int .i64 t408, .string (⟨#[]⟩ : ByteArray), .int .u32 0, .bool false]) ?_ 2 _ rfl; (with_reducible repeat (first | refine blk_drewN ?_ _ | refine blk_drew ?_ | refine blk_alloc ?_ _)); refine blk_put (cs := #[.slice Ao57 t405.length co57, .int .i64 0, .string (⟨#[]⟩ : ByteArray), .int .u32 0, .bool false]) ?_ 1 _ rfl; (with_reducible repeat (first | refine blk_drewN ?_ _ | refine blk_drew ?_ | refine blk_alloc ?_ _)); refine blk_put (cs := #[.slice none 0 0, .int .i64 0, .string (⟨#[]⟩ : ByteArray), .int .u32 0, .bool false]) ?_ 0 _ rfl; (with_reducible repeat (first | refine blk_drewN ?_ _ | refine blk_drew ?_ | refine blk_alloc ?_ _)); exact BK416.out⟩, ⟨hb_ HB⟩⟩
   case round =>
    clear H'
    try clear c1
    try clear p2
    try clear p6
    try clear c14
    try clear c15
    obtain ⟨x13_2, x14_2, x15_2, rfl, rfl, HA, HK2, HO_11, HO_14, HO_417000, BK389, BK390, BK397, BK416, HB⟩ := hrel
    cases gk with
    | zero => exact absurd HA.out (by simp [headgatelaw11_ResvStruck.l0])
    | succ k2 =>
     have H := HA.out
     clear HA
     simp only [headgatelaw11_ResvStruck.l0] at H
     refine neg_first (p := (x15_2 < (l0_0.length : Int))) (fun c63 => ?_) (fun c63 => ?_)
     ·rw [if_neg c63] at H
      have c63b0 : decide (x15_2 < (l0_0.length : Int)) = false := decide_eq_false c63
      clear c63
      refine neg_first (p := (t415 = 1)) (fun c99 => ?_) (fun c99 => ?_)
      ·rw [if_neg c99] at H
       have c99b0 : (t415 == 1) = false := beq_eq_false_iff_ne.mpr c99
       have c99b1 : (t415 != 1) = true := bne_iff_ne.mpr c99
       refine neg_first (p := (t415 = 2)) (fun c116 => ?_) (fun c116 => ?_)
       ·rw [if_neg c116] at H
        have c116b0 : (t415 == 2) = false := beq_eq_false_iff_ne.mpr c116
        have c116b1 : (t415 != 2) = true := bne_iff_ne.mpr c116
        exact absurd ((Option.some.inj H).trans HT0.out) (by decide)

       rw [if_pos c116] at H
       have c116b0 : (t415 == 2) = true := beq_iff_eq.mpr c116
       have c116b1 : (t415 != 2) = false := bne_eq_false_iff_eq.mpr c116
       clear c116
       refine neg_first (p := (x13_2 = 0)) (fun c117 => ?_) (fun c117 => ?_)
       ·rw [if_neg c117] at H
        have c117b0 : (x13_2 == 0) = false := beq_eq_false_iff_ne.mpr c117
        have c117b1 : (x13_2 != 0) = true := bne_iff_ne.mpr c117
        exact absurd ((Option.some.inj H).trans HT0.out) (by decide)
       rw [if_pos c117] at H
       have c117b0 : (x13_2 == 0) = true := beq_iff_eq.mpr c117
       have c117b1 : (x13_2 != 0) = false := bne_eq_false_iff_eq.mpr c117
       clear c117
       replace H := Option.bind_eq_some_iff.mp H
       obtain ⟨t428, A1180, H⟩ := H
       try dsimp only at H
       have A118 := Aside0.mk A1180
       clear A1180
       refine neg_first (p := (t428 = true)) (fun c119 => ?_) (fun c119 => ?_)
       ·replace c119 := Bool.eq_false_iff.mpr c119
        subst c119
        have H1 := H
        rw [if_neg (show ¬ (false = true) by decide)] at H1
        clear H
        have H := H1
        clear H1
        exact absurd ((Option.some.inj H).trans HT0.out) (by decide)
       subst c119
       have H1 := H
       rw [if_pos rfl] at H1
       clear H
       have H := H1
       clear H1
       replace H := Option.bind_eq_some_iff.mp H
       obtain ⟨t429, A1200, H⟩ := H
       try dsimp only at H
       have A120 := Aside0.mk A1200
       clear A1200
       obtain rfl := Option.some.inj H
       have hnb121 := NB389_390.out
       have hnc121 := NB390_389.out
       have hnb122 := NB389_397.out
       have hnc122 := NB397_389.out
       have hnb123 := NB389_416.out
       have hnc123 := NB416_389.out
       have hcz124_0 : wr.cell? ⟨gb389, 0, none⟩ = some (.slice A0_0 l0_0.length c0_0) := (blk_cell BK389.out 0).trans rfl
       have hcz124_1 : wr.cell? ⟨gb389, 1, none⟩ = some (.int .i64 a0_1) := (blk_cell BK389.out 1).trans rfl
       have hcz124_2 : wr.cell? ⟨gb389, 2, none⟩ = some (.string a0_2) := (blk_cell BK389.out 2).trans rfl
       have hcz124_3 : wr.cell? ⟨gb389, 3, none⟩ = some (.int .u32 a0_3) := (blk_cell BK389.out 3).trans rfl
       have hcz124_4 : wr.cell? ⟨gb389, 4, none⟩ = some (.bool a0_4) := (blk_cell BK389.out 4).trans rfl
       have hfz124_0 := blk_frozen BK389.out 0
       have hfz124_1 := blk_frozen BK389.out 1
       have hfz124_2 := blk_frozen BK389.out 2
       have hfz124_3 := blk_frozen BK389.out 3
       have hfz124_4 := blk_frozen BK389.out 4
       have hnb125 := NB416_390.out
       have hnc125 := NB390_416.out
       have hnb126 := NB416_397.out
       have hnc126 := NB397_416.out
       have hcz127_0 : wr.cell? ⟨gb416, 0, none⟩ = some (.slice Ao57 t405.length co57) := (blk_cell BK416.out 0).trans rfl
       have hcz127_1 : wr.cell? ⟨gb416, 1, none⟩ = some (.int .i64 t408) := (blk_cell BK416.out 1).trans rfl
       have hcz127_2 : wr.cell? ⟨gb416, 2, none⟩ = some (.string t409) := (blk_cell BK416.out 2).trans rfl
       have hcz127_3 : wr.cell? ⟨gb416, 3, none⟩ = some (.int .u32 t410) := (blk_cell BK416.out 3).trans rfl
       have hcz127_4 : wr.cell? ⟨gb416, 4, none⟩ = some (.bool t411) := (blk_cell BK416.out 4).trans rfl
       have hfz127_0 := blk_frozen BK416.out 0
       have hfz127_1 := blk_frozen BK416.out 1
       have hfz127_2 := blk_frozen BK416.out 2
       have hfz127_3 := blk_frozen BK416.out 3
       have hfz127_4 := blk_frozen BK416.out 4
       go_wp2_with (first | (go_at_call 17; (with_reducible refine (headgatekeep_Tables.calls k2 _ _ t405 t408 t409 t410 t411 _ _ l0_0 a0_1 a0_2 a0_3 a0_4 true _ ?side1 ?side2 ?side3 ?side4 A118.out).mono ?_); (case side1 => repeat (first | exact (Kd.V_reads' HO_417000.out).2.2 | (with_reducible refine Kd.C_alloc ?_ _) | (with_reducible refine Kd.C_drewN ?_ _) | (with_reducible refine Kd.C_drew ?_))); (case side2 => exact (Kd.V_reads' HO_417000.out).2.1); (case side3 => repeat (first | exact (Kd.C_below HR0_0.out HB.out) | (with_reducible refine Kd.C_alloc ?_ _) | (with_reducible refine Kd.C_drewN ?_ _) | (with_reducible refine Kd.C_drew ?_))); (case side4 => exact HC0_0.out); rintro e w128 ⟨rfl, hb⟩; have n0_ := Aside0.mk (Kd.R_below (by (with_reducible repeat (first | apply Kd.R_alloc | apply Kd.R_drewN | apply Kd.R_drew)); exact HO_11.out) hb); have n1_ := Aside0.mk (Kd.R_below (by (with_reducible repeat (first | apply Kd.R_alloc | apply Kd.R_drewN | apply Kd.R_drew)); exact HO_14.out) hb); have n2_ := Aside0.mk (Kd.V_below (by (with_reducible repeat (first | apply Kd.V_alloc | apply Kd.V_drewN | apply Kd.V_drew)); exact HO_417000.out) hb); have n3_ := Aside0.mk (blk_below (bk_ BK389) hb); have n4_ := Aside0.mk (blk_below (bk_ BK390) hb); have n5_ := Aside0.mk (blk_below (bk_ BK397) hb); have n6_ := Aside0.mk (blk_below (bk_ BK416) hb); have n7_ := Aside0.mk (below_step (hb_ HB) hb); clear HO_11; clear HO_14; clear HO_417000; clear BK389; clear BK390; clear BK397; clear BK416; clear HB; have HO_11 := n0_; have HO_14 := n1_; have HO_417000 := n2_; have BK389 := n3_; have BK390 := n4_; have BK397 := n5_; have BK416 := n6_; have HB := n7_; clear n0_ n1_ n2_ n3_ n4_ n5_ n6_ n7_; (try clear hb); (try clear hb2); (try clear hk); (try clear hi)) | (go_at_call 13; (with_reducible refine (headgatelaw11_wakes.calls k2  t429 _ ?side1 A120.out).mono ?_); (case side1 => first | ((refine Glob.keep HG.out ?_); (repeat (first | (with_reducible first | exact HB.out | apply below_alloc | apply pw_below_drewN | apply below_drew1 | refine below_set ?_ GE389.out | refine below_set ?_ GE390.out | refine below_set ?_ GE397.out | refine below_set ?_ GE416.out) | exact HB.out)); done) | exact HG.out); rintro e w129 ⟨rfl, hb⟩; have n0_ := Aside0.mk (Kd.R_below (by (with_reducible repeat (first | apply Kd.R_alloc | apply Kd.R_drewN | apply Kd.R_drew)); exact HO_11.out) hb); have n1_ := Aside0.mk (Kd.R_below (by (with_reducible repeat (first | apply Kd.R_alloc | apply Kd.R_drewN | apply Kd.R_drew)); exact HO_14.out) hb); have n2_ := Aside0.mk (Kd.V_below (by (with_reducible repeat (first | apply Kd.V_alloc | apply Kd.V_drewN | apply Kd.V_drew)); exact HO_417000.out) hb); have n3_ := Aside0.mk (blk_below (bk_ BK389) hb); have n4_ := Aside0.mk (blk_below (bk_ BK390) hb); have n5_ := Aside0.mk (blk_below (bk_ BK397) hb); have n6_ := Aside0.mk (blk_below (bk_ BK416) hb); have n7_ := Aside0.mk (below_step (hb_ HB) hb); clear HO_11; clear HO_14; clear HO_417000; clear BK389; clear BK390; clear BK397; clear BK416; clear HB; have HO_11 := n0_; have HO_14 := n1_; have HO_417000 := n2_; have BK389 := n3_; have BK390 := n4_; have BK397 := n5_; have BK416 := n6_; have HB := n7_; clear n0_ n1_ n2_ n3_ n4_ n5_ n6_ n7_; (try clear hb); (try clear hb2); (try clear hk); (try clear hi)))
       go_ret
       exact ⟨by first | rfl | (simp [errW_none, errW_some] <;> rfl) | (simp [*, errW_none, errW_some] <;> rfl) | (simp [bt, *]; done) | (unfold bt; simp [*]; done), by repeat (first | (with_reducible first | exact HB.out | apply below_alloc | apply pw_below_drewN | apply below_drew1 | refine below_set ?_ GE389.out | refine below_set ?_ GE390.out | refine below_set ?_ GE397.out | refine below_set ?_ GE416.out) | exact HB.out)⟩
      rw [if_pos c99] at H
      have c99b0 : (t415 == 1) = true := beq_iff_eq.mpr c99
      have c99b1 : (t415 != 1) = false := bne_eq_false_iff_eq.mpr c99
      clear c99
      refine neg_first (p := ((t412.length : Int) = x13_2)) (fun c100 => ?_) (fun c100 => ?_)
      ·rw [if_neg c100] at H
       have c100b0 : ((t412.length : Int) == x13_2) = false := beq_eq_false_iff_ne.mpr c100
       have c100b1 : ((t412.length : Int) != x13_2) = true := bne_iff_ne.mpr c100
       exact absurd ((Option.some.inj H).trans HT0.out) (by decide)
      rw [if_pos c100] at H
      have c100b0 : ((t412.length : Int) == x13_2) = true := beq_iff_eq.mpr c100
      have c100b1 : ((t412.length : Int) != x13_2) = false := bne_eq_false_iff_eq.mpr c100
      clear c100
      replace H := Option.bind_eq_some_iff.mp H
      obtain ⟨t426, A1010, H⟩ := H
      try dsimp only at H
      have A101 := Aside0.mk A1010
      clear A1010
      refine neg_first (p := (t426 = true)) (fun c102 => ?_) (fun c102 => ?_)
      ·replace c102 := Bool.eq_false_iff.mpr c102
       subst c102
       have H1 := H
       rw [if_neg (show ¬ (false = true) by decide)] at H1
       clear H
       have H := H1
       clear H1
       exact absurd ((Option.some.inj H).trans HT0.out) (by decide)
      subst c102
      have H1 := H
      rw [if_pos rfl] at H1
      clear H
      have H := H1
      clear H1
      refine neg_first (p := (t410 = ((a0_3 + 1) % 4294967296))) (fun c103 => ?_) (fun c103 => ?_)
      ·rw [if_neg c103] at H
       have c103b0 : (t410 == ((a0_3 + 1) % 4294967296)) = false := beq_eq_false_iff_ne.mpr c103
       have c103b1 : (t410 != ((a0_3 + 1) % 4294967296)) = true := bne_iff_ne.mpr c103
       exact absurd ((Option.some.inj H).trans HT0.out) (by decide)
      rw [if_pos c103] at H
      have c103b0 : (t410 == ((a0_3 + 1) % 4294967296)) = true := beq_iff_eq.mpr c103
      have c103b1 : (t410 != ((a0_3 + 1) % 4294967296)) = false := bne_eq_false_iff_eq.mpr c103
      clear c103
      refine neg_first (p := ((t411 == a0_4) = true)) (fun c104 => ?_) (fun c104 => ?_)
      ·rw [if_neg c104] at H
       have c104b0 : (t411 == a0_4) = false := by simpa using c104
       (try (have c104b1 : decide (t411 = a0_4) = false := by simpa using c104))
       (try (have c104b2 : (t411 == a0_4) = false := by simpa using c104))
       (try (have c104b3 : ¬ (t411 = a0_4) := by simpa using c104))
       clear c104
       exact absurd ((Option.some.inj H).trans HT0.out) (by decide)
      rw [if_pos c104] at H
      have c104b0 : (t411 == a0_4) = true := c104
      (try (have c104b1 : decide (t411 = a0_4) = true := by simpa using c104))
      (try (have c104b2 : (t411 == a0_4) = true := by simpa using c104))
      clear c104
      replace H := Option.bind_eq_some_iff.mp H
      obtain ⟨t427, A1050, H⟩ := H
      try dsimp only at H
      have A105 := Aside0.mk A1050
      clear A1050
      obtain rfl := Option.some.inj H
      have hnb106 := NB389_390.out
      have hnc106 := NB390_389.out
      have hnb107 := NB389_397.out
      have hnc107 := NB397_389.out
      have hnb108 := NB389_416.out
      have hnc108 := NB416_389.out
      have hcz109_0 : wr.cell? ⟨gb389, 0, none⟩ = some (.slice A0_0 l0_0.length c0_0) := (blk_cell BK389.out 0).trans rfl
      have hcz109_1 : wr.cell? ⟨gb389, 1, none⟩ = some (.int .i64 a0_1) := (blk_cell BK389.out 1).trans rfl
      have hcz109_2 : wr.cell? ⟨gb389, 2, none⟩ = some (.string a0_2) := (blk_cell BK389.out 2).trans rfl
      have hcz109_3 : wr.cell? ⟨gb389, 3, none⟩ = some (.int .u32 a0_3) := (blk_cell BK389.out 3).trans rfl
      have hcz109_4 : wr.cell? ⟨gb389, 4, none⟩ = some (.bool a0_4) := (blk_cell BK389.out 4).trans rfl
      have hfz109_0 := blk_frozen BK389.out 0
      have hfz109_1 := blk_frozen BK389.out 1
      have hfz109_2 := blk_frozen BK389.out 2
      have hfz109_3 := blk_frozen BK389.out 3
      have hfz109_4 := blk_frozen BK389.out 4
      obtain ⟨Ao110, co110, eo110⟩ := Kd.R_slice HO_11.out
      subst eo110
      have hnb111 := NB416_390.out
      have hnc111 := NB390_416.out
      have hnb112 := NB416_397.out
      have hnc112 := NB397_416.out
      have hcz113_0 : wr.cell? ⟨gb416, 0, none⟩ = some (.slice Ao57 t405.length co57) := (blk_cell BK416.out 0).trans rfl
      have hcz113_1 : wr.cell? ⟨gb416, 1, none⟩ = some (.int .i64 t408) := (blk_cell BK416.out 1).trans rfl
      have hcz113_2 : wr.cell? ⟨gb416, 2, none⟩ = some (.string t409) := (blk_cell BK416.out 2).trans rfl
      have hcz113_3 : wr.cell? ⟨gb416, 3, none⟩ = some (.int .u32 t410) := (blk_cell BK416.out 3).trans rfl
      have hcz113_4 : wr.cell? ⟨gb416, 4, none⟩ = some (.bool t411) := (blk_cell BK416.out 4).trans rfl
      have hfz113_0 := blk_frozen BK416.out 0
      have hfz113_1 := blk_frozen BK416.out 1
      have hfz113_2 := blk_frozen BK416.out 2
      have hfz113_3 := blk_frozen BK416.out 3
      have hfz113_4 := blk_frozen BK416.out 4
      obtain ⟨Ao114, co114, eo114⟩ := Kd.R_slice HO_14.out
      subst eo114
      go_wp2_with (first | (go_at_call 23; (with_reducible refine (headgatekeep_Regs.calls k2 _ _ t405 _ _ x14_2 true _ ?side1 ?side2 ?side3 ?side4 A101.out).mono ?_); (case side1 => repeat (first | exact (Kd.V_reads' HO_417000.out).2.2 | (with_reducible refine Kd.C_alloc ?_ _) | (with_reducible refine Kd.C_drewN ?_ _) | (with_reducible refine Kd.C_drew ?_))); (case side2 => exact (Kd.V_reads' HO_417000.out).2.1); (case side3 => repeat (first | exact (Kd.R_reads' HO_14.out).2.2 | (with_reducible refine Kd.C_alloc ?_ _) | (with_reducible refine Kd.C_drewN ?_ _) | (with_reducible refine Kd.C_drew ?_))); (case side4 => exact (Kd.R_reads' HO_14.out).2.1); rintro e w' ⟨rfl, ⟨nd, rfl⟩⟩) | (go_at_call 13; (with_reducible refine (headgatelaw11_wakes.calls k2  t427 _ ?side1 A105.out).mono ?_); (case side1 => first | ((refine Glob.keep HG.out ?_); (repeat (first | (with_reducible first | exact HB.out | apply below_alloc | apply pw_below_drewN | apply below_drew1 | refine below_set ?_ GE389.out | refine below_set ?_ GE390.out | refine below_set ?_ GE397.out | refine below_set ?_ GE416.out) | exact HB.out)); done) | exact HG.out); rintro e w115 ⟨rfl, hb⟩; have n0_ := Aside0.mk (Kd.R_below (by (with_reducible repeat (first | apply Kd.R_alloc | apply Kd.R_drewN | apply Kd.R_drew)); exact HO_11.out) hb); have n1_ := Aside0.mk (Kd.R_below (by (with_reducible repeat (first | apply Kd.R_alloc | apply Kd.R_drewN | apply Kd.R_drew)); exact HO_14.out) hb); have n2_ := Aside0.mk (Kd.V_below (by (with_reducible repeat (first | apply Kd.V_alloc | apply Kd.V_drewN | apply Kd.V_drew)); exact HO_417000.out) hb); have n3_ := Aside0.mk (blk_below (bk_ BK389) hb); have n4_ := Aside0.mk (blk_below (bk_ BK390) hb); have n5_ := Aside0.mk (blk_below (bk_ BK397) hb); have n6_ := Aside0.mk (blk_below (bk_ BK416) hb); have n7_ := Aside0.mk (below_step (hb_ HB) hb); clear HO_11; clear HO_14; clear HO_417000; clear BK389; clear BK390; clear BK397; clear BK416; clear HB; have HO_11 := n0_; have HO_14 := n1_; have HO_417000 := n2_; have BK389 := n3_; have BK390 := n4_; have BK397 := n5_; have BK416 := n6_; have HB := n7_; clear n0_ n1_ n2_ n3_ n4_ n5_ n6_ n7_; (try clear hb); (try clear hb2); (try clear hk); (try clear hi)))
      go_ret
      exact ⟨by first | rfl | (simp [errW_none, errW_some] <;> rfl) | (simp [*, errW_none, errW_some] <;> rfl) | (simp [bt, *]; done) | (unfold bt; simp [*]; done), by repeat (first | (with_reducible first | exact HB.out | apply below_alloc | apply pw_below_drewN | apply below_drew1 | refine below_set ?_ GE389.out | refine below_set ?_ GE390.out | refine below_set ?_ GE397.out | refine below_set ?_ GE416.out) | exact HB.out)⟩
     rw [if_pos c63] at H
     have c63b0 : decide (x15_2 < (l0_0.length : Int)) = true := decide_eq_true c63
     clear c63
     have HC64 := Aside0.mk H
     clear H
     have hnb65 := NB389_390.out
     have hnc65 := NB390_389.out
     have hnb66 := NB389_397.out
     have hnc66 := NB397_389.out
     have hnb67 := NB389_416.out
     have hnc67 := NB416_389.out
     have hcz68_0 : wr.cell? ⟨gb389, 0, none⟩ = some (.slice A0_0 l0_0.length c0_0) := (blk_cell BK389.out 0).trans rfl
     have hcz68_1 : wr.cell? ⟨gb389, 1, none⟩ = some (.int .i64 a0_1) := (blk_cell BK389.out 1).trans rfl
     have hcz68_2 : wr.cell? ⟨gb389, 2, none⟩ = some (.string a0_2) := (blk_cell BK389.out 2).trans rfl
     have hcz68_3 : wr.cell? ⟨gb389, 3, none⟩ = some (.int .u32 a0_3) := (blk_cell BK389.out 3).trans rfl
     have hcz68_4 : wr.cell? ⟨gb389, 4, none⟩ = some (.bool a0_4) := (blk_cell BK389.out 4).trans rfl
     have hfz68_0 := blk_frozen BK389.out 0
     have hfz68_1 := blk_frozen BK389.out 1
     have hfz68_2 := blk_frozen BK389.out 2
     have hfz68_3 := blk_frozen BK389.out 3
     have hfz68_4 := blk_frozen BK389.out 4
     go_upto_region 11 with (fail)
     go_cut [81] (fun v81 wc => ∃ (kq : Nat) (x81_63 : Bool), v81 = .bool x81_63 ∧ Aside0 (headgatelaw11_ResvStruck.j2 kq a1 a2_0 t412 t415 x13_2 x14_2 x15_2 x81_63 l0_0 a0_1 a0_2 a0_3 a0_4 t405 t408 t409 t410 t411 = some r) ∧ Aside0 (kq ≤ k2) ∧ Aside0 (Kd.R k46 46 wc w.heap.size (fun _ => True) v413 t412) ∧ Aside0 (Kd.R k53 53 wc w.heap.size (fun _ => True) u14 x14_2) ∧ Aside0 (Kd.V k53 53 wc w.heap.size (fun k_ => some k_ ≠ (v413 : Value).ownBlock ∧ some k_ ≠ (u14 : Value).ownBlock ∧ k_ ≠ gb389 ∧ k_ ≠ gb390 ∧ k_ ≠ gb397 ∧ k_ ≠ gb416) (.slice Ao57 t405.length co57) t405) ∧ Aside0 (wc.heap[gb389]? = some (.cells #[(.slice A0_0 l0_0.length c0_0), .int .i64 a0_1, .string a0_2, .int .u32 a0_3, .bool a0_4] 27 (0, 0))) ∧ Aside0 (wc.heap[gb390]? = some (.cells #[.int .u64 a2_0, .int .u64 a2_1] 50 (0, 0))) ∧ Aside0 (wc.heap[gb397]? = some (.cells #[.int .i64 12, .int .i64 0, .string a1, .int .i64 0, .int .i64 0, .string (⟨#[]⟩ : ByteArray), .bool false, (.slice none 0 0), .int .u64 t395, .int .u64 0, .int .u64 a2_0, .int .i64 (wrap64 (1 + t396)), .bool false, .int .i64 0] 31 (0, 0))) ∧ Aside0 (wc.heap[gb416]? = some (.cells #[(.slice Ao57 t405.length co57), .int .i64 t408, .string t409, .int .u32 t410, .bool t411] 27 (0, 0))) ∧ Aside0 (Below w.heap.size w wc))
     case first =>
      have H := HC64.out
      clear HC64
      refine neg_first (p := (0 ≤ x15_2)) (fun c69 => ?_) (fun c69 => ?_)
      ·rw [if_neg c69] at H
       exact absurd H (by simp)
      rw [if_pos c69] at H
      have c69b0 : decide (0 ≤ x15_2) = true := decide_eq_true c69
      clear c69
      (first | rw [c69b0] | (simp only [i64_w, i32_w]; rw [c69b0]) | skip)
      by_cases c70 : ((rd_T53 l0_0 x15_2).f0).toList = a1.toList
      ·rw [if_pos c70] at H
       have c70b0 : (((rd_T53 l0_0 x15_2).f0).toList == a1.toList) = true := beq_iff_eq.mpr c70
       have c70b1 : (((rd_T53 l0_0 x15_2).f0).toList != a1.toList) = false := bne_eq_false_iff_eq.mpr c70
       clear c70
       have H' := Aside0.mk H
       clear H
       have hnb71 := NB389_390.out
       have hnc71 := NB390_389.out
       have hnb72 := NB389_397.out
       have hnc72 := NB397_389.out
       have hnb73 := NB389_416.out
       have hnc73 := NB416_389.out
       have hcz74_0 : wr.cell? ⟨gb389, 0, none⟩ = some (.slice A0_0 l0_0.length c0_0) := (blk_cell BK389.out 0).trans rfl
       have hcz74_1 : wr.cell? ⟨gb389, 1, none⟩ = some (.int .i64 a0_1) := (blk_cell BK389.out 1).trans rfl
       have hcz74_2 : wr.cell? ⟨gb389, 2, none⟩ = some (.string a0_2) := (blk_cell BK389.out 2).trans rfl
       have hcz74_3 : wr.cell? ⟨gb389, 3, none⟩ = some (.int .u32 a0_3) := (blk_cell BK389.out 3).trans rfl
       have hcz74_4 : wr.cell? ⟨gb389, 4, none⟩ = some (.bool a0_4) := (blk_cell BK389.out 4).trans rfl
       have hfz74_0 := blk_frozen BK389.out 0
       have hfz74_1 := blk_frozen BK389.out 1
       have hfz74_2 := blk_frozen BK389.out 2
       have hfz74_3 := blk_frozen BK389.out 3
       have hfz74_4 := blk_frozen BK389.out 4
       have p417 : 0 ≤ (x15_2 : Int) := of_decide_eq_true (by first | (with_reducible assumption) | assumption)
       have q417 : x15_2 < (l0_0.length : Int) := of_decide_eq_true (by first | (with_reducible assumption) | assumption)
       obtain ⟨ad417, e417, hx417_0, hx417_1⟩ := at_T53 HR0_0.out x15_2 p417 q417
       cases e417
       replace hx417_0 := (HB.out.cell (World.block_lt_of_cell? w _ hx417_0)).trans hx417_0
       replace hx417_1 := (HB.out.cell (World.block_lt_of_cell? w _ hx417_1)).trans hx417_1
       replace p417 := eq_true p417
       replace q417 := eq_true q417
       go_wp2
       go_meet
       case rel => exact ⟨_, (true), (by first | rfl | (simp; done) | (simp [*]; done)), H', ⟨by have := HJ3.out; have := HK2.out; first | omega | exact Nat.le_refl _⟩, ⟨by (with_reducible repeat (first | apply Kd.R_alloc | apply Kd.R_drewN | apply Kd.R_drew)); exact HO_11.out⟩, ⟨by (with_reducible repeat (first | apply Kd.R_alloc | apply Kd.R_drewN | apply Kd.R_drew)); exact HO_14.out⟩, ⟨by (with_reducible repeat (first | apply Kd.V_alloc | apply Kd.V_drewN | apply Kd.V_drew)); exact HO_417000.out⟩, ⟨bk_ BK389⟩, ⟨bk_ BK390⟩, ⟨bk_ BK397⟩, ⟨bk_ BK416⟩, ⟨hb_ HB⟩⟩
      rw [if_neg c70] at H
      have c70b0 : (((rd_T53 l0_0 x15_2).f0).toList == a1.toList) = false := beq_eq_false_iff_ne.mpr c70
      have c70b1 : (((rd_T53 l0_0 x15_2).f0).toList != a1.toList) = true := bne_iff_ne.mpr c70
      have H' := Aside0.mk H
      clear H
      have hnb75 := NB389_390.out
      have hnc75 := NB390_389.out
      have hnb76 := NB389_397.out
      have hnc76 := NB397_389.out
      have hnb77 := NB389_416.out
      have hnc77 := NB416_389.out
      have hcz78_0 : wr.cell? ⟨gb389, 0, none⟩ = some (.slice A0_0 l0_0.length c0_0) := (blk_cell BK389.out 0).trans rfl
      have hcz78_1 : wr.cell? ⟨gb389, 1, none⟩ = some (.int .i64 a0_1) := (blk_cell BK389.out 1).trans rfl
      have hcz78_2 : wr.cell? ⟨gb389, 2, none⟩ = some (.string a0_2) := (blk_cell BK389.out 2).trans rfl
      have hcz78_3 : wr.cell? ⟨gb389, 3, none⟩ = some (.int .u32 a0_3) := (blk_cell BK389.out 3).trans rfl
      have hcz78_4 : wr.cell? ⟨gb389, 4, none⟩ = some (.bool a0_4) := (blk_cell BK389.out 4).trans rfl
      have hfz78_0 := blk_frozen BK389.out 0
      have hfz78_1 := blk_frozen BK389.out 1
      have hfz78_2 := blk_frozen BK389.out 2
      have hfz78_3 := blk_frozen BK389.out 3
      have hfz78_4 := blk_frozen BK389.out 4
      have p417 : 0 ≤ (x15_2 : Int) := of_decide_eq_true (by first | (with_reducible assumption) | assumption)
      have q417 : x15_2 < (l0_0.length : Int) := of_decide_eq_true (by first | (with_reducible assumption) | assumption)
      obtain ⟨ad417, e417, hx417_0, hx417_1⟩ := at_T53 HR0_0.out x15_2 p417 q417
      cases e417
      replace hx417_0 := (HB.out.cell (World.block_lt_of_cell? w _ hx417_0)).trans hx417_0
      replace hx417_1 := (HB.out.cell (World.block_lt_of_cell? w _ hx417_1)).trans hx417_1
      replace p417 := eq_true p417
      replace q417 := eq_true q417
      have p418 : 0 ≤ (x15_2 : Int) := of_decide_eq_true (by first | (with_reducible assumption) | assumption)
      have q418 : x15_2 < (l0_0.length : Int) := of_decide_eq_true (by first | (with_reducible assumption) | assumption)
      obtain ⟨ad418, e418, hx418_0, hx418_1⟩ := at_T53 HR0_0.out x15_2 p418 q418
      obtain rfl : ad417 = ad418 := (by injection e418)
      replace hx418_0 := (HB.out.cell (World.block_lt_of_cell? w _ hx418_0)).trans hx418_0
      replace hx418_1 := (HB.out.cell (World.block_lt_of_cell? w _ hx418_1)).trans hx418_1
      replace p418 := eq_true p418
      replace q418 := eq_true q418
      go_wp2
      go_meet
      case rel => exact ⟨_, ((((rd_T53 l0_0 x15_2).f1) != a2_0)), (by first | rfl | (simp; done) | (simp [*]; done)), H', ⟨by have := HJ3.out; have := HK2.out; first | omega | exact Nat.le_refl _⟩, ⟨by (with_reducible repeat (first | apply Kd.R_alloc | apply Kd.R_drewN | apply Kd.R_drew)); exact HO_11.out⟩, ⟨by (with_reducible repeat (first | apply Kd.R_alloc | apply Kd.R_drewN | apply Kd.R_drew)); exact HO_14.out⟩, ⟨by (with_reducible repeat (first | apply Kd.V_alloc | apply Kd.V_drewN | apply Kd.V_drew)); exact HO_417000.out⟩, ⟨bk_ BK389⟩, ⟨bk_ BK390⟩, ⟨bk_ BK397⟩, ⟨bk_ BK416⟩, ⟨hb_ HB⟩⟩
     case rest =>
      clear HC64
      try clear c1
      try clear p2
      try clear p4
      try clear q4
      try clear hx4
      try clear c6
      try clear p6
      try clear c7
      try clear c14
      try clear c15
      try clear p41
      try clear q41
      try clear hx41
      try clear c63
      try clear c63b0
      try clear p64
      try clear c65
      try clear c66
      try clear c67
      try clear c69
      try clear c69b0
      try clear c70
      try clear c70b0
      try clear c70b1
      try clear c71
      try clear c72
      try clear c73
      try clear c75
      try clear c76
      try clear c77
      try clear hcz68_0
      try clear hcz68_1
      try clear hcz68_2
      try clear hcz68_3
      try clear hcz68_4
      try clear hcz74_0
      try clear hcz74_1
      try clear hcz74_2
      try clear hcz74_3
      try clear hcz74_4
      try clear hcz78_0
      try clear hcz78_1
      try clear hcz78_2
      try clear hcz78_3
      try clear hcz78_4
      try clear hfz68_0
      try clear hfz68_1
      try clear hfz68_2
      try clear hfz68_3
      try clear hfz68_4
      try clear hfz74_0
      try clear hfz74_1
      try clear hfz74_2
      try clear hfz74_3
      try clear hfz74_4
      try clear hfz78_0
      try clear hfz78_1
      try clear hfz78_2
      try clear hfz78_3
      try clear hfz78_4
      try clear hx417_0
      try clear hx417_1
      try clear hx418_0
      try clear hx418_1
      try clear p2
      try clear p417
      try clear p418
      try clear p6
      try clear q417
      try clear q418
      obtain ⟨kq, x81_63, rfl, HA, HJ63, HO_11, HO_14, HO_417000, BK389, BK390, BK397, BK416, HB⟩ := hcut
      cases kq with
      | zero => exact absurd HA.out (by simp [headgatelaw11_ResvStruck.j2])
      | succ kj63 =>
       have H := HA.out
       clear HA
       simp only [headgatelaw11_ResvStruck.j2] at H
       by_cases c79 : x81_63 = true
       ·subst c79
        have H1 := H
        rw [if_pos rfl] at H1
        clear H
        have H := H1
        clear H1
        refine neg_first (p := (0 ≤ x15_2)) (fun c80 => ?_) (fun c80 => ?_)
        ·rw [if_neg c80] at H
         exact absurd H (by simp)
        rw [if_pos c80] at H
        have c80b0 : decide (0 ≤ x15_2) = true := decide_eq_true c80
        clear c80
        refine neg_first (p := (x15_2 < (l0_0.length : Int))) (fun c81 => ?_) (fun c81 => ?_)
        ·rw [if_neg c81] at H
         exact absurd H (by simp)
        rw [if_pos c81] at H
        have c81b0 : decide (x15_2 < (l0_0.length : Int)) = true := decide_eq_true c81
        clear c81
        refine neg_first (p := (x14_2.length < 5864062014805)) (fun c82 => ?_) (fun c82 => ?_)
        ·rw [if_neg c82] at H
         exact absurd H (by simp)
        rw [if_pos c82] at H
        have LMc82 := Aside0.mk c82
        clear c82
        obtain ⟨y420, hy420⟩ : ∃ y_ : List (S53), y_ = (x14_2 ++ [(⟨(rd_T53 l0_0 x15_2).f0, (rd_T53 l0_0 x15_2).f1⟩ : S53)]) := ⟨_, rfl⟩
        replace H : (headgatelaw11_ResvStruck.l0 kj63 a1 a2_0 t412 t415 x13_2 y420 (wrap64 (x15_2 + 1)) l0_0 a0_1 a0_2 a0_3 a0_4 t405 t408 t409 t410 t411) = some r := by first | (rw [hy420]; with_reducible exact H) | (have H2_ := (Option.bind_some _ _).symm.trans H; rw [hy420]; with_reducible exact H2_) | (have H2_ := (Option.bind_some _ _).symm.trans H; with_reducible exact H2_) | with_reducible exact H | (rw [hy420]; exact H) | exact H
        have Ny420 := Aside0.mk hy420
        clear hy420
        have H' := Aside0.mk H
        clear H
        have hnb83 := NB389_390.out
        have hnc83 := NB390_389.out
        have hnb84 := NB389_397.out
        have hnc84 := NB397_389.out
        have hnb85 := NB389_416.out
        have hnc85 := NB416_389.out
        have hcz86_0 : wc.cell? ⟨gb389, 0, none⟩ = some (.slice A0_0 l0_0.length c0_0) := (blk_cell BK389.out 0).trans rfl
        have hcz86_1 : wc.cell? ⟨gb389, 1, none⟩ = some (.int .i64 a0_1) := (blk_cell BK389.out 1).trans rfl
        have hcz86_2 : wc.cell? ⟨gb389, 2, none⟩ = some (.string a0_2) := (blk_cell BK389.out 2).trans rfl
        have hcz86_3 : wc.cell? ⟨gb389, 3, none⟩ = some (.int .u32 a0_3) := (blk_cell BK389.out 3).trans rfl
        have hcz86_4 : wc.cell? ⟨gb389, 4, none⟩ = some (.bool a0_4) := (blk_cell BK389.out 4).trans rfl
        have hfz86_0 := blk_frozen BK389.out 0
        have hfz86_1 := blk_frozen BK389.out 1
        have hfz86_2 := blk_frozen BK389.out 2
        have hfz86_3 := blk_frozen BK389.out 3
        have hfz86_4 := blk_frozen BK389.out 4
        have p419 : 0 ≤ (x15_2 : Int) := of_decide_eq_true (by first | (with_reducible assumption) | assumption)
        have q419 : x15_2 < (l0_0.length : Int) := of_decide_eq_true (by first | (with_reducible assumption) | assumption)
        obtain ⟨ad419, e419, hx419_0, hx419_1⟩ := at_T53 HR0_0.out x15_2 p419 q419
        cases e419
        replace hx419_0 := (HB.out.cell (World.block_lt_of_cell? w _ hx419_0)).trans hx419_0
        replace hx419_1 := (HB.out.cell (World.block_lt_of_cell? w _ hx419_1)).trans hx419_1
        replace p419 := eq_true p419
        replace q419 := eq_true q419
        go_wp2_with (first | ((with_reducible refine gate_builtin (b := .append) (xs := #[.tmp 82, .tmp 88]) rfl ?_); at_builtin; refine Kd.R_append k53 (w0 := w) w.heap.size rfl (.tmp 82) (.tmp 88) 22 53 (.agg #[(.string ⟨#[]⟩), (.int .u64 0)]) 24 rfl Tryd.underlying22 info53 rfl (by decide) (by omega) u14 x14_2 (⟨(rd_T53 l0_0 x15_2).f0, (rd_T53 l0_0 x15_2).f1⟩ : S53) [.string ((rd_T53 l0_0 x15_2).f0), .int .u64 ((rd_T53 l0_0 x15_2).f1)] (fun _ => True) (fun _ => False) rfl rfl ?aP (fun _ hk => hk.elim) ?aF ?aO ?aB ?aS ?aL ?_; (case aP => exact k53_mkM _ _ _ (⟨(rd_T53 l0_0 x15_2).f0, (rd_T53 l0_0 x15_2).f1⟩ : S53)); (case aB => exact (hb_ HB)); (case aF => exact (fun _ _ => trivial)); (case aO => exact (by (with_reducible repeat (first | apply Kd.R_alloc | apply Kd.R_drewN | apply Kd.R_drew)); exact HO_14.out)); (case aS => exact (below_size (hb_ HB))); (case aL => have := LMc82.out; omega); intro v421 w87 ho hb hg hat; rw [← Ny420.out] at ho; have n0_ := Aside0.mk (Kd.R_over' (by (with_reducible repeat (first | apply Kd.R_alloc | apply Kd.R_drewN | apply Kd.R_drew)); exact HO_11.out) (Kd.R_typed (by (with_reducible repeat (first | apply Kd.R_alloc | apply Kd.R_drewN | apply Kd.R_drew)); exact HO_14.out)) (by decide) hg); have n1_ := Aside0.mk (Kd.V_afterv (ok := (fun k_ => some k_ ≠ (v413 : Value).ownBlock ∧ k_ ≠ gb389 ∧ k_ ≠ gb390 ∧ k_ ≠ gb397 ∧ k_ ≠ gb416)) (by (with_reducible repeat (first | apply Kd.V_alloc | apply Kd.V_drewN | apply Kd.V_drew)); exact Kd.V_mono HO_417000.out (fun _ hk => ⟨⟨hk.1, ⟨hk.2.2.1, ⟨hk.2.2.2.1, ⟨hk.2.2.2.2.1, hk.2.2.2.2.2⟩⟩⟩⟩, hk.2.1⟩)) hg hat); have n2_ := Aside0.mk (blk_grown (g := gb389) (o := .cells #[.slice (some ad419) l0_0.length c0_0, .int .i64 a0_1, .string a0_2, .int .u32 a0_3, .bool a0_4] 27 (0, 0)) (bk_ BK389) hg (Kd.R_ne HO_14.out BK389.out (by decide))); have n3_ := Aside0.mk (blk_grown (g := gb390) (o := .cells #[.int .u64 a2_0, .int .u64 a2_1] 50 (0, 0)) (bk_ BK390) hg (Kd.R_ne HO_14.out BK390.out (by decide))); have n4_ := Aside0.mk (blk_grown (g := gb397) (o := .cells #[.int .i64 12, .int .i64 0, .string a1, .int .i64 0, .int .i64 0, .string (⟨#[]⟩ : ByteArray), .bool false, .slice none 0 0, .int .u64 t395, .int .u64 0, .int .u64 a2_0, .int .i64 (wrap64 (1 + t396)), .bool false, .int .i64 0] 31 (0, 0)) (bk_ BK397) hg (Kd.R_ne HO_14.out BK397.out (by decide))); have n5_ := Aside0.mk (blk_grown (g := gb416) (o := .cells #[.slice Ao57 t405.length co57, .int .i64 t408, .string t409, .int .u32 t410, .bool t411] 27 (0, 0)) (bk_ BK416) hg (Kd.R_ne HO_14.out BK416.out (by decide))); have n6_ := Aside0.mk (hb); have n7_ := Aside0.mk (ho); clear HO_11; clear HO_417000; clear BK389; clear BK390; clear BK397; clear BK416; clear HB; clear HO_14; have HO_11 := n0_; have HO_417000 := n1_; have BK389 := n2_; have BK390 := n3_; have BK397 := n4_; have BK416 := n5_; have HB := n6_; have HO422 := n7_; clear n0_ n1_ n2_ n3_ n4_ n5_ n6_ n7_; clear ho hb hg hat))
        go_roundg kj63
        case measure => have := HJ3.out; have := HK2.out; have := HJ63.out; omega
        case rel => exact ⟨(x13_2), (y420), (wrap64 (x15_2 + 1)), (by first | rfl | (simp; done) | (simp [*]; done)), (by first | rfl | (simp; done) | (simp [*]; done)), H', ⟨by have := HJ3.out; have := HK2.out; have := HJ63.out; omega⟩, ⟨by (with_reducible repeat (first | apply Kd.R_alloc | apply Kd.R_drewN | apply Kd.R_drew)); exact HO_11.out⟩, ⟨by (with_reducible repeat (first | apply Kd.R_alloc | apply Kd.R_drewN | apply Kd.R_drew)); exact HO422.out⟩, ⟨by (with_reducible repeat (first | apply Kd.V_alloc | apply Kd.V_drewN | apply Kd.V_drew)); exact Kd.V_mono HO_417000.out (fun _ hk => ⟨hk.1.1, ⟨hk.2, ⟨hk.1.2.1, ⟨hk.1.2.2.1, ⟨hk.1.2.2.2.1, hk.1.2.2.2.2⟩⟩⟩⟩⟩)⟩, ⟨bk_ BK389⟩, ⟨bk_ BK390⟩, ⟨bk_ BK397⟩, ⟨bk_ BK416⟩, ⟨hb_ HB⟩⟩
       replace c79 := Bool.eq_false_iff.mpr c79
       subst c79
       have H1 := H
       rw [if_neg (show ¬ (false = true) by decide)] at H1
       clear H
       have H := H1
       clear H1
       refine neg_first (p := (t415 = 1)) (fun c88 => ?_) (fun c88 => ?_)
       ·rw [if_neg c88] at H
        have c88b0 : (t415 == 1) = false := beq_eq_false_iff_ne.mpr c88
        have c88b1 : (t415 != 1) = true := bne_iff_ne.mpr c88
        have H' := Aside0.mk H
        clear H
        try go_wp2
        have n0_ := Aside0.mk (Kd.R_drew HO_11.out)
        have n1_ := Aside0.mk (Kd.R_drew HO_14.out)
        have n2_ := Aside0.mk (Kd.V_drew HO_417000.out)
        have n3_ := Aside0.mk (blk_drew BK389.out)
        have n4_ := Aside0.mk (blk_drew BK390.out)
        have n5_ := Aside0.mk (blk_drew BK397.out)
        have n6_ := Aside0.mk (blk_drew BK416.out)
        have n7_ := Aside0.mk (below_drew1 HB.out)
        clear HO_11
        clear HO_14
        clear HO_417000
        clear BK389
        clear BK390
        clear BK397
        clear BK416
        clear HB
        have HO_11 := n0_
        have HO_14 := n1_
        have HO_417000 := n2_
        have BK389 := n3_
        have BK390 := n4_
        have BK397 := n5_
        have BK416 := n6_
        have HB := n7_
        clear n0_ n1_ n2_ n3_ n4_ n5_ n6_ n7_
        refine start_ (n := 30) (S := fun w' => True) (ds := []) d6x0 (by kernel_rfl) rfl rfl trivial (fun hHeld => ?_); refine with_tabW headgatelaw11_ResvStruck.tab13 headgatelaw11_ResvStruck.bits13 (fun HT_ HW_ => ?_)
        generalize wc.drew = w98 at HO_11 HO_14 HO_417000 BK389 BK390 BK397 BK416 HB hHeld ⊢
        refine pon_ 0 (some 90) d6x3 HT_.out ?_
        refine pon_ 1 (some 91) d6x9 HT_.out ?_
        refine pon_ 2 (some 92) d6x10 HT_.out ?_
        refine pof_ 3 (some 93) d6x15 HT_.out ?_
        refine pof_ 4 (some 94) d6x19 HT_.out ?_
        refine pof_ 5 (some 95) d6x23 HT_.out ?_
        refine pof_ 6 (some 96) d6x26 HT_.out ?_
        refine pof_ 7 (some 97) d6x30 HT_.out ?_
        refine pof_ 8 (some 98) d6x32 HT_.out ?_
        refine pof_ 9 (some 99) d6x34 HT_.out ?_
        refine pof_ 10 (some 100) d6x36 HT_.out ?_
        refine pof_ 11 (some 101) d6x38 HT_.out ?_
        refine pof_ 12 (some 102) d6x41 HT_.out ?_
        refine pof_ 13 (some 103) d6x42 HT_.out ?_
        refine pof_ 14 (some 104) d6x44 HT_.out ?_
        refine pof_ 15 (some 105) d6x45 HT_.out ?_
        refine pof_ 16 (some 106) d6x46 HT_.out ?_
        refine pof_ 17 (some 107) d6x47 HT_.out ?_
        refine pof_ 18 (some 108) d6x48 HT_.out ?_
        refine pof_ 19 (some 109) d6x49 HT_.out ?_
        refine pof_ 20 (some 110) d6x50 HT_.out ?_
        refine pof_ 21 (some 111) d6x51 HT_.out ?_
        refine pof_ 22 (some 112) d6x52 HT_.out ?_
        refine pof_ 23 (some 113) d6x53 HT_.out ?_
        refine pof_ 24 (some 114) d6x54 HT_.out ?_
        refine pof_ 25 (some 115) d6x55 HT_.out ?_
        refine pof_ 26 (some 116) d6x56 HT_.out ?_
        refine pof_ 27 (some 117) d6x57 HT_.out ?_
        refine pof_ 28 (some 118) d6x58 HT_.out ?_
        refine pon_ 29 (some 119) d6x59 HT_.out ?_
        refine done_ (done_of HT_.out (by kernel_rfl)) ?_
        try go_wp2
        go_roundg kj63
        case measure => have := HJ3.out; have := HK2.out; have := HJ63.out; omega
        case rel => exact ⟨(wrap64 (x13_2 + 1)), (x14_2), (wrap64 (x15_2 + 1)), (by first | rfl | (simp; done) | (simp [*]; done)), (by first | rfl | (simp; done) | (simp [*]; done)), H', ⟨by have := HJ3.out; have := HK2.out; have := HJ63.out; omega⟩, ⟨by (with_reducible repeat (first | apply Kd.R_alloc | apply Kd.R_drewN | apply Kd.R_drew)); exact HO_11.out⟩, ⟨by (with_reducible repeat (first | apply Kd.R_alloc | apply Kd.R_drewN | apply Kd.R_drew)); exact HO_14.out⟩, ⟨by (with_reducible repeat (first | apply Kd.V_alloc | apply Kd.V_drewN | apply Kd.V_drew)); exact HO_417000.out⟩, ⟨bk_ BK389⟩, ⟨bk_ BK390⟩, ⟨bk_ BK397⟩, ⟨bk_ BK416⟩, ⟨hb_ HB⟩⟩
       rw [if_pos c88] at H
       have c88b0 : (t415 == 1) = true := beq_iff_eq.mpr c88
       have c88b1 : (t415 != 1) = false := bne_eq_false_iff_eq.mpr c88
       clear c88
       by_cases c89 : x13_2 ≥ (t412.length : Int)
       ·rw [if_pos c89] at H
        have c89b0 : decide ((t412.length : Int) ≤ x13_2) = true := decide_eq_true c89
        clear c89
        exact absurd ((Option.some.inj H).trans HT0.out) (by decide)
       rw [if_neg c89] at H
       have c89b0 : decide ((t412.length : Int) ≤ x13_2) = false := decide_eq_false c89
       clear c89
       refine neg_first (p := (0 ≤ x13_2)) (fun c90 => ?_) (fun c90 => ?_)
       ·rw [if_neg c90] at H
        exact absurd H (by simp)
       rw [if_pos c90] at H
       have c90b0 : decide (0 ≤ x13_2) = true := decide_eq_true c90
       clear c90
       refine neg_first (p := (x13_2 < (t412.length : Int))) (fun c91 => ?_) (fun c91 => ?_)
       ·rw [if_neg c91] at H
        exact absurd H (by simp)
       rw [if_pos c91] at H
       have c91b0 : decide (x13_2 < (t412.length : Int)) = true := decide_eq_true c91
       clear c91
       refine neg_first (p := (0 ≤ x15_2)) (fun c92 => ?_) (fun c92 => ?_)
       ·rw [if_neg c92] at H
        exact absurd H (by simp)
       rw [if_pos c92] at H
       have c92b0 : decide (0 ≤ x15_2) = true := decide_eq_true c92
       clear c92
       refine neg_first (p := (x15_2 < (l0_0.length : Int))) (fun c93 => ?_) (fun c93 => ?_)
       ·rw [if_neg c93] at H
        exact absurd H (by simp)
       rw [if_pos c93] at H
       have c93b0 : decide (x15_2 < (l0_0.length : Int)) = true := decide_eq_true c93
       clear c93
       refine neg_first (p := (((rd_T46 t412 x13_2).f0).toList = ((rd_T53 l0_0 x15_2).f0).toList)) (fun c94 => ?_) (fun c94 => ?_)
       ·rw [if_neg c94] at H
        have c94b0 : (((rd_T46 t412 x13_2).f0).toList == ((rd_T53 l0_0 x15_2).f0).toList) = false := beq_eq_false_iff_ne.mpr c94
        have c94b1 : (((rd_T46 t412 x13_2).f0).toList != ((rd_T53 l0_0 x15_2).f0).toList) = true := bne_iff_ne.mpr c94
        exact absurd ((Option.some.inj H).trans HT0.out) (by decide)
       rw [if_pos c94] at H
       have c94b0 : (((rd_T46 t412 x13_2).f0).toList == ((rd_T53 l0_0 x15_2).f0).toList) = true := beq_iff_eq.mpr c94
       have c94b1 : (((rd_T46 t412 x13_2).f0).toList != ((rd_T53 l0_0 x15_2).f0).toList) = false := bne_eq_false_iff_eq.mpr c94
       clear c94
       refine neg_first (p := (((rd_T46 t412 x13_2).f1) = 2)) (fun c95 => ?_) (fun c95 => ?_)
       ·rw [if_neg c95] at H
        have c95b0 : (((rd_T46 t412 x13_2).f1) == 2) = false := beq_eq_false_iff_ne.mpr c95
        have c95b1 : (((rd_T46 t412 x13_2).f1) != 2) = true := bne_iff_ne.mpr c95
        exact absurd ((Option.some.inj H).trans HT0.out) (by decide)
       rw [if_pos c95] at H
       have c95b0 : (((rd_T46 t412 x13_2).f1) == 2) = true := beq_iff_eq.mpr c95
       have c95b1 : (((rd_T46 t412 x13_2).f1) != 2) = false := bne_eq_false_iff_eq.mpr c95
       clear c95
       have H' := Aside0.mk H
       clear H
       try go_wp2
       have n0_ := Aside0.mk (Kd.R_drew HO_11.out)
       have n1_ := Aside0.mk (Kd.R_drew HO_14.out)
       have n2_ := Aside0.mk (Kd.V_drew HO_417000.out)
       have n3_ := Aside0.mk (blk_drew BK389.out)
       have n4_ := Aside0.mk (blk_drew BK390.out)
       have n5_ := Aside0.mk (blk_drew BK397.out)
       have n6_ := Aside0.mk (blk_drew BK416.out)
       have n7_ := Aside0.mk (below_drew1 HB.out)
       clear HO_11
       clear HO_14
       clear HO_417000
       clear BK389
       clear BK390
       clear BK397
       clear BK416
       clear HB
       have HO_11 := n0_
       have HO_14 := n1_
       have HO_417000 := n2_
       have BK389 := n3_
       have BK390 := n4_
       have BK397 := n5_
       have BK416 := n6_
       have HB := n7_
       clear n0_ n1_ n2_ n3_ n4_ n5_ n6_ n7_
       obtain ⟨Ao97, co97, eo97⟩ := Kd.R_slice HO_11.out
       (first | subst eo97 | (injection eo97 with f1_ f2_ f3_; have f4_ := f1_.symm; have f5_ := f3_.symm; clear f1_ f2_ f3_; subst f4_; subst f5_))
       have p423 : 0 ≤ (x13_2 : Int) := of_decide_eq_true (by first | (with_reducible assumption) | assumption)
       have q423 : x13_2 < (t412.length : Int) := of_decide_eq_true (by first | (with_reducible assumption) | assumption)
       obtain ⟨ad423, e423, hx423_0, hx423_1⟩ := at_T46 (Kd.R_reads' HO_11.out).2.2 x13_2 p423 q423
       cases e423
       replace p423 := eq_true p423
       replace q423 := eq_true q423
       have p424 : 0 ≤ (x15_2 : Int) := of_decide_eq_true (by first | (with_reducible assumption) | assumption)
       have q424 : x15_2 < (l0_0.length : Int) := of_decide_eq_true (by first | (with_reducible assumption) | assumption)
       obtain ⟨ad424, e424, hx424_0, hx424_1⟩ := at_T53 HR0_0.out x15_2 p424 q424
       have hw424_1 := hx424_1
       have hw424_0 := hx424_0
       cases e424
       replace hx424_0 := (HB.out.cell (World.block_lt_of_cell? w _ hx424_0)).trans hx424_0
       replace hx424_1 := (HB.out.cell (World.block_lt_of_cell? w _ hx424_1)).trans hx424_1
       replace p424 := eq_true p424
       replace q424 := eq_true q424
       have p425 : 0 ≤ (x13_2 : Int) := of_decide_eq_true (by first | (with_reducible assumption) | assumption)
       have q425 : x13_2 < (t412.length : Int) := of_decide_eq_true (by first | (with_reducible assumption) | assumption)
       obtain ⟨ad425, e425, hx425_0, hx425_1⟩ := at_T46 (Kd.R_reads' HO_11.out).2.2 x13_2 p425 q425
       obtain rfl : ad423 = ad425 := (by injection e425)
       replace p425 := eq_true p425
       replace q425 := eq_true q425
       refine start_ (n := 30) (S := fun w' => w'.cell? ⟨gb389, 0, none⟩ = some (.slice (some ad424) l0_0.length c0_0) ∧ w'.cell? ⟨gb389, 1, none⟩ = some (.int .i64 a0_1) ∧ w'.cell? ⟨gb389, 2, none⟩ = some (.string a0_2) ∧ w'.cell? ⟨gb389, 3, none⟩ = some (.int .u32 a0_3) ∧ w'.cell? ⟨gb389, 4, none⟩ = some (.bool a0_4) ∧ w'.cell? (ad423.add ((x13_2).toNat * 2)) = some (.string ((rd_T46 t412 x13_2).f0)) ∧ w'.cell? ⟨(ad423.add ((x13_2).toNat * 2)).block, (ad423.add ((x13_2).toNat * 2)).off + 1, none⟩ = some (.int .i64 ((rd_T46 t412 x13_2).f1)) ∧ w'.cell? (ad424.add ((x15_2).toNat * 2)) = some (.string ((rd_T53 l0_0 x15_2).f0)) ∧ w'.cell? ⟨(ad424.add ((x15_2).toNat * 2)).block, (ad424.add ((x15_2).toNat * 2)).off + 1, none⟩ = some (.int .u64 ((rd_T53 l0_0 x15_2).f1)) ∧ w'.cell? (ad423.add ((x13_2).toNat * 2)) = some (.string ((rd_T46 t412 x13_2).f0)) ∧ w'.cell? ⟨(ad423.add ((x13_2).toNat * 2)).block, (ad423.add ((x13_2).toNat * 2)).off + 1, none⟩ = some (.int .i64 ((rd_T46 t412 x13_2).f1))) (ds := []) d6x0 (by kernel_rfl) rfl rfl ⟨(blk_cell BK389.out 0).trans rfl, (blk_cell BK389.out 1).trans rfl, (blk_cell BK389.out 2).trans rfl, (blk_cell BK389.out 3).trans rfl, (blk_cell BK389.out 4).trans rfl, hx423_0, hx423_1, ((HB.out.cell (World.block_lt_of_cell? w _ hw424_0)).trans hw424_0), ((HB.out.cell (World.block_lt_of_cell? w _ hw424_1)).trans hw424_1), hx425_0, hx425_1⟩ (fun hHeld => ?_); refine with_tabW headgatelaw11_ResvStruck.tab13 headgatelaw11_ResvStruck.bits13 (fun HT_ HW_ => ?_)
       generalize wc.drew = w96 at HO_11 HO_14 HO_417000 BK389 BK390 BK397 BK416 HB hx423_0 hx423_1 hx424_0 hx424_1 hx425_0 hx425_1 hHeld ⊢
       refine pon_ 0 (some 90) d6x3 HT_.out ?_
       refine pon_ 1 (some 91) d6x9 HT_.out ?_
       refine pon_ 2 (some 92) d6x10 HT_.out ?_
       refine pon_ 3 (some 93) d6x15 HT_.out ?_
       refine pon_ 4 (some 94) d6x19 HT_.out ?_
       refine pon_ 5 (some 95) d6x23 HT_.out ?_
       refine pon_ 6 (some 96) d6x26 HT_.out ?_
       refine pon_ 7 (some 97) d6x30 HT_.out ?_
       refine pon_ 8 (some 98) d6x32 HT_.out ?_
       refine pon_ 9 (some 99) d6x34 HT_.out ?_
       refine pon_ 10 (some 100) d6x36 HT_.out ?_
       refine pon_ 11 (some 101) d6x38 HT_.out ?_
       refine pon_ 13 (some 103) d6x39 HT_.out ?_
       refine pon_ 15 (some 105) d6x40 HT_.out ?_
       refine ptk_ 12 (some 102) d6x43 HT_.out HW_.out hHeld ?_
       refine ptk_ 14 (some 104) d6x45 HT_.out HW_.out hHeld ?_
       refine pon_ 16 (some 106) d6x46 HT_.out ?_
       refine pon_ 17 (some 107) d6x47 HT_.out ?_
       refine ptk_ 18 (some 108) d6x48 HT_.out HW_.out hHeld ?_
       refine pon_ 19 (some 109) d6x49 HT_.out ?_
       refine pon_ 20 (some 110) d6x50 HT_.out ?_
       refine pon_ 21 (some 111) d6x51 HT_.out ?_
       refine pon_ 22 (some 112) d6x52 HT_.out ?_
       refine pon_ 23 (some 113) d6x53 HT_.out ?_
       refine pon_ 24 (some 114) d6x54 HT_.out ?_
       refine pon_ 25 (some 115) d6x55 HT_.out ?_
       refine ptk_ 26 (some 116) d6x56 HT_.out HW_.out hHeld ?_
       refine pon_ 27 (some 117) d6x57 HT_.out ?_
       refine pon_ 28 (some 118) d6x58 HT_.out ?_
       refine pon_ 29 (some 119) d6x59 HT_.out ?_
       refine done_ (done_of HT_.out (by kernel_rfl)) ?_
       try go_wp2
       go_roundg kj63
       case measure => have := HJ3.out; have := HK2.out; have := HJ63.out; omega
       case rel => exact ⟨(wrap64 (x13_2 + 1)), (x14_2), (wrap64 (x15_2 + 1)), (by first | rfl | (simp; done) | (simp [*]; done)), (by first | rfl | (simp; done) | (simp [*]; done)), H', ⟨by have := HJ3.out; have := HK2.out; have := HJ63.out; omega⟩, ⟨by (with_reducible repeat (first | apply Kd.R_alloc | apply Kd.R_drewN | apply Kd.R_drew)); exact HO_11.out⟩, ⟨by (with_reducible repeat (first | apply Kd.R_alloc | apply Kd.R_drewN | apply Kd.R_drew)); exact HO_14.out⟩, ⟨by (with_reducible repeat (first | apply Kd.V_alloc | apply Kd.V_drewN | apply Kd.V_drew)); exact HO_417000.out⟩, ⟨bk_ BK389⟩, ⟨bk_ BK390⟩, ⟨bk_ BK397⟩, ⟨bk_ BK416⟩, ⟨hb_ HB⟩⟩
end Go.Proofs.YtjogkfcjlljjcaaDoor.P
