-- written by this session's patched copy of the printer (wip/tools/patch_print.py); Lean checks it
import Derived.Test.YtjogkfcjlljjcaaDoorBc8
set_option maxHeartbeats 40000000
set_option maxRecDepth 100000
namespace Go.Proofs.YtjogkfcjlljjcaaDoor.P
open Go.RowKit Go.Proofs.YtjogkfcjlljjcaaDoorW.PrintWords Go.Proofs.YtjogkfcjlljjcaaDoorW.PrintLast Go.Proofs.YtjogkfcjlljjcaaDoorW.PrintMore
attribute [local go_sem] max2_int min2_int max_two min_two max_three min_three max_four min_four   -- for this text's walks alone
set_option linter.unusedVariables false
set_option linter.unusedSimpArgs false
set_option linter.unnecessarySimpa false

/-! ### headgatelaw11_ResvPlays: function 5 -/
mutual
def headgatelaw11_ResvPlays.l0 : Nat → List (S31) → Int → List (S53) → Int → ByteArray → Int → Bool → List (S53) → Int → ByteArray → Int → Bool → Option (Bool)
 | 0, _, _, _, _, _, _, _, _, _, _, _, _ => none
 | k + 1, x0, x5, x309000, x309001, x309002, x309003, x309004, x310000, x310001, x310002, x310003, x310004 => if x5 < (x0.length : Int) then (headgatelaw11_ResvPlays.j1 k x0 x5 (decide (x5 < 60)) x309000 x309001 x309002 x309003 x309004 x310000 x310001 x310002 x310003 x310004) else (headgatelaw11_ResvPlays.j1 k x0 x5 false x309000 x309001 x309002 x309003 x309004 x310000 x310001 x310002 x310003 x310004)
def headgatelaw11_ResvPlays.j1 : Nat → List (S31) → Int → Bool → List (S53) → Int → ByteArray → Int → Bool → List (S53) → Int → ByteArray → Int → Bool → Option (Bool)
 | 0, _, _, _, _, _, _, _, _, _, _, _, _, _ => none
 | k + 1, x0, x5, x17, x309000, x309001, x309002, x309003, x309004, x310000, x310001, x310002, x310003, x310004 => if x17 = true then (if 0 ≤ x5 then (if x5 < (x0.length : Int) then ((headgatelaw11_large.f ((rd_T31 x0 x5).f0) ((rd_T31 x0 x5).f1) ((rd_T31 x0 x5).f2) ((rd_T31 x0 x5).f3) ((rd_T31 x0 x5).f4) ((rd_T31 x0 x5).f5) ((rd_T31 x0 x5).f6) ((rd_T31 x0 x5).f7) ((rd_T31 x0 x5).f8) ((rd_T31 x0 x5).f9) ((rd_T31 x0 x5).f10) ((rd_T31 x0 x5).f11) ((rd_T31 x0 x5).f12) ((rd_T31 x0 x5).f13)).bind fun t312 => (if t312 = true then ((headgatelaw11_wakes.f k).bind fun t313 => (some t313)) else ((resv_Do.f k x309000 x309001 x309002 x309003 x309004 ((rd_T31 x0 x5).f0) ((rd_T31 x0 x5).f1) ((rd_T31 x0 x5).f2) ((rd_T31 x0 x5).f3) ((rd_T31 x0 x5).f4) ((rd_T31 x0 x5).f5) ((rd_T31 x0 x5).f6) ((rd_T31 x0 x5).f7) ((rd_T31 x0 x5).f8) ((rd_T31 x0 x5).f9) ((rd_T31 x0 x5).f10) ((rd_T31 x0 x5).f11) ((rd_T31 x0 x5).f12) ((rd_T31 x0 x5).f13)).bind fun bt315 => ((headgateref11_Do.f k x310000 x310001 x310002 x310003 x310004 ((rd_T31 x0 x5).f0) ((rd_T31 x0 x5).f1) ((rd_T31 x0 x5).f2) ((rd_T31 x0 x5).f3) ((rd_T31 x0 x5).f4) ((rd_T31 x0 x5).f5) ((rd_T31 x0 x5).f6) ((rd_T31 x0 x5).f7) ((rd_T31 x0 x5).f8) ((rd_T31 x0 x5).f9) ((rd_T31 x0 x5).f10) ((rd_T31 x0 x5).f11) ((rd_T31 x0 x5).f12) ((rd_T31 x0 x5).f13)).bind fun bt328 => (if bt315.2.2.2.2.2.2 = bt328.2.2.2.2.2.2 then ((headgatekeep_Tables.f k bt315.1 bt315.2.1 bt315.2.2.1 bt315.2.2.2.1 bt315.2.2.2.2.1 bt328.1 bt328.2.1 bt328.2.2.1 bt328.2.2.2.1 bt328.2.2.2.2.1).bind fun t340 => (if t340 = true then ((headgateref11_Events.f k bt315.2.2.2.2.2.1 bt328.2.2.2.2.2.1).bind fun t341 => (if t341 = true then ((resv_Good.f bt315.1 bt315.2.1 bt315.2.2.1 bt315.2.2.2.1 bt315.2.2.2.2.1).bind fun t342 => (if t342 = true then (headgatelaw11_ResvPlays.l0 k x0 (wrap64 (x5 + 1)) bt315.1 bt315.2.1 bt315.2.2.1 bt315.2.2.2.1 bt315.2.2.2.2.1 bt328.1 bt328.2.1 bt328.2.2.1 bt328.2.2.2.1 bt328.2.2.2.2.1) else (some false))) else (some false))) else (some false))) else (some false)))))) else (none)) else (none)) else ((headgatelaw11_wakes.f k).bind fun t310 => (some t310))
end
def headgatelaw11_ResvPlays.f (k : Nat) (l0 : List (S31)) : Option (Bool) := headgatelaw11_ResvPlays.l0 k l0 0 ([] : List (S53)) 0 (⟨#[]⟩ : ByteArray) 0 false ([] : List (S53)) 0 (⟨#[]⟩ : ByteArray) 0 false
theorem headgatelaw11_ResvPlays.mono_l : ∀ k, (∀ y0 y1 y2 y3 y4 y5 y6 y7 y8 y9 y10 y11, LeO (headgatelaw11_ResvPlays.l0 k y0 y1 y2 y3 y4 y5 y6 y7 y8 y9 y10 y11) (headgatelaw11_ResvPlays.l0 (k + 1) y0 y1 y2 y3 y4 y5 y6 y7 y8 y9 y10 y11)) ∧ (∀ y0 y1 y2 y3 y4 y5 y6 y7 y8 y9 y10 y11 y12, LeO (headgatelaw11_ResvPlays.j1 k y0 y1 y2 y3 y4 y5 y6 y7 y8 y9 y10 y11 y12) (headgatelaw11_ResvPlays.j1 (k + 1) y0 y1 y2 y3 y4 y5 y6 y7 y8 y9 y10 y11 y12))
 | 0 => ⟨fun _ _ _ _ _ _ _ _ _ _ _ _ r h => by simp [headgatelaw11_ResvPlays.l0] at h, fun _ _ _ _ _ _ _ _ _ _ _ _ _ r h => by simp [headgatelaw11_ResvPlays.j1] at h⟩
 | k + 1 => by
  obtain ⟨ih0, ih1⟩ := headgatelaw11_ResvPlays.mono_l k
  refine ⟨?_, ?_⟩
  ·intro y0 y1 y2 y3 y4 y5 y6 y7 y8 y9 y10 y11
   unfold headgatelaw11_ResvPlays.l0
   repeat' first
   | (with_reducible exact ih0 _ _ _ _ _ _ _ _ _ _ _ _)
   | (with_reducible exact ih1 _ _ _ _ _ _ _ _ _ _ _ _ _)
   | (with_reducible exact headgatekeep_Tables.mono _ _ _ _ _ _ _ _ _ _ _)
   | (with_reducible exact headgatelaw11_wakes.mono _)
   | (with_reducible exact headgateref11_Do.mono _ _ _ _ _ _ _ _ _ _ _ _ _ _ _ _ _ _ _ _)
   | (with_reducible exact headgateref11_Events.mono _ _ _)
   | (with_reducible exact resv_Do.mono _ _ _ _ _ _ _ _ _ _ _ _ _ _ _ _ _ _ _ _)
   | (with_reducible exact LeO.refl _)
   | (with_reducible exact LeO.none _)
   | (with_reducible refine LeO.ite ?_ ?_)
   | (with_reducible refine LeO.bind ?_ (fun _ => ?_))
   | exact ih0 _ _ _ _ _ _ _ _ _ _ _ _
   | exact ih1 _ _ _ _ _ _ _ _ _ _ _ _ _
   | exact headgatekeep_Tables.mono _ _ _ _ _ _ _ _ _ _ _
   | exact headgatelaw11_wakes.mono _
   | exact headgateref11_Do.mono _ _ _ _ _ _ _ _ _ _ _ _ _ _ _ _ _ _ _ _
   | exact headgateref11_Events.mono _ _ _
   | exact resv_Do.mono _ _ _ _ _ _ _ _ _ _ _ _ _ _ _ _ _ _ _ _
   | exact LeO.none _
   | refine LeO.ite ?_ ?_
   | refine LeO.bind ?_ (fun _ => ?_)
  ·intro y0 y1 y2 y3 y4 y5 y6 y7 y8 y9 y10 y11 y12
   unfold headgatelaw11_ResvPlays.j1
   repeat' first
   | (with_reducible exact ih0 _ _ _ _ _ _ _ _ _ _ _ _)
   | (with_reducible exact ih1 _ _ _ _ _ _ _ _ _ _ _ _ _)
   | (with_reducible exact headgatekeep_Tables.mono _ _ _ _ _ _ _ _ _ _ _)
   | (with_reducible exact headgatelaw11_wakes.mono _)
   | (with_reducible exact headgateref11_Do.mono _ _ _ _ _ _ _ _ _ _ _ _ _ _ _ _ _ _ _ _)
   | (with_reducible exact headgateref11_Events.mono _ _ _)
   | (with_reducible exact resv_Do.mono _ _ _ _ _ _ _ _ _ _ _ _ _ _ _ _ _ _ _ _)
   | (with_reducible exact LeO.refl _)
   | (with_reducible exact LeO.none _)
   | (with_reducible refine LeO.ite ?_ ?_)
   | (with_reducible refine LeO.bind ?_ (fun _ => ?_))
   | exact ih0 _ _ _ _ _ _ _ _ _ _ _ _
   | exact ih1 _ _ _ _ _ _ _ _ _ _ _ _ _
   | exact headgatekeep_Tables.mono _ _ _ _ _ _ _ _ _ _ _
   | exact headgatelaw11_wakes.mono _
   | exact headgateref11_Do.mono _ _ _ _ _ _ _ _ _ _ _ _ _ _ _ _ _ _ _ _
   | exact headgateref11_Events.mono _ _ _
   | exact resv_Do.mono _ _ _ _ _ _ _ _ _ _ _ _ _ _ _ _ _ _ _ _
   | exact LeO.none _
   | refine LeO.ite ?_ ?_
   | refine LeO.bind ?_ (fun _ => ?_)
theorem headgatelaw11_ResvPlays.mono : ∀ a0 k, LeO (headgatelaw11_ResvPlays.f k a0) (headgatelaw11_ResvPlays.f (k + 1) a0) := by
 intro a0 k;obtain ⟨ih0, ih1⟩ := headgatelaw11_ResvPlays.mono_l k;unfold headgatelaw11_ResvPlays.f
 repeat' first
   | (with_reducible exact ih0 _ _ _ _ _ _ _ _ _ _ _ _)
   | (with_reducible exact ih1 _ _ _ _ _ _ _ _ _ _ _ _ _)
   | (with_reducible exact headgatekeep_Tables.mono _ _ _ _ _ _ _ _ _ _ _)
   | (with_reducible exact headgatelaw11_wakes.mono _)
   | (with_reducible exact headgateref11_Do.mono _ _ _ _ _ _ _ _ _ _ _ _ _ _ _ _ _ _ _ _)
   | (with_reducible exact headgateref11_Events.mono _ _ _)
   | (with_reducible exact resv_Do.mono _ _ _ _ _ _ _ _ _ _ _ _ _ _ _ _ _ _ _ _)
   | (with_reducible exact LeO.refl _)
   | (with_reducible exact LeO.none _)
   | (with_reducible refine LeO.ite ?_ ?_)
   | (with_reducible refine LeO.bind ?_ (fun _ => ?_))
   | exact ih0 _ _ _ _ _ _ _ _ _ _ _ _
   | exact ih1 _ _ _ _ _ _ _ _ _ _ _ _ _
   | exact headgatekeep_Tables.mono _ _ _ _ _ _ _ _ _ _ _
   | exact headgatelaw11_wakes.mono _
   | exact headgateref11_Do.mono _ _ _ _ _ _ _ _ _ _ _ _ _ _ _ _ _ _ _ _
   | exact headgateref11_Events.mono _ _ _
   | exact resv_Do.mono _ _ _ _ _ _ _ _ _ _ _ _ _ _ _ _ _ _ _ _
   | exact LeO.none _
   | refine LeO.ite ?_ ?_
   | refine LeO.bind ?_ (fun _ => ?_)
def headgatelaw11_ResvPlays.T7 : Bool × List (List Nat × List Nat) := (true, [([], []), ([], []), ([], []), ([1, 2], [1, 2]), ([3], [3]), ([0, 4], [0, 4]), ([5], [5]), ([6], [6]), ([6], [6]), ([6], [6]), ([], []), ([10, 7, 5, 0, 1, 2, 3, 4, 5, 6, 7, 10], [7, 10]), ([8, 11, 0, 1, 2, 3, 4, 5, 6, 7, 8, 10, 11], [8]), ([9, 12, 0, 1, 2, 3, 4, 5, 6, 7, 8, 9, 10, 11, 12], [9])])
def headgatelaw11_ResvPlays.B7 : List Nat := [0, 0, 0, 6, 14, 31, 63, 127, 127, 127, 0, 1279, 3583, 8191]
theorem headgatelaw11_ResvPlays.tab7 : rtab .any (opsOf Tryd.f5 7) = headgatelaw11_ResvPlays.T7 := by kernel_rfl
theorem headgatelaw11_ResvPlays.bits7 : waitsOk headgatelaw11_ResvPlays.T7.2 headgatelaw11_ResvPlays.B7 = true := by kernel_rfl
def headgatelaw11_ResvPlays.T8 : Bool × List (List Nat × List Nat) := (true, [([], []), ([], []), ([], []), ([1, 2], [1, 2]), ([3], [3]), ([0, 4], [0, 4]), ([], []), ([6, 5, 5, 0, 1, 2, 3, 4, 5, 6], [5, 6])])
def headgatelaw11_ResvPlays.B8 : List Nat := [0, 0, 0, 6, 14, 31, 0, 127]
theorem headgatelaw11_ResvPlays.tab8 : rtab .any (opsOf Tryd.f5 8) = headgatelaw11_ResvPlays.T8 := by kernel_rfl
theorem headgatelaw11_ResvPlays.bits8 : waitsOk headgatelaw11_ResvPlays.T8.2 headgatelaw11_ResvPlays.B8 = true := by kernel_rfl
abbrev d5x0 : Array Bool := #[false, false, false, false, false, false, false, false, false, false, false, false, false, false]
abbrev d5x1 : Array Bool := #[false, false, false, false, false, false, false, false]
abbrev d5x2 : Array Bool := #[false, false, false, false, false]
abbrev d5x3 : Array Bool := dB 14 2
abbrev d5x4 : Array Bool := dB 8 2
abbrev d5x5 : Array Bool := dB 5 2
abbrev d5x6 : Array Bool := dB 14 6
abbrev d5x7 : Array Bool := dB 8 6
abbrev d5x8 : Array Bool := dB 14 14
abbrev d5x9 : Array Bool := dB 8 14
abbrev d5x10 : Array Bool := dB 5 3
abbrev d5x11 : Array Bool := dB 5 7
abbrev d5x12 : Array Bool := dB 14 15
abbrev d5x13 : Array Bool := dB 8 15
abbrev d5x14 : Array Bool := dB 5 15
abbrev d5x15 : Array Bool := dB 14 31
abbrev d5x16 : Array Bool := dB 14 1055
abbrev d5x17 : Array Bool := dB 8 31
abbrev d5x18 : Array Bool := dB 8 95
abbrev d5x19 : Array Bool := dB 14 63
abbrev d5x20 : Array Bool := dB 14 1087
abbrev d5x21 : Array Bool := dB 8 63
abbrev d5x22 : Array Bool := dB 14 127
abbrev d5x23 : Array Bool := dB 14 1151
abbrev d5x24 : Array Bool := dB 8 127
abbrev d5x25 : Array Bool := dB 14 255
abbrev d5x26 : Array Bool := dB 14 1279
abbrev d5x27 : Array Bool := dB 14 511
abbrev d5x28 : Array Bool := dB 14 1535
abbrev d5x29 : Array Bool := dB 14 1023
abbrev d5x30 : Array Bool := dB 14 2047
abbrev d5x31 : Array Bool := dB 14 4095
abbrev d5x32 : Array Bool := dB 14 8191
abbrev d5x33 : Array Bool := dB 14 16383
abbrev d5x34 : Array Bool := dB 8 255
abbrev d5x35 : Array Bool := dB 5 31
/-! ### headgatelaw11_ResvPlays: function 5 -/

end Go.Proofs.YtjogkfcjlljjcaaDoor.P
