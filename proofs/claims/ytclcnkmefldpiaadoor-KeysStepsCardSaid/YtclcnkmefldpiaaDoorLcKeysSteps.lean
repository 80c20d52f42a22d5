-- written by this session's patched copy of the printer (wip/tools/patch_print.py); Lean checks it
import Derived.Test.YtclcnkmefldpiaaDoorXcKeysSteps
namespace Go.Proofs.YtclcnkmefldpiaaDoor.P
open Go.RowKit Go.Proofs.YtclcnkmefldpiaaDoorW.PrintWords Go.Proofs.YtclcnkmefldpiaaDoorW.PrintLast Go.Proofs.YtclcnkmefldpiaaDoorW.PrintMore
attribute [local go_sem] max2_int min2_int max_two min_two max_three min_three max_four min_four   -- for this text's walks alone
set_option linter.unusedVariables false
set_option linter.unusedSimpArgs false
set_option linter.unnecessarySimpa false

/-! ### headgatelaw21_KeysSteps: function 4 -/
def headgatelaw21_KeysSteps.j0 : Nat → List (S45) → List (S45) → List (S45) → Bool → Bool → Bool → Bool → Bool → Int → Int → ByteArray → ByteArray → Option (Bool)
 | 0, _, _, _, _, _, _, _, _, _, _, _, _ => none
 | k + 1, x7, x10, x13, x79, x355000, x355001, x355002, x355003, x355004, x355005, x355006, x355007 => if x79 = true then (some false) else ((headgatelaw21_few.f x10).bind fun t413 => (if t413.length + x13.length < 4398046511104 then ((headgateref21_Pairs.f k x7 (t413 ++ x13)).bind fun t419 => (if t419 = true then (if x355004 ≥ 512 then (if x355004 ≤ 8192 then (if x355005 ≥ 512 then (if x355005 ≤ 4096 then (if x355003 = true then (some false) else ((headgatelaw21_wakes.f).bind fun t420 => (some t420))) else (some false)) else (some false)) else (some false)) else (some false)) else (some false))) else (none)))
def headgatelaw21_KeysSteps.f (k : Nat) (l0 : List (S45)) (a1 : Int) : Option (Bool) := (headgatelaw21_Large.f k l0).bind fun t329 => (if t329 = true then ((headgatelaw21_wakes.f).bind fun t330 => (some t330)) else (if (IntKind.u64.wrap (wrap64 ((l0.length : Int) + 1))) = 0 then (none) else ((keys_First.f).bind fun bt331 => ((headgatelaw21_few.f l0).bind fun t339 => ((keys_Answer.f bt331.1 bt331.2.1 bt331.2.2.1 bt331.2.2.2.1 bt331.2.2.2.2.1 bt331.2.2.2.2.2.1 bt331.2.2.2.2.2.2.1 bt331.2.2.2.2.2.2.2 t339).bind fun bt342 => ((keys_First.f).bind fun bt331 => (if 0 ≤ (wrap64 (Int.tmod (IntKind.u64.wrap (a1)) (IntKind.u64.wrap (wrap64 ((l0.length : Int) + 1))))) then (if (wrap64 (Int.tmod (IntKind.u64.wrap (a1)) (IntKind.u64.wrap (wrap64 ((l0.length : Int) + 1))))) ≤ (l0.length : Int) then ((headgatelaw21_few.f (l0.take ((wrap64 (Int.tmod (IntKind.u64.wrap (a1)) (IntKind.u64.wrap (wrap64 ((l0.length : Int) + 1))))) : Int).toNat)).bind fun t359 => ((keys_Answer.f bt331.1 bt331.2.1 bt331.2.2.1 bt331.2.2.2.1 bt331.2.2.2.2.1 bt331.2.2.2.2.2.1 bt331.2.2.2.2.2.2.1 bt331.2.2.2.2.2.2.2 t359).bind fun bt362 => (if bt342.2.2.2.2.2.2.2.2.2 = 0 then ((headgatelaw21_few.f (l0.drop ((wrap64 (Int.tmod (IntKind.u64.wrap (a1)) (IntKind.u64.wrap (wrap64 ((l0.length : Int) + 1))))) : Int).toNat)).bind fun t380 => ((keys_Answer.f bt362.1 bt362.2.1 bt362.2.2.1 bt362.2.2.2.1 bt362.2.2.2.2.1 bt362.2.2.2.2.2.1 bt362.2.2.2.2.2.2.1 bt362.2.2.2.2.2.2.2.1 t380).bind fun bt383 => (if bt362.2.2.2.2.2.2.2.2.2 = 0 then (if bt383.2.2.2.2.2.2.2.2.2 = 0 then ((headgatelaw21_Own.f bt342.1 bt342.2.1 bt342.2.2.1 bt342.2.2.2.1 bt342.2.2.2.2.1 bt342.2.2.2.2.2.1 bt342.2.2.2.2.2.2.1 bt342.2.2.2.2.2.2.2.1).bind fun bt396 => ((headgatelaw21_Own.f bt383.1 bt383.2.1 bt383.2.2.1 bt383.2.2.2.1 bt383.2.2.2.2.1 bt383.2.2.2.2.2.1 bt383.2.2.2.2.2.2.1 bt383.2.2.2.2.2.2.2.1).bind fun bt404 => ((headgateref21_Same.f bt396.1 bt396.2.1 bt396.2.2.1 bt396.2.2.2.1 bt396.2.2.2.2.1 bt396.2.2.2.2.2.1 bt396.2.2.2.2.2.2.1 bt396.2.2.2.2.2.2.2 bt404.1 bt404.2.1 bt404.2.2.1 bt404.2.2.2.1 bt404.2.2.2.2.1 bt404.2.2.2.2.2.1 bt404.2.2.2.2.2.2.1 bt404.2.2.2.2.2.2.2).bind fun t412 => (headgatelaw21_KeysSteps.j0 k bt342.2.2.2.2.2.2.2.2.1 bt362.2.2.2.2.2.2.2.2.1 bt383.2.2.2.2.2.2.2.2.1 (!t412) bt342.1 bt342.2.1 bt342.2.2.1 bt342.2.2.2.1 bt342.2.2.2.2.1 bt342.2.2.2.2.2.1 bt342.2.2.2.2.2.2.1 bt342.2.2.2.2.2.2.2.1)))) else (headgatelaw21_KeysSteps.j0 k bt342.2.2.2.2.2.2.2.2.1 bt362.2.2.2.2.2.2.2.2.1 bt383.2.2.2.2.2.2.2.2.1 true bt342.1 bt342.2.1 bt342.2.2.1 bt342.2.2.2.1 bt342.2.2.2.2.1 bt342.2.2.2.2.2.1 bt342.2.2.2.2.2.2.1 bt342.2.2.2.2.2.2.2.1)) else (headgatelaw21_KeysSteps.j0 k bt342.2.2.2.2.2.2.2.2.1 bt362.2.2.2.2.2.2.2.2.1 bt383.2.2.2.2.2.2.2.2.1 true bt342.1 bt342.2.1 bt342.2.2.1 bt342.2.2.2.1 bt342.2.2.2.2.1 bt342.2.2.2.2.2.1 bt342.2.2.2.2.2.2.1 bt342.2.2.2.2.2.2.2.1)))) else (if bt342.2.2.2.2.2.2.2.2.2 = 210 then (if (bt342.2.2.2.2.2.2.2.2.1.length : Int) = 0 then ((headgatelaw21_wakes.f).bind fun t375 => (some t375)) else (some false)) else (some false))))) else (none)) else (none))))))))
theorem headgatelaw21_KeysSteps.mono_l : ∀ k, (∀ y0 y1 y2 y3 y4 y5 y6 y7 y8 y9 y10 y11, LeO (headgatelaw21_KeysSteps.j0 k y0 y1 y2 y3 y4 y5 y6 y7 y8 y9 y10 y11) (headgatelaw21_KeysSteps.j0 (k + 1) y0 y1 y2 y3 y4 y5 y6 y7 y8 y9 y10 y11))
 | 0 => fun _ _ _ _ _ _ _ _ _ _ _ _ r h => by simp [headgatelaw21_KeysSteps.j0] at h
 | k + 1 => by
  have ih0 := headgatelaw21_KeysSteps.mono_l k
  ·intro y0 y1 y2 y3 y4 y5 y6 y7 y8 y9 y10 y11
   unfold headgatelaw21_KeysSteps.j0
   repeat' first
   | (with_reducible exact ih0 _ _ _ _ _ _ _ _ _ _ _ _)
   | (with_reducible exact headgatelaw21_Large.mono _ _)
   | (with_reducible exact headgateref21_Pairs.mono _ _ _)
   | (with_reducible exact LeO.refl _)
   | (with_reducible exact LeO.none _)
   | (with_reducible refine LeO.ite ?_ ?_)
   | (with_reducible refine LeO.bind ?_ (fun _ => ?_))
   | exact ih0 _ _ _ _ _ _ _ _ _ _ _ _
   | exact headgatelaw21_Large.mono _ _
   | exact headgateref21_Pairs.mono _ _ _
   | exact LeO.none _
   | refine LeO.ite ?_ ?_
   | refine LeO.bind ?_ (fun _ => ?_)
theorem headgatelaw21_KeysSteps.mono : ∀ a0 a1 k, LeO (headgatelaw21_KeysSteps.f k a0 a1) (headgatelaw21_KeysSteps.f (k + 1) a0 a1) := by
 intro a0 a1 k
 have ih0 := headgatelaw21_KeysSteps.mono_l k
 unfold headgatelaw21_KeysSteps.f
 repeat' first
   | (with_reducible exact ih0 _ _ _ _ _ _ _ _ _ _ _ _)
   | (with_reducible exact headgatelaw21_Large.mono _ _)
   | (with_reducible exact headgateref21_Pairs.mono _ _ _)
   | (with_reducible exact LeO.refl _)
   | (with_reducible exact LeO.none _)
   | (with_reducible refine LeO.ite ?_ ?_)
   | (with_reducible refine LeO.bind ?_ (fun _ => ?_))
   | exact ih0 _ _ _ _ _ _ _ _ _ _ _ _
   | exact headgatelaw21_Large.mono _ _
   | exact headgateref21_Pairs.mono _ _ _
   | exact LeO.none _
   | refine LeO.ite ?_ ?_
   | refine LeO.bind ?_ (fun _ => ?_)
def headgatelaw21_KeysSteps.T5 : Bool × List (List Nat × List Nat) := (true, [([], []), ([], []), ([], []), ([1, 2], [1, 2]), ([3, 0], [3]), ([0, 4, 4], [0, 4]), ([5], [5]), ([6], [6]), ([6], [6]), ([6], [6]), ([], []), ([10, 7, 5, 0, 1, 2, 3, 4, 5, 6, 7, 10], [7, 10]), ([8, 11, 0, 1, 2, 3, 4, 5, 6, 7, 8, 10, 11], [8]), ([9, 12, 0, 1, 2, 3, 4, 5, 6, 7, 8, 9, 10, 11, 12], [9])])
def headgatelaw21_KeysSteps.B5 : List Nat := [0, 0, 0, 6, 15, 31, 63, 127, 127, 127, 0, 1279, 3583, 8191]
theorem headgatelaw21_KeysSteps.tab5 : rtab .any (opsOf Tryd.f4 5) = headgatelaw21_KeysSteps.T5 := by kernel_rfl
theorem headgatelaw21_KeysSteps.bits5 : waitsOk headgatelaw21_KeysSteps.T5.2 headgatelaw21_KeysSteps.B5 = true := by kernel_rfl
def headgatelaw21_KeysSteps.T8 : Bool × List (List Nat × List Nat) := (true, [([], []), ([], []), ([], []), ([1, 2], [1, 2]), ([3], [3]), ([0, 4, 4], [0, 4]), ([5], [5]), ([6], [6]), ([6], [6]), ([6], [6]), ([], []), ([10, 7, 5, 0, 1, 2, 3, 4, 5, 6, 7, 10], [7, 10]), ([8, 11, 0, 1, 2, 3, 4, 5, 6, 7, 8, 10, 11], [8]), ([9, 12, 0, 1, 2, 3, 4, 5, 6, 7, 8, 9, 10, 11, 12], [9])])
def headgatelaw21_KeysSteps.B8 : List Nat := [0, 0, 0, 6, 14, 31, 63, 127, 127, 127, 0, 1279, 3583, 8191]
theorem headgatelaw21_KeysSteps.tab8 : rtab .any (opsOf Tryd.f4 8) = headgatelaw21_KeysSteps.T8 := by kernel_rfl
theorem headgatelaw21_KeysSteps.bits8 : waitsOk headgatelaw21_KeysSteps.T8.2 headgatelaw21_KeysSteps.B8 = true := by kernel_rfl
def headgatelaw21_KeysSteps.T9 : Bool × List (List Nat × List Nat) := (true, [([], []), ([0], [0]), ([1], [1]), ([2], [2]), ([3, 2], [2, 3]), ([2, 4], [2, 4]), ([5, 2], [5]), ([6], [6]), ([7, 6, 6], [6, 7]), ([6], [6]), ([9, 8, 6], [6, 9]), ([8, 10, 10, 6], [6, 8, 10]), ([11, 6], [6, 11]), ([6, 12], [6, 12])])
def headgatelaw21_KeysSteps.B9 : List Nat := [0, 1, 3, 7, 15, 31, 63, 127, 255, 127, 1023, 2047, 4095, 8191]
theorem headgatelaw21_KeysSteps.tab9 : rtab .any (opsOf Tryd.f4 9) = headgatelaw21_KeysSteps.T9 := by kernel_rfl
theorem headgatelaw21_KeysSteps.bits9 : waitsOk headgatelaw21_KeysSteps.T9.2 headgatelaw21_KeysSteps.B9 = true := by kernel_rfl
abbrev d4x0 : Array Bool := #[false, false, false, false, false, false, false, false, false, false, false, false, false, false]
abbrev d4x1 : Array Bool := dB 14 2
abbrev d4x2 : Array Bool := dB 14 6
abbrev d4x3 : Array Bool := dB 14 14
abbrev d4x4 : Array Bool := dB 14 1038
abbrev d4x5 : Array Bool := dB 14 1
abbrev d4x6 : Array Bool := dB 14 3
abbrev d4x7 : Array Bool := dB 14 7
abbrev d4x8 : Array Bool := dB 14 15
abbrev d4x9 : Array Bool := dB 14 1039
abbrev d4x10 : Array Bool := dB 14 31
abbrev d4x11 : Array Bool := dB 14 1055
abbrev d4x12 : Array Bool := dB 14 63
abbrev d4x13 : Array Bool := dB 14 1087
abbrev d4x14 : Array Bool := dB 14 127
abbrev d4x15 : Array Bool := dB 14 1151
abbrev d4x16 : Array Bool := dB 14 255
abbrev d4x17 : Array Bool := dB 14 1279
abbrev d4x18 : Array Bool := dB 14 767
abbrev d4x19 : Array Bool := dB 14 511
abbrev d4x20 : Array Bool := dB 14 1535
abbrev d4x21 : Array Bool := dB 14 1023
abbrev d4x22 : Array Bool := dB 14 2047
abbrev d4x23 : Array Bool := dB 14 4095
abbrev d4x24 : Array Bool := dB 14 8191
abbrev d4x25 : Array Bool := dB 14 16383
set_option maxHeartbeats 8000000 in
set_option maxRecDepth 100000 in
theorem headgatelaw21_KeysSteps.calls (k : Nat) (A0 : Option Addr) (c0 : Nat) (l0 : List (S45)) (a1 : Int) (r : Bool) (w : World) (hr0 : Kd.C k45 w A0 l0.length l0) (hc0 : l0.length ≤ c0) (hG : Glob w) (hT : r = true) (h : headgatelaw21_KeysSteps.f k l0 a1 = some r) :
  Calls Tryd.prog 4 #[.slice A0 l0.length c0, .int .i64 a1] w fun e w' => e = .returned (.bool r) ∧ Below w.heap.size w w' := by
 have hu23 := Tryd.underlying23
 have HT0 := Aside0.mk hT
 clear hT
 have HG := Aside0.mk hG
 clear hG
 have HR0 := Aside0.mk hr0
 have HC0 := Aside0.mk hc0
 clear hr0 hc0
 have HB := Aside0.mk (Below.refl w.heap.size w)
 have H : ((headgatelaw21_Large.f k l0).bind fun t329 => (if t329 = true then ((headgatelaw21_wakes.f).bind fun t330 => (some t330)) else (if (IntKind.u64.wrap (wrap64 ((l0.length : Int) + 1))) = 0 then (none) else ((keys_First.f).bind fun bt331 => ((headgatelaw21_few.f l0).bind fun t339 => ((keys_Answer.f bt331.1 bt331.2.1 bt331.2.2.1 bt331.2.2.2.1 bt331.2.2.2.2.1 bt331.2.2.2.2.2.1 bt331.2.2.2.2.2.2.1 bt331.2.2.2.2.2.2.2 t339).bind fun bt342 => ((keys_First.f).bind fun bt331 => (if 0 ≤ (wrap64 (Int.tmod (IntKind.u64.wrap (a1)) (IntKind.u64.wrap (wrap64 ((l0.length : Int) + 1))))) then (if (wrap64 (Int.tmod (IntKind.u64.wrap (a1)) (IntKind.u64.wrap (wrap64 ((l0.length : Int) + 1))))) ≤ (l0.length : Int) then ((headgatelaw21_few.f (l0.take ((wrap64 (Int.tmod (IntKind.u64.wrap (a1)) (IntKind.u64.wrap (wrap64 ((l0.length : Int) + 1))))) : Int).toNat)).bind fun t359 => ((keys_Answer.f bt331.1 bt331.2.1 bt331.2.2.1 bt331.2.2.2.1 bt331.2.2.2.2.1 bt331.2.2.2.2.2.1 bt331.2.2.2.2.2.2.1 bt331.2.2.2.2.2.2.2 t359).bind fun bt362 => (if bt342.2.2.2.2.2.2.2.2.2 = 0 then ((headgatelaw21_few.f (l0.drop ((wrap64 (Int.tmod (IntKind.u64.wrap (a1)) (IntKind.u64.wrap (wrap64 ((l0.length : Int) + 1))))) : Int).toNat)).bind fun t380 => ((keys_Answer.f bt362.1 bt362.2.1 bt362.2.2.1 bt362.2.2.2.1 bt362.2.2.2.2.1 bt362.2.2.2.2.2.1 bt362.2.2.2.2.2.2.1 bt362.2.2.2.2.2.2.2.1 t380).bind fun bt383 => (if bt362.2.2.2.2.2.2.2.2.2 = 0 then (if bt383.2.2.2.2.2.2.2.2.2 = 0 then ((headgatelaw21_Own.f bt342.1 bt342.2.1 bt342.2.2.1 bt342.2.2.2.1 bt342.2.2.2.2.1 bt342.2.2.2.2.2.1 bt342.2.2.2.2.2.2.1 bt342.2.2.2.2.2.2.2.1).bind fun bt396 => ((headgatelaw21_Own.f bt383.1 bt383.2.1 bt383.2.2.1 bt383.2.2.2.1 bt383.2.2.2.2.1 bt383.2.2.2.2.2.1 bt383.2.2.2.2.2.2.1 bt383.2.2.2.2.2.2.2.1).bind fun bt404 => ((headgateref21_Same.f bt396.1 bt396.2.1 bt396.2.2.1 bt396.2.2.2.1 bt396.2.2.2.2.1 bt396.2.2.2.2.2.1 bt396.2.2.2.2.2.2.1 bt396.2.2.2.2.2.2.2 bt404.1 bt404.2.1 bt404.2.2.1 bt404.2.2.2.1 bt404.2.2.2.2.1 bt404.2.2.2.2.2.1 bt404.2.2.2.2.2.2.1 bt404.2.2.2.2.2.2.2).bind fun t412 => (headgatelaw21_KeysSteps.j0 k bt342.2.2.2.2.2.2.2.2.1 bt362.2.2.2.2.2.2.2.2.1 bt383.2.2.2.2.2.2.2.2.1 (!t412) bt342.1 bt342.2.1 bt342.2.2.1 bt342.2.2.2.1 bt342.2.2.2.2.1 bt342.2.2.2.2.2.1 bt342.2.2.2.2.2.2.1 bt342.2.2.2.2.2.2.2.1)))) else (headgatelaw21_KeysSteps.j0 k bt342.2.2.2.2.2.2.2.2.1 bt362.2.2.2.2.2.2.2.2.1 bt383.2.2.2.2.2.2.2.2.1 true bt342.1 bt342.2.1 bt342.2.2.1 bt342.2.2.2.1 bt342.2.2.2.2.1 bt342.2.2.2.2.2.1 bt342.2.2.2.2.2.2.1 bt342.2.2.2.2.2.2.2.1)) else (headgatelaw21_KeysSteps.j0 k bt342.2.2.2.2.2.2.2.2.1 bt362.2.2.2.2.2.2.2.2.1 bt383.2.2.2.2.2.2.2.2.1 true bt342.1 bt342.2.1 bt342.2.2.1 bt342.2.2.2.1 bt342.2.2.2.2.1 bt342.2.2.2.2.2.1 bt342.2.2.2.2.2.2.1 bt342.2.2.2.2.2.2.2.1)))) else (if bt342.2.2.2.2.2.2.2.2.2 = 210 then (if (bt342.2.2.2.2.2.2.2.2.1.length : Int) = 0 then ((headgatelaw21_wakes.f).bind fun t375 => (some t375)) else (some false)) else (some false))))) else (none)) else (none))))))))) = some r := h
 clear h
 replace H := Option.bind_eq_some_iff.mp H
 obtain ⟨t329, A30, H⟩ := H
 try dsimp only at H
 have A3 := Aside0.mk A30
 clear A30
 by_cases c4 : t329 = true
 ·subst c4
  have H1 := H
  rw [if_pos rfl] at H1
  clear H
  have H := H1
  clear H1
  replace H := Option.bind_eq_some_iff.mp H
  obtain ⟨t330, A50, H⟩ := H
  try dsimp only at H
  have A5 := Aside0.mk A50
  clear A50
  obtain rfl := Option.some.inj H
  go_enter Tryd.func4, Tryd.ntmps4
  go_wp2_with (first | ((with_reducible refine gate_callee (f := 8) rfl ?_); refine goesL_ (some 16) rfl rfl Tryd.func8 (by kernel_rfl) rfl #[.slice A0 l0.length c0] rfl (by (try simp only [List.map_toArray, List.map_cons, List.map_nil]); first | done | rfl | (simp only [List.length_drop, List.length_take]; rfl)) ?_; (with_reducible refine (headgatelaw21_Large.calls k _ _ l0 true _ ?side1 ?side2 A3.out).mono ?_); (case side1 => repeat (first | exact HR0.out | (with_reducible refine Kd.C_alloc ?_ _) | (with_reducible refine Kd.C_drewN ?_ _) | (with_reducible refine Kd.C_drew ?_))); (case side2 => exact HC0.out); rintro e w' ⟨rfl, ⟨nd, rfl⟩⟩; refine ⟨_, rfl, ?_⟩) | ((with_reducible refine gate_callee (f := 9) rfl ?_); refine goesL_ (some 17) rfl rfl Tryd.func9 (by kernel_rfl) rfl #[] rfl (by (try simp only [List.map_toArray, List.map_cons, List.map_nil]); first | done | rfl | (simp only [List.length_drop, List.length_take]; rfl)) ?_; (with_reducible refine (headgatelaw21_wakes.calls  t330 _ ?side1 A5.out).mono ?_); (case side1 => first | ((refine Glob.keep HG.out ?_); (repeat (first | (with_reducible first | exact HB.out | apply below_alloc | apply pw_below_drewN | apply below_drew1) | exact HB.out)); done) | exact HG.out); rintro e w6 ⟨rfl, hb⟩; refine ⟨_, rfl, ?_⟩; have n0_ := Aside0.mk (below_step (hb_ HB) hb); clear HB; have HB := n0_; clear n0_; (try clear hb); (try clear hb2); (try clear hk); (try clear hi)))
  go_ret
  exact ⟨by first | rfl | (simp [errW_none, errW_some] <;> rfl) | (simp [*, errW_none, errW_some] <;> rfl) | (simp [bt, *]; done) | (unfold bt; simp [*]; done), by repeat (first | (with_reducible first | exact HB.out | apply below_alloc | apply pw_below_drewN | apply below_drew1) | exact HB.out)⟩
 replace c4 := Bool.eq_false_iff.mpr c4
 subst c4
 have H1 := H
 rw [if_neg (show ¬ (false = true) by decide)] at H1
 clear H
 have H := H1
 clear H1
 by_cases c7 : (IntKind.u64.wrap (wrap64 ((l0.length : Int) + 1))) = 0
 ·rw [if_pos c7] at H
  exact absurd H (by simp)
 rw [if_neg c7] at H
 have c7b0 : ((IntKind.u64.wrap (wrap64 ((l0.length : Int) + 1))) == 0) = false := beq_eq_false_iff_ne.mpr c7
 have c7b1 : ((IntKind.u64.wrap (wrap64 ((l0.length : Int) + 1))) != 0) = true := bne_iff_ne.mpr c7
 replace H := Option.bind_eq_some_iff.mp H
 obtain ⟨⟨t331, t332, t333, t334, t335, t336, t337, t338⟩, A80, H⟩ := H
 try dsimp only at H
 have A8 := Aside0.mk A80
 clear A80
 replace H := Option.bind_eq_some_iff.mp H
 obtain ⟨t339, A90, H⟩ := H
 try dsimp only at H
 have A9 := Aside0.mk A90
 clear A90
 replace H := Option.bind_eq_some_iff.mp H
 obtain ⟨⟨t342, t343, t344, t345, t346, t347, t348, t349, t350, t353⟩, A100, H⟩ := H
 try dsimp only at H
 have A10 := Aside0.mk A100
 clear A100
 replace H := Option.bind_eq_some_iff.mp H
 obtain ⟨⟨t331, t332, t333, t334, t335, t336, t337, t338⟩, A110, H⟩ := H
 have e_ := A110.symm.trans A8.out
 simp only [Option.some.injEq, Prod.mk.injEq] at e_
 obtain ⟨rfl, rfl, rfl, rfl, rfl, rfl, rfl, rfl⟩ := e_
 try dsimp only at H
 have A11 := Aside0.mk A110
 clear A110
 obtain ⟨ji12, hji12⟩ : ∃ j_ : Int, (wrap64 (Int.tmod (IntKind.u64.wrap (a1)) (IntKind.u64.wrap (wrap64 ((l0.length : Int) + 1))))) = j_ := ⟨_, rfl⟩
 replace H : (if 0 ≤ (ji12) then (if (ji12) ≤ (l0.length : Int) then ((headgatelaw21_few.f (l0.take ((ji12) : Int).toNat)).bind fun t359 => ((keys_Answer.f t331 t332 t333 t334 t335 t336 t337 t338 t359).bind fun bt362 => (if t353 = 0 then ((headgatelaw21_few.f (l0.drop ((ji12) : Int).toNat)).bind fun t380 => ((keys_Answer.f bt362.1 bt362.2.1 bt362.2.2.1 bt362.2.2.2.1 bt362.2.2.2.2.1 bt362.2.2.2.2.2.1 bt362.2.2.2.2.2.2.1 bt362.2.2.2.2.2.2.2.1 t380).bind fun bt383 => (if bt362.2.2.2.2.2.2.2.2.2 = 0 then (if bt383.2.2.2.2.2.2.2.2.2 = 0 then ((headgatelaw21_Own.f t342 t343 t344 t345 t346 t347 t348 t349).bind fun bt396 => ((headgatelaw21_Own.f bt383.1 bt383.2.1 bt383.2.2.1 bt383.2.2.2.1 bt383.2.2.2.2.1 bt383.2.2.2.2.2.1 bt383.2.2.2.2.2.2.1 bt383.2.2.2.2.2.2.2.1).bind fun bt404 => ((headgateref21_Same.f bt396.1 bt396.2.1 bt396.2.2.1 bt396.2.2.2.1 bt396.2.2.2.2.1 bt396.2.2.2.2.2.1 bt396.2.2.2.2.2.2.1 bt396.2.2.2.2.2.2.2 bt404.1 bt404.2.1 bt404.2.2.1 bt404.2.2.2.1 bt404.2.2.2.2.1 bt404.2.2.2.2.2.1 bt404.2.2.2.2.2.2.1 bt404.2.2.2.2.2.2.2).bind fun t412 => (headgatelaw21_KeysSteps.j0 k t350 bt362.2.2.2.2.2.2.2.2.1 bt383.2.2.2.2.2.2.2.2.1 (!t412) t342 t343 t344 t345 t346 t347 t348 t349)))) else (headgatelaw21_KeysSteps.j0 k t350 bt362.2.2.2.2.2.2.2.2.1 bt383.2.2.2.2.2.2.2.2.1 true t342 t343 t344 t345 t346 t347 t348 t349)) else (headgatelaw21_KeysSteps.j0 k t350 bt362.2.2.2.2.2.2.2.2.1 bt383.2.2.2.2.2.2.2.2.1 true t342 t343 t344 t345 t346 t347 t348 t349)))) else (if t353 = 210 then (if (t350.length : Int) = 0 then ((headgatelaw21_wakes.f).bind fun t375 => (some t375)) else (some false)) else (some false))))) else (none)) else (none)) = some r := by first | (rw [hji12] at H; exact H) | (simp only [hji12] at H ⊢; exact H)
 (try rw [hji12] at A3)
 (try rw [hji12] at A8)
 (try rw [hji12] at A9)
 (try rw [hji12] at A10)
 (try rw [hji12] at A11)
 have hji12w : (IntKind.i64.wrap (Int.tmod (IntKind.u64.wrap (a1)) (IntKind.u64.wrap (wrap64 ((l0.length : Int) + 1))))) = ji12 := (i64_w _).trans hji12
 refine neg_first (p := (0 ≤ (ji12))) (fun c13 => ?_) (fun c13 => ?_)
 ·rw [if_neg c13] at H
  exact absurd H (by simp)

 rw [if_pos c13] at H
 have c13b0 := eq_true c13
 have c13b1 : decide (0 ≤ (ji12)) = true := decide_eq_true c13
 clear c13
 refine neg_first (p := ((ji12) ≤ (l0.length : Int))) (fun c14 => ?_) (fun c14 => ?_)
 ·rw [if_neg c14] at H
  exact absurd H (by simp)
 rw [if_pos c14] at H
 have c14b0 := eq_true c14
 have c14b1 : decide ((ji12) ≤ (l0.length : Int)) = true := decide_eq_true c14
 clear c14
 obtain ⟨y355, hy355⟩ : ∃ y_ : List (S45), y_ = (l0.take ((ji12) : Int).toNat) := ⟨_, rfl⟩
 replace H : ((headgatelaw21_few.f y355).bind fun t359 => ((keys_Answer.f t331 t332 t333 t334 t335 t336 t337 t338 t359).bind fun bt362 => (if t353 = 0 then ((headgatelaw21_few.f (l0.drop ((ji12) : Int).toNat)).bind fun t380 => ((keys_Answer.f bt362.1 bt362.2.1 bt362.2.2.1 bt362.2.2.2.1 bt362.2.2.2.2.1 bt362.2.2.2.2.2.1 bt362.2.2.2.2.2.2.1 bt362.2.2.2.2.2.2.2.1 t380).bind fun bt383 => (if bt362.2.2.2.2.2.2.2.2.2 = 0 then (if bt383.2.2.2.2.2.2.2.2.2 = 0 then ((headgatelaw21_Own.f t342 t343 t344 t345 t346 t347 t348 t349).bind fun bt396 => ((headgatelaw21_Own.f bt383.1 bt383.2.1 bt383.2.2.1 bt383.2.2.2.1 bt383.2.2.2.2.1 bt383.2.2.2.2.2.1 bt383.2.2.2.2.2.2.1 bt383.2.2.2.2.2.2.2.1).bind fun bt404 => ((headgateref21_Same.f bt396.1 bt396.2.1 bt396.2.2.1 bt396.2.2.2.1 bt396.2.2.2.2.1 bt396.2.2.2.2.2.1 bt396.2.2.2.2.2.2.1 bt396.2.2.2.2.2.2.2 bt404.1 bt404.2.1 bt404.2.2.1 bt404.2.2.2.1 bt404.2.2.2.2.1 bt404.2.2.2.2.2.1 bt404.2.2.2.2.2.2.1 bt404.2.2.2.2.2.2.2).bind fun t412 => (headgatelaw21_KeysSteps.j0 k t350 bt362.2.2.2.2.2.2.2.2.1 bt383.2.2.2.2.2.2.2.2.1 (!t412) t342 t343 t344 t345 t346 t347 t348 t349)))) else (headgatelaw21_KeysSteps.j0 k t350 bt362.2.2.2.2.2.2.2.2.1 bt383.2.2.2.2.2.2.2.2.1 true t342 t343 t344 t345 t346 t347 t348 t349)) else (headgatelaw21_KeysSteps.j0 k t350 bt362.2.2.2.2.2.2.2.2.1 bt383.2.2.2.2.2.2.2.2.1 true t342 t343 t344 t345 t346 t347 t348 t349)))) else (if t353 = 210 then (if (t350.length : Int) = 0 then ((headgatelaw21_wakes.f).bind fun t375 => (some t375)) else (some false)) else (some false))))) = some r := by first | (rw [hy355]; with_reducible exact H) | (have H2_ := (Option.bind_some _ _).symm.trans H; rw [hy355]; with_reducible exact H2_) | (have H2_ := (Option.bind_some _ _).symm.trans H; with_reducible exact H2_) | with_reducible exact H | (rw [hy355]; exact H) | exact H
 have Ny355 := Aside0.mk hy355
 clear hy355
 replace H := Option.bind_eq_some_iff.mp H
 obtain ⟨t359, A150, H⟩ := H
 try dsimp only at H
 have A15 := Aside0.mk A150
 clear A150
 replace H := Option.bind_eq_some_iff.mp H
 obtain ⟨⟨t362, t363, t364, t365, t366, t367, t368, t369, t370, t373⟩, A160, H⟩ := H
 try dsimp only at H
 have A16 := Aside0.mk A160
 clear A160
 refine neg_first (p := (t353 = 0)) (fun c17 => ?_) (fun c17 => ?_)
 ·rw [if_neg c17] at H
  have c17b0 : (t353 == 0) = false := beq_eq_false_iff_ne.mpr c17
  have c17b1 : (t353 != 0) = true := bne_iff_ne.mpr c17
  refine neg_first (p := (t353 = 210)) (fun c97 => ?_) (fun c97 => ?_)
  ·rw [if_neg c97] at H
   have c97b0 : (t353 == 210) = false := beq_eq_false_iff_ne.mpr c97
   have c97b1 : (t353 != 210) = true := bne_iff_ne.mpr c97
   exact absurd ((Option.some.inj H).trans HT0.out) (by decide)
  rw [if_pos c97] at H
  have c97b0 : (t353 == 210) = true := beq_iff_eq.mpr c97
  have c97b1 : (t353 != 210) = false := bne_eq_false_iff_eq.mpr c97
  clear c97
  refine neg_first (p := ((t350.length : Int) = 0)) (fun c98 => ?_) (fun c98 => ?_)
  ·rw [if_neg c98] at H
   have c98b0 : ((t350.length : Int) == 0) = false := beq_eq_false_iff_ne.mpr c98
   have c98b1 : ((t350.length : Int) != 0) = true := bne_iff_ne.mpr c98
   have c98b2 : ¬ (t350 = []) := fun h_ => c98 (by rw [h_]; rfl)
   exact absurd ((Option.some.inj H).trans HT0.out) (by decide)
  rw [if_pos c98] at H
  have c98b0 : ((t350.length : Int) == 0) = true := beq_iff_eq.mpr c98
  have c98b1 : ((t350.length : Int) != 0) = false := bne_eq_false_iff_eq.mpr c98
  clear c98
  replace H := Option.bind_eq_some_iff.mp H
  obtain ⟨t375, A990, H⟩ := H
  try dsimp only at H
  have A99 := Aside0.mk A990
  clear A990
  obtain rfl := Option.some.inj H
  go_enter Tryd.func4, Tryd.ntmps4
  try go_wp2_with (first | ((with_reducible refine gate_callee (f := 8) rfl ?_); refine goesL_ (some 16) rfl rfl Tryd.func8 (by kernel_rfl) rfl #[.slice A0 l0.length c0] rfl (by (try simp only [List.map_toArray, List.map_cons, List.map_nil]); first | done | rfl | (simp only [List.length_drop, List.length_take]; rfl)) ?_; (with_reducible refine (headgatelaw21_Large.calls k _ _ l0 false _ ?side1 ?side2 A3.out).mono ?_); (case side1 => repeat (first | exact HR0.out | (with_reducible refine Kd.C_alloc ?_ _) | (with_reducible refine Kd.C_drewN ?_ _) | (with_reducible refine Kd.C_drew ?_))); (case side2 => exact HC0.out); rintro e w' ⟨rfl, ⟨nd, rfl⟩⟩; refine ⟨_, rfl, ?_⟩) | ((with_reducible refine gate_callee (f := 16) rfl ?_); refine goesL_ (some 27) rfl rfl Tryd.func16 (by kernel_rfl) rfl #[] rfl (by (try simp only [List.map_toArray, List.map_cons, List.map_nil]); first | done | rfl | (simp only [List.length_drop, List.length_take]; rfl)) ?_; (with_reducible refine (keys_First.calls  t331 t332 t333 t334 t335 t336 t337 t338 _ A8.out).mono ?_); rintro e w100 ⟨rfl, hb⟩; refine ⟨_, rfl, ?_⟩; have n0_ := Aside0.mk (below_step (hb_ HB) hb); clear HB; have HB := n0_; clear n0_; (try clear hb); (try clear hb2); (try clear hk); (try clear hi)) | ((with_reducible refine gate_callee (f := 10) rfl ?_); refine goesL_ (some 29) rfl rfl Tryd.func10 (by kernel_rfl) rfl #[.slice A0 l0.length c0] rfl (by (try simp only [List.map_toArray, List.map_cons, List.map_nil]); first | done | rfl | (simp only [List.length_drop, List.length_take]; rfl)) ?_; (with_reducible refine (headgatelaw21_few.calls _ _ l0 t339 _ ?side1 ?side2 A9.out).mono ?_); (case side1 => repeat (first | exact (Kd.C_below HR0.out HB.out) | (with_reducible refine Kd.C_alloc ?_ _) | (with_reducible refine Kd.C_drewN ?_ _) | (with_reducible refine Kd.C_drew ?_))); (case side2 => exact HC0.out); rintro e w101 ⟨v340, rfl, ho0, hb⟩; refine ⟨_, rfl, ?_⟩; have n0_ := Aside0.mk (Kd.R_lower ho0 (below_size (hb_ HB))); have n1_ := Aside0.mk (below_step (hb_ HB) hb); clear HB; have HO341 := n0_; have HB := n1_; clear n0_ n1_; (try clear hb); (try clear hb2); (try clear hk); (try clear hi); (try clear ho0); obtain ⟨Ao102, co102, eo102⟩ := Kd.R_slice HO341.out; subst eo102) | ((with_reducible refine gate_callee (f := 11) rfl ?_); refine goesL_ (some 30) rfl rfl Tryd.func11 (by kernel_rfl) rfl #[.agg #[.bool t331, .bool t332, .bool t333, .bool t334, .int .i64 t335, .int .i64 t336, .string t337, .string t338], .slice Ao102 t339.length co102] rfl (by (try simp only [List.map_toArray, List.map_cons, List.map_nil]); first | done | rfl | (simp only [List.length_drop, List.length_take]; rfl)) ?_; (with_reducible refine (keys_Answer.calls t331 t332 t333 t334 t335 t336 t337 t338 _ _ t339 t342 t343 t344 t345 t346 t347 t348 t349 t350 t353 _ ?side1 ?side2 ?side3 A10.out).mono ?_); (case side1 => repeat (first | exact (Kd.R_reads' HO341.out).2.2 | (with_reducible refine Kd.C_alloc ?_ _) | (with_reducible refine Kd.C_drewN ?_ _) | (with_reducible refine Kd.C_drew ?_))); (case side2 => exact (Kd.R_reads' HO341.out).2.1); (case side3 => first | ((refine Glob.keep HG.out ?_); (repeat (first | (with_reducible first | exact HB.out | apply below_alloc | apply pw_below_drewN | apply below_drew1) | exact HB.out)); done) | exact HG.out); rintro e w103 ⟨v351, rfl, ho0, hb⟩; refine ⟨_, rfl, ?_⟩; have n0_ := Aside0.mk (Kd.R_elder' (by (with_reducible repeat (first | apply Kd.R_alloc | apply Kd.R_drewN | apply Kd.R_drew)); exact HO341.out) (Kd.R_base ho0) hb); have n1_ := Aside0.mk (Kd.R_lower (Kd.R_new' ho0 (Kd.R_lt (by (with_reducible repeat (first | apply Kd.R_alloc | apply Kd.R_drewN | apply Kd.R_drew)); exact HO341.out))) (below_size (hb_ HB))); have n2_ := Aside0.mk (below_step (hb_ HB) hb); clear HO341; clear HB; have HO341 := n0_; have HO352 := n1_; have HB := n2_; clear n0_ n1_ n2_; (try clear hb); (try clear hb2); (try clear hk); (try clear hi); (try clear ho0)) | ((with_reducible refine gate_dst (N := 6) rfl ?_); (try (refine gate_guard (by rfl) ?_; dsimp only)); refine box_event ?hg (N := 6) ?hd (cs := #[.bool false, .bool false, .bool false, .bool false, .int .i64 0, .int .i64 0, .string (⟨#[]⟩ : ByteArray), .string (⟨#[]⟩ : ByteArray)]) (t := 23) ?hr ?_; (case hd => rfl); (case hg => rfl); (case hr => first | (go_simp; done) | (go_simp; rfl)); intro gb354 hg w104 hbox hb; have n0_ := Aside0.mk (Kd.R_below (by (with_reducible repeat (first | apply Kd.R_alloc | apply Kd.R_drewN | apply Kd.R_drew)); exact HO341.out) hb); have n1_ := Aside0.mk (Kd.R_below (by (with_reducible repeat (first | apply Kd.R_alloc | apply Kd.R_drewN | apply Kd.R_drew)); exact HO352.out) hb); have n2_ := Aside0.mk (below_step (hb_ HB) hb); have n3_ := Aside0.mk (hbox); have n4_ := Aside0.mk ((by rw [hg]; exact (below_size (hb_ HB)) : w.heap.size ≤ gb354)); have n5_ := Aside0.mk ((by rw [hg]; exact (below_size (hb_ HB)) : w.heap.size ≤ gb354)); clear HO341; clear HO352; clear HB; have HO341 := n0_; have HO352 := n1_; have HB := n2_; have BK354 := n3_; have GW354 := n4_; have GE354 := n5_; clear n0_ n1_ n2_ n3_ n4_ n5_; clear hb hbox hg; have hcz105_0 : w104.cell? ⟨gb354, 0, none⟩ = some (.bool false) := (blk_cell BK354.out 0).trans rfl; have hcz105_1 : w104.cell? ⟨gb354, 1, none⟩ = some (.bool false) := (blk_cell BK354.out 1).trans rfl; have hcz105_2 : w104.cell? ⟨gb354, 2, none⟩ = some (.bool false) := (blk_cell BK354.out 2).trans rfl; have hcz105_3 : w104.cell? ⟨gb354, 3, none⟩ = some (.bool false) := (blk_cell BK354.out 3).trans rfl; have hcz105_4 : w104.cell? ⟨gb354, 4, none⟩ = some (.int .i64 0) := (blk_cell BK354.out 4).trans rfl; have hcz105_5 : w104.cell? ⟨gb354, 5, none⟩ = some (.int .i64 0) := (blk_cell BK354.out 5).trans rfl; have hcz105_6 : w104.cell? ⟨gb354, 6, none⟩ = some (.string (⟨#[]⟩ : ByteArray)) := (blk_cell BK354.out 6).trans rfl; have hcz105_7 : w104.cell? ⟨gb354, 7, none⟩ = some (.string (⟨#[]⟩ : ByteArray)) := (blk_cell BK354.out 7).trans rfl; have hfz105_0 := blk_frozen BK354.out 0; have hfz105_1 := blk_frozen BK354.out 1; have hfz105_2 := blk_frozen BK354.out 2; have hfz105_3 := blk_frozen BK354.out 3; have hfz105_4 := blk_frozen BK354.out 4; have hfz105_5 := blk_frozen BK354.out 5; have hfz105_6 := blk_frozen BK354.out 6; have hfz105_7 := blk_frozen BK354.out 7))
  have n0_ : Aside0 (Kd.R k45 45 ((((((((w104.setCell ⟨gb354, 0, none⟩ (.bool t342)).setCell ⟨gb354, 1, none⟩ (.bool t343)).setCell ⟨gb354, 2, none⟩ (.bool t344)).setCell ⟨gb354, 3, none⟩ (.bool t345)).setCell ⟨gb354, 4, none⟩ (.int .i64 t346)).setCell ⟨gb354, 5, none⟩ (.int .i64 t347)).setCell ⟨gb354, 6, none⟩ (.string t348)).setCell ⟨gb354, 7, none⟩ (.string t349)) w.heap.size (fun k_ => some k_ ≠ (v351 : Value).ownBlock) (.slice Ao102 t339.length co102) t339) := ⟨by (with_reducible repeat (first | apply Kd.R_alloc | apply Kd.R_drewN | apply Kd.R_drew)); exact Kd.R_mono (Kd.R_far (p := ⟨gb354, 7, none⟩) (Kd.R_far (p := ⟨gb354, 6, none⟩) (Kd.R_far (p := ⟨gb354, 5, none⟩) (Kd.R_far (p := ⟨gb354, 4, none⟩) (Kd.R_far (p := ⟨gb354, 3, none⟩) (Kd.R_far (p := ⟨gb354, 2, none⟩) (Kd.R_far (p := ⟨gb354, 1, none⟩) (Kd.R_far (p := ⟨gb354, 0, none⟩) (Kd.R_types HO341.out BK354.out (by decide)) (fun _ hk => hk.2) (.bool t342)) (fun _ hk => hk.2) (.bool t343)) (fun _ hk => hk.2) (.bool t344)) (fun _ hk => hk.2) (.bool t345)) (fun _ hk => hk.2) (.int .i64 t346)) (fun _ hk => hk.2) (.int .i64 t347)) (fun _ hk => hk.2) (.string t348)) (fun _ hk => hk.2) (.string t349)) (fun _ hk => hk.1.2)⟩
  have n1_ : Aside0 (Kd.R k45 45 ((((((((w104.setCell ⟨gb354, 0, none⟩ (.bool t342)).setCell ⟨gb354, 1, none⟩ (.bool t343)).setCell ⟨gb354, 2, none⟩ (.bool t344)).setCell ⟨gb354, 3, none⟩ (.bool t345)).setCell ⟨gb354, 4, none⟩ (.int .i64 t346)).setCell ⟨gb354, 5, none⟩ (.int .i64 t347)).setCell ⟨gb354, 6, none⟩ (.string t348)).setCell ⟨gb354, 7, none⟩ (.string t349)) w.heap.size (fun k_ => some k_ ≠ (.slice Ao102 t339.length co102 : Value).ownBlock) v351 t350) := ⟨by (with_reducible repeat (first | apply Kd.R_alloc | apply Kd.R_drewN | apply Kd.R_drew)); exact Kd.R_mono (Kd.R_far (p := ⟨gb354, 7, none⟩) (Kd.R_far (p := ⟨gb354, 6, none⟩) (Kd.R_far (p := ⟨gb354, 5, none⟩) (Kd.R_far (p := ⟨gb354, 4, none⟩) (Kd.R_far (p := ⟨gb354, 3, none⟩) (Kd.R_far (p := ⟨gb354, 2, none⟩) (Kd.R_far (p := ⟨gb354, 1, none⟩) (Kd.R_far (p := ⟨gb354, 0, none⟩) (Kd.R_types HO352.out BK354.out (by decide)) (fun _ hk => hk.2) (.bool t342)) (fun _ hk => hk.2) (.bool t343)) (fun _ hk => hk.2) (.bool t344)) (fun _ hk => hk.2) (.bool t345)) (fun _ hk => hk.2) (.int .i64 t346)) (fun _ hk => hk.2) (.int .i64 t347)) (fun _ hk => hk.2) (.string t348)) (fun _ hk => hk.2) (.string t349)) (fun _ hk => hk.1.2)⟩
  have n2_ : Aside0 (((((((((w104.setCell ⟨gb354, 0, none⟩ (.bool t342)).setCell ⟨gb354, 1, none⟩ (.bool t343)).setCell ⟨gb354, 2, none⟩ (.bool t344)).setCell ⟨gb354, 3, none⟩ (.bool t345)).setCell ⟨gb354, 4, none⟩ (.int .i64 t346)).setCell ⟨gb354, 5, none⟩ (.int .i64 t347)).setCell ⟨gb354, 6, none⟩ (.string t348)).setCell ⟨gb354, 7, none⟩ (.string t349)).heap[gb354]? = some (.cells #[.bool t342, .bool t343, .bool t344, .bool t345, .int .i64 t346, .int .i64 t347, .string t348, .string t349] 23 (0, 0))) := ⟨by (with_reducible repeat (first | refine blk_drewN ?_ _ | refine blk_drew ?_ | refine blk_alloc ?_ _)); refine blk_put (cs := #[.bool t342, .bool t343, .bool t344, .bool t345, .int .i64 t346, .int .i64 t347, .string t348, .string (⟨#[]⟩ : ByteArray)]) ?_ 7 _ rfl; (with_reducible repeat (first | refine blk_drewN ?_ _ | refine blk_drew ?_ | refine blk_alloc ?_ _)); refine blk_put (cs := #[.bool t342, .bool t343, .bool t344, .bool t345, .int .i64 t346, .int .i64 t347, .string (⟨#[]⟩ : ByteArray), .string (⟨#[]⟩ : ByteArray)]) ?_ 6 _ rfl; (with_reducible repeat (first | refine blk_drewN ?_ _ | refine blk_drew ?_ | refine blk_alloc ?_ _)); refine blk_put (cs := #[.bool t342, .bool t343, .bool t344, .bool t345, .int .i64 t346, .int .i64 0, .string (⟨#[]⟩ : ByteArray), .string (⟨#[]⟩ : ByteArray)]) ?_ 5 _ rfl; (with_reducible repeat (first | refine blk_drewN ?_ _ | refine blk_drew ?_ | refine blk_alloc ?_ _)); refine blk_put (cs := #[.bool t342, .bool t343, .bool t344, .bool t345, .int .i64 0, .int .i64 0, .string (⟨#[]⟩ : ByteArray), .string (⟨#[]⟩ : ByteArray)]) ?_ 4 _ rfl; (with_reducible repeat (first | refine blk_drewN ?_ _ | refine blk_drew ?_ | refine blk_alloc ?_ _)); refine blk_put (cs := #[.bool t342, .bool t343, .bool t344, .bool false, .int .i64 0, .int .i64 0, .string (⟨#[]⟩ : ByteArray), .string (⟨#[]⟩ : ByteArray)]) ?_ 3 _ rfl; (with_reducible repeat (first | refine blk_drewN ?_ _ | refine blk_drew ?_ | refine blk_alloc ?_ _)); refine blk_put (cs := #[.bool t342, .bool t343, .bool false, .bool false, .int .i64 0, .int .i64 0, .string (⟨#[]⟩ : ByteArray), .string (⟨#[]⟩ : ByteArray)]) ?_ 2 _ rfl; (with_reducible repeat (first | refine blk_drewN ?_ _ | refine blk_drew ?_ | refine blk_alloc ?_ _)); refine blk_put (cs := #[.bool t342, .bool false, .bool false, .bool false, .int .i64 0, .int .i64 0, .string (⟨#[]⟩ : ByteArray), .string (⟨#[]⟩ : ByteArray)]) ?_ 1 _ rfl; (with_reducible repeat (first | refine blk_drewN ?_ _ | refine blk_drew ?_ | refine blk_alloc ?_ _)); refine blk_put (cs := #[.bool false, .bool false, .bool false, .bool false, .int .i64 0, .int .i64 0, .string (⟨#[]⟩ : ByteArray), .string (⟨#[]⟩ : ByteArray)]) ?_ 0 _ rfl; (with_reducible repeat (first | refine blk_drewN ?_ _ | refine blk_drew ?_ | refine blk_alloc ?_ _)); exact BK354.out⟩
  have n3_ : Aside0 (Below w.heap.size w ((((((((w104.setCell ⟨gb354, 0, none⟩ (.bool t342)).setCell ⟨gb354, 1, none⟩ (.bool t343)).setCell ⟨gb354, 2, none⟩ (.bool t344)).setCell ⟨gb354, 3, none⟩ (.bool t345)).setCell ⟨gb354, 4, none⟩ (.int .i64 t346)).setCell ⟨gb354, 5, none⟩ (.int .i64 t347)).setCell ⟨gb354, 6, none⟩ (.string t348)).setCell ⟨gb354, 7, none⟩ (.string t349))) := ⟨hb_ HB⟩
  (try clear HO341)
  (try clear HO352)
  (try clear BK354)
  (try clear HB)
  generalize ((((((((w104.setCell ⟨gb354, 0, none⟩ (.bool t342)).setCell ⟨gb354, 1, none⟩ (.bool t343)).setCell ⟨gb354, 2, none⟩ (.bool t344)).setCell ⟨gb354, 3, none⟩ (.bool t345)).setCell ⟨gb354, 4, none⟩ (.int .i64 t346)).setCell ⟨gb354, 5, none⟩ (.int .i64 t347)).setCell ⟨gb354, 6, none⟩ (.string t348)).setCell ⟨gb354, 7, none⟩ (.string t349)) = w106 at n0_ n1_ n2_ n3_ ⊢
  have HO341 := n0_
  have HO352 := n1_
  have BK354 := n2_
  have HB := n3_
  clear n0_ n1_ n2_ n3_
  have n0_ := Aside0.mk (Kd.R_drew HO341.out)
  have n1_ := Aside0.mk (Kd.R_drew HO352.out)
  have n2_ := Aside0.mk (blk_drew BK354.out)
  have n3_ := Aside0.mk (below_drew1 HB.out)
  clear HO341
  clear HO352
  clear BK354
  clear HB
  have HO341 := n0_
  have HO352 := n1_
  have BK354 := n2_
  have HB := n3_
  clear n0_ n1_ n2_ n3_
  have q108 : ((ji12) : Int) ≤ ((l0.length : Int) : Int) := of_decide_eq_true (by first | (with_reducible assumption) | assumption)
  obtain ⟨i0108, hi0108, _, hsz108, _⟩ := info_parts info45
  have hroom108 : l0.length ≤ c0 := HC0.out
  have hC108 : Kd.C k45 _ A0 l0.length l0 := HR0.out
  have hcut108 := cut_to (P := Tryd.prog) 24 45 .i64 Tryd.underlying24 hi0108 A0 l0.length c0 (ji12) (of_decide_eq_true (by first | (with_reducible assumption) | assumption)) q108 hroom108
  have hr108 := Kd.C_take (m := ((ji12) : Int).toNat) hC108 (by omega)
  have hy108 : y355.length = ((ji12) : Int).toNat := (by rw [Ny355.out, List.length_take]; omega)
  rw [← Ny355.out] at hr108
  rw [← hy108] at hcut108
  have HR358 := Aside0.mk hr108
  have HC358 := Aside0.mk (show y355.length ≤ c0 from by omega)
  clear hr108 hC108 hroom108 hi0108 hsz108
  have KY108 := Aside0.mk hy108
  clear hy108
  replace q108 := eq_true q108
  refine start_ (n := 14) (S := fun w' => True) (ds := []) d4x0 (by kernel_rfl) rfl rfl trivial (fun hHeld => ?_); refine with_tabW headgatelaw21_KeysSteps.tab5 headgatelaw21_KeysSteps.bits5 (fun HT_ HW_ => ?_)
  generalize w106.drew = w107 at HO341 HO352 BK354 HB HR358 hHeld ⊢
  refine pon_ 1 (some 36) d4x1 HT_.out ?_
  refine pon_ 2 (some 37) d4x2 HT_.out ?_
  refine pon_ 3 (some 38) d4x3 HT_.out ?_
  refine join_ (σ := Value × Value × Nat) 3 d4x22 (fun s_ => [(35, .agg #[.bool t331, .bool t332, .bool t333, .bool t334, .int .i64 t335, .int .i64 t336, .string t337, .string t338]), (39, s_.1), (40, .tuple #[.agg #[.bool t362, .bool t363, .bool t364, .bool t365, .int .i64 t366, .int .i64 t367, .string t368, .string t369], s_.2.1, .int .i64 t373]), (9, .pointer (some ⟨s_.2.2, 0, none⟩)), (34, .tuple #[.agg #[.bool t362, .bool t363, .bool t364, .bool t365, .int .i64 t366, .int .i64 t367, .string t368, .string t369], s_.2.1, .int .i64 t373]), (41, .agg #[.bool t362, .bool t363, .bool t364, .bool t365, .int .i64 t366, .int .i64 t367, .string t368, .string t369]), (42, s_.2.1), (43, .int .i64 t373)]) (fun s_ w' => (Kd.R k45 45 w' w.heap.size (fun k_ => some k_ ≠ (v351 : Value).ownBlock ∧ some k_ ≠ (s_.1 : Value).ownBlock ∧ some k_ ≠ (s_.2.1 : Value).ownBlock) (.slice Ao102 t339.length co102) t339) ∧ (Kd.R k45 45 w' w.heap.size (fun k_ => some k_ ≠ (.slice Ao102 t339.length co102 : Value).ownBlock ∧ some k_ ≠ (s_.1 : Value).ownBlock ∧ some k_ ≠ (s_.2.1 : Value).ownBlock) v351 t350) ∧ (Kd.R k45 45 w' w.heap.size (fun k_ => some k_ ≠ (.slice Ao102 t339.length co102 : Value).ownBlock ∧ some k_ ≠ (v351 : Value).ownBlock ∧ some k_ ≠ (s_.2.1 : Value).ownBlock) s_.1 t359) ∧ (Kd.R k45 45 w' w.heap.size (fun k_ => some k_ ≠ (.slice Ao102 t339.length co102 : Value).ownBlock ∧ some k_ ≠ (v351 : Value).ownBlock ∧ some k_ ≠ (s_.1 : Value).ownBlock) s_.2.1 t370) ∧ (w'.heap[gb354]? = some (.cells #[.bool t342, .bool t343, .bool t344, .bool t345, .int .i64 t346, .int .i64 t347, .string t348, .string t349] 23 (0, 0))) ∧ (w'.heap[s_.2.2]? = some (.cells #[.bool false, .bool false, .bool false, .bool false, .int .i64 0, .int .i64 0, .string (⟨#[]⟩ : ByteArray), .string (⟨#[]⟩ : ByteArray)] 23 (0, 0))) ∧ (w.heap.size ≤ s_.2.2) ∧ (w.heap.size ≤ s_.2.2) ∧ (gb354 ≠ s_.2.2) ∧ (s_.2.2 ≠ gb354) ∧ (Below w.heap.size w w')) ?_ ?_
  rotate_left
  ·intro hCont
   refine two_ (i := 0) (j := 10) (Ni := some 35) (Nj := some 9) d4x8 d4x4 rfl rfl rfl rfl (two_of HT_.out (by kernel_rfl)) (by decide) (by decide) (fun K hK => ?_) (fun K hK => ?_)
   ·skip
    refine goes_ Tryd.func16 (by kernel_rfl) rfl #[] (by rfl) rfl rfl (by (try simp only [List.map_toArray, List.map_cons, List.map_nil]); first | done | rfl | (simp only [List.length_drop, List.length_take]; rfl)) ?_
    with_reducible refine (keys_First.calls  t331 t332 t333 t334 t335 t336 t337 t338 _ A11.out).mono ?_
    rintro e w109 ⟨rfl, hb⟩
    refine ⟨_, rfl, ?_⟩
    have n0_ := Aside0.mk (Kd.R_below (by (with_reducible repeat (first | apply Kd.R_alloc | apply Kd.R_drewN | apply Kd.R_drew)); exact HO341.out) hb)
    have n1_ := Aside0.mk (Kd.R_below (by (with_reducible repeat (first | apply Kd.R_alloc | apply Kd.R_drewN | apply Kd.R_drew)); exact HO352.out) hb)
    have n2_ := Aside0.mk (blk_below (bk_ BK354) hb)
    have n3_ := Aside0.mk (below_step (hb_ HB) hb)
    clear HO341
    clear HO352
    clear BK354
    clear HB
    have HO341 := n0_
    have HO352 := n1_
    have BK354 := n2_
    have HB := n3_
    clear n0_ n1_ n2_ n3_
    (try clear hb)
    (try clear hb2)
    (try clear hk)
    (try clear hi)
    refine hK.out _ _ trivial (fun hHeld => ?_)
    clear hK K
    refine norm_ (a' := ?_) ?_ ?_
    rotate_left
    ·show Act.put _ (some 35) _ = _
     simp only [Act.put, la_, lb_, lc_, i64_w, i32_w]
     rfl
    refine two_ (i := 4) (j := 10) (Ni := some 39) (Nj := some 9) d4x10 d4x9 rfl rfl rfl rfl (two_of HT_.out (by kernel_rfl)) (by decide) (by decide) (fun K hK => ?_) (fun K hK => ?_)
    ·skip
     refine goes_ Tryd.func10 (by kernel_rfl) rfl #[.slice A0 y355.length c0] (by rfl) rfl rfl (by (try simp only [List.map_toArray, List.map_cons, List.map_nil]); first | done | rfl | (simp only [List.length_drop, List.length_take]; rfl)) ?_
     with_reducible refine (headgatelaw21_few.calls _ _ y355 t359 _ ?side1 ?side2 A15.out).mono ?_
     (case side1 => repeat (first | exact (Kd.C_below HR358.out HB.out) | (with_reducible refine Kd.C_alloc ?_ _) | (with_reducible refine Kd.C_drewN ?_ _) | (with_reducible refine Kd.C_drew ?_)))
     (case side2 => exact HC358.out)
     rintro e w110 ⟨v360, rfl, ho0, hb⟩
     refine ⟨_, rfl, ?_⟩
     have n0_ := Aside0.mk (Kd.R_elder' (by (with_reducible repeat (first | apply Kd.R_alloc | apply Kd.R_drewN | apply Kd.R_drew)); exact HO341.out) (Kd.R_base ho0) hb)
     have n1_ := Aside0.mk (Kd.R_elder' (by (with_reducible repeat (first | apply Kd.R_alloc | apply Kd.R_drewN | apply Kd.R_drew)); exact HO352.out) (Kd.R_base ho0) hb)
     have n2_ := Aside0.mk (Kd.R_lower (Kd.R_new' (Kd.R_new' ho0 (Kd.R_lt (by (with_reducible repeat (first | apply Kd.R_alloc | apply Kd.R_drewN | apply Kd.R_drew)); exact HO341.out))) (Kd.R_lt (by (with_reducible repeat (first | apply Kd.R_alloc | apply Kd.R_drewN | apply Kd.R_drew)); exact HO352.out))) (below_size (hb_ HB)))
     have n3_ := Aside0.mk (blk_below (bk_ BK354) hb)
     have n4_ := Aside0.mk (below_step (hb_ HB) hb)
     clear HO341
     clear HO352
     clear BK354
     clear HB
     have HO341 := n0_
     have HO352 := n1_
     have HO361 := n2_
     have BK354 := n3_
     have HB := n4_
     clear n0_ n1_ n2_ n3_ n4_
     (try clear hb)
     (try clear hb2)
     (try clear hk)
     (try clear hi)
     (try clear ho0)
     obtain ⟨Ao111, co111, eo111⟩ := Kd.R_slice HO361.out
     (first | subst eo111 | (injection eo111 with f1_ f2_ f3_; have f4_ := f1_.symm; have f5_ := f3_.symm; clear f1_ f2_ f3_; subst f4_; subst f5_))
     refine hK.out _ _ trivial (fun hHeld => ?_)
     clear hK K
     refine norm_ (a' := ?_) ?_ ?_
     rotate_left
     ·show Act.put _ (some 39) _ = _
      simp only [Act.put, la_, lb_, lc_, i64_w, i32_w]
      rfl
     refine two_ (i := 5) (j := 10) (Ni := some 40) (Nj := some 9) d4x12 d4x11 rfl rfl rfl rfl (two_of HT_.out (by kernel_rfl)) (by decide) (by decide) (fun K hK => ?_) (fun K hK => ?_)
     ·skip
      refine goes_ Tryd.func11 (by kernel_rfl) rfl #[.agg #[.bool t331, .bool t332, .bool t333, .bool t334, .int .i64 t335, .int .i64 t336, .string t337, .string t338], .slice Ao111 t359.length co111] (by rfl) rfl rfl (by (try simp only [List.map_toArray, List.map_cons, List.map_nil]); first | done | rfl | (simp only [List.length_drop, List.length_take]; rfl)) ?_
      with_reducible refine (keys_Answer.calls t331 t332 t333 t334 t335 t336 t337 t338 _ _ t359 t362 t363 t364 t365 t366 t367 t368 t369 t370 t373 _ ?side1 ?side2 ?side3 A16.out).mono ?_
      (case side1 => repeat (first | exact (Kd.R_reads' HO361.out).2.2 | (with_reducible refine Kd.C_alloc ?_ _) | (with_reducible refine Kd.C_drewN ?_ _) | (with_reducible refine Kd.C_drew ?_)))
      (case side2 => exact (Kd.R_reads' HO361.out).2.1)
      (case side3 => first | ((refine Glob.keep HG.out ?_); (repeat (first | (with_reducible first | exact HB.out | apply below_alloc | apply pw_below_drewN | apply below_drew1 | refine below_set ?_ GE354.out) | exact HB.out)); done) | exact HG.out)
      rintro e w112 ⟨v371, rfl, ho0, hb⟩
      refine ⟨_, rfl, ?_⟩
      have n0_ := Aside0.mk (Kd.R_elder' (by (with_reducible repeat (first | apply Kd.R_alloc | apply Kd.R_drewN | apply Kd.R_drew)); exact HO341.out) (Kd.R_base ho0) hb)
      have n1_ := Aside0.mk (Kd.R_elder' (by (with_reducible repeat (first | apply Kd.R_alloc | apply Kd.R_drewN | apply Kd.R_drew)); exact HO352.out) (Kd.R_base ho0) hb)
      have n2_ := Aside0.mk (Kd.R_elder' (by (with_reducible repeat (first | apply Kd.R_alloc | apply Kd.R_drewN | apply Kd.R_drew)); exact HO361.out) (Kd.R_base ho0) hb)
      have n3_ := Aside0.mk (Kd.R_lower (Kd.R_new' (Kd.R_new' (Kd.R_new' ho0 (Kd.R_lt (by (with_reducible repeat (first | apply Kd.R_alloc | apply Kd.R_drewN | apply Kd.R_drew)); exact HO341.out))) (Kd.R_lt (by (with_reducible repeat (first | apply Kd.R_alloc | apply Kd.R_drewN | apply Kd.R_drew)); exact HO352.out))) (Kd.R_lt (by (with_reducible repeat (first | apply Kd.R_alloc | apply Kd.R_drewN | apply Kd.R_drew)); exact HO361.out))) (below_size (hb_ HB)))
      have n4_ := Aside0.mk (blk_below (bk_ BK354) hb)
      have n5_ := Aside0.mk (below_step (hb_ HB) hb)
      clear HO341
      clear HO352
      clear HO361
      clear BK354
      clear HB
      have HO341 := n0_
      have HO352 := n1_
      have HO361 := n2_
      have HO372 := n3_
      have BK354 := n4_
      have HB := n5_
      clear n0_ n1_ n2_ n3_ n4_ n5_
      (try clear hb)
      (try clear hb2)
      (try clear hk)
      (try clear hi)
      (try clear ho0)
      refine hK.out _ _ trivial (fun hHeld => ?_)
      clear hK K
      refine norm_ (a' := ?_) ?_ ?_
      rotate_left
      ·show Act.put _ (some 40) _ = _
       simp only [Act.put, la_, lb_, lc_, i64_w, i32_w]
       rfl
      refine pon_ 6 (some 34) d4x14 HT_.out ?_
      refine pon_ 7 (some 41) d4x16 HT_.out ?_
      refine pon_ 8 (some 42) d4x19 HT_.out ?_
      refine pon_ 9 (some 43) d4x21 HT_.out ?_
      refine one_ (i := 10) (N := some 9) d4x22 rfl rfl (one_of HT_.out (by kernel_rfl)) (by decide) (fun K hK => ?_)
      refine box_step ?hg (N := 9) ?hd (cs := #[.bool false, .bool false, .bool false, .bool false, .int .i64 0, .int .i64 0, .string (⟨#[]⟩ : ByteArray), .string (⟨#[]⟩ : ByteArray)]) (t := 23) ?hr ?_; (case hd => rfl); (case hg => rfl); (case hr => first | (go_simp; done) | (go_simp; rfl))
      intro gb374 hg w113 hbox hb
      have n0_ := Aside0.mk (Kd.R_below (by (with_reducible repeat (first | apply Kd.R_alloc | apply Kd.R_drewN | apply Kd.R_drew)); exact HO341.out) hb)
      have n1_ := Aside0.mk (Kd.R_below (by (with_reducible repeat (first | apply Kd.R_alloc | apply Kd.R_drewN | apply Kd.R_drew)); exact HO352.out) hb)
      have n2_ := Aside0.mk (Kd.R_below (by (with_reducible repeat (first | apply Kd.R_alloc | apply Kd.R_drewN | apply Kd.R_drew)); exact HO361.out) hb)
      have n3_ := Aside0.mk (Kd.R_below (by (with_reducible repeat (first | apply Kd.R_alloc | apply Kd.R_drewN | apply Kd.R_drew)); exact HO372.out) hb)
      have n4_ := Aside0.mk (blk_below (bk_ BK354) hb)
      have n5_ := Aside0.mk (below_step (hb_ HB) hb)
      have n6_ := Aside0.mk (hbox)
      have n7_ := Aside0.mk ((by rw [hg]; exact (below_size (hb_ HB)) : w.heap.size ≤ gb374))
      have n8_ := Aside0.mk ((by rw [hg]; exact (below_size (hb_ HB)) : w.heap.size ≤ gb374))
      have n9_ := Aside0.mk ((by rw [hg]; exact Nat.ne_of_lt (blk_lt (g := gb354) (o := .cells #[.bool t342, .bool t343, .bool t344, .bool t345, .int .i64 t346, .int .i64 t347, .string t348, .string t349] 23 (0, 0)) (bk_ BK354)) : gb354 ≠ gb374))
      have n10_ := Aside0.mk ((by rw [hg]; exact Nat.ne_of_gt (blk_lt (g := gb354) (o := .cells #[.bool t342, .bool t343, .bool t344, .bool t345, .int .i64 t346, .int .i64 t347, .string t348, .string t349] 23 (0, 0)) (bk_ BK354)) : gb374 ≠ gb354))
      clear HO341
      clear HO352
      clear HO361
      clear HO372
      clear BK354
      clear HB
      have HO341 := n0_
      have HO352 := n1_
      have HO361 := n2_
      have HO372 := n3_
      have BK354 := n4_
      have HB := n5_
      have BK374 := n6_
      have GW374 := n7_
      have GE374 := n8_
      have NB354_374 := n9_
      have NB374_354 := n10_
      clear n0_ n1_ n2_ n3_ n4_ n5_ n6_ n7_ n8_ n9_ n10_
      clear hb hbox hg
      refine hK.out _ _ trivial (fun hHeld => ?_)
      clear hK K
      refine norm_ (a' := ?_) ?_ ?_
      rotate_left
      ·show Act.put _ (some 9) _ = _
       simp only [Act.put, la_, lb_, lc_, i64_w, i32_w]
       rfl
      exact norm_ (by simp only [putAll, Act.put, la_, lb_, lc_]) (hCont (.slice Ao111 t359.length co111, v371, gb374) _ ⟨(by (with_reducible repeat (first | apply Kd.R_alloc | apply Kd.R_drewN | apply Kd.R_drew)); exact Kd.R_mono HO341.out (fun _ hk => ⟨hk.1.1, ⟨hk.1.2, hk.2⟩⟩)), (by (with_reducible repeat (first | apply Kd.R_alloc | apply Kd.R_drewN | apply Kd.R_drew)); exact Kd.R_mono HO352.out (fun _ hk => ⟨hk.1.1, ⟨hk.1.2, hk.2⟩⟩)), (by (with_reducible repeat (first | apply Kd.R_alloc | apply Kd.R_drewN | apply Kd.R_drew)); exact Kd.R_mono HO361.out (fun _ hk => ⟨hk.1.1.2, ⟨hk.1.2, hk.2⟩⟩)), (by (with_reducible repeat (first | apply Kd.R_alloc | apply Kd.R_drewN | apply Kd.R_drew)); exact Kd.R_mono HO372.out (fun _ hk => ⟨hk.1.1.2, ⟨hk.1.2, hk.2⟩⟩)), (bk_ BK354), (bk_ BK374), GW374.out, GE374.out, NB354_374.out, NB374_354.out, (hb_ HB)⟩)
     ·skip
      refine box_step ?hg (N := 9) ?hd (cs := #[.bool false, .bool false, .bool false, .bool false, .int .i64 0, .int .i64 0, .string (⟨#[]⟩ : ByteArray), .string (⟨#[]⟩ : ByteArray)]) (t := 23) ?hr ?_; (case hd => rfl); (case hg => rfl); (case hr => first | (go_simp; done) | (go_simp; rfl))
      intro gb374 hg w111 hbox hb
      have n0_ := Aside0.mk (Kd.R_below (by (with_reducible repeat (first | apply Kd.R_alloc | apply Kd.R_drewN | apply Kd.R_drew)); exact HO341.out) hb)
      have n1_ := Aside0.mk (Kd.R_below (by (with_reducible repeat (first | apply Kd.R_alloc | apply Kd.R_drewN | apply Kd.R_drew)); exact HO352.out) hb)
      have n2_ := Aside0.mk (Kd.R_below (by (with_reducible repeat (first | apply Kd.R_alloc | apply Kd.R_drewN | apply Kd.R_drew)); exact HO361.out) hb)
      have n3_ := Aside0.mk (blk_below (bk_ BK354) hb)
      have n4_ := Aside0.mk (below_step (hb_ HB) hb)
      have n5_ := Aside0.mk (hbox)
      have n6_ := Aside0.mk ((by rw [hg]; exact (below_size (hb_ HB)) : w.heap.size ≤ gb374))
      have n7_ := Aside0.mk ((by rw [hg]; exact (below_size (hb_ HB)) : w.heap.size ≤ gb374))
      have n8_ := Aside0.mk ((by rw [hg]; exact Nat.ne_of_lt (blk_lt (g := gb354) (o := .cells #[.bool t342, .bool t343, .bool t344, .bool t345, .int .i64 t346, .int .i64 t347, .string t348, .string t349] 23 (0, 0)) (bk_ BK354)) : gb354 ≠ gb374))
      have n9_ := Aside0.mk ((by rw [hg]; exact Nat.ne_of_gt (blk_lt (g := gb354) (o := .cells #[.bool t342, .bool t343, .bool t344, .bool t345, .int .i64 t346, .int .i64 t347, .string t348, .string t349] 23 (0, 0)) (bk_ BK354)) : gb374 ≠ gb354))
      clear HO341
      clear HO352
      clear HO361
      clear BK354
      clear HB
      have HO341 := n0_
      have HO352 := n1_
      have HO361 := n2_
      have BK354 := n3_
      have HB := n4_
      have BK374 := n5_
      have GW374 := n6_
      have GE374 := n7_
      have NB354_374 := n8_
      have NB374_354 := n9_
      clear n0_ n1_ n2_ n3_ n4_ n5_ n6_ n7_ n8_ n9_
      clear hb hbox hg
      obtain ⟨Ao112, co112, eo112⟩ := Kd.R_slice HO361.out
      (first | subst eo112 | (injection eo112 with f1_ f2_ f3_; have f4_ := f1_.symm; have f5_ := f3_.symm; clear f1_ f2_ f3_; subst f4_; subst f5_))
      refine hK.out _ _ trivial (fun hHeld => ?_)
      clear hK K
      refine norm_ (a' := ?_) ?_ ?_
      rotate_left
      ·show Act.put _ (some 9) _ = _
       simp only [Act.put, la_, lb_, lc_, i64_w, i32_w]
       rfl
      refine one_ (i := 5) (N := some 40) d4x13 rfl rfl (one_of HT_.out (by kernel_rfl)) (by decide) (fun K hK => ?_)
      refine goes_ Tryd.func11 (by kernel_rfl) rfl #[.agg #[.bool t331, .bool t332, .bool t333, .bool t334, .int .i64 t335, .int .i64 t336, .string t337, .string t338], .slice Ao112 t359.length co112] (by rfl) rfl rfl (by (try simp only [List.map_toArray, List.map_cons, List.map_nil]); first | done | rfl | (simp only [List.length_drop, List.length_take]; rfl)) ?_
      with_reducible refine (keys_Answer.calls t331 t332 t333 t334 t335 t336 t337 t338 _ _ t359 t362 t363 t364 t365 t366 t367 t368 t369 t370 t373 _ ?side1 ?side2 ?side3 A16.out).mono ?_
      (case side1 => repeat (first | exact (Kd.R_reads' HO361.out).2.2 | (with_reducible refine Kd.C_alloc ?_ _) | (with_reducible refine Kd.C_drewN ?_ _) | (with_reducible refine Kd.C_drew ?_)))
      (case side2 => exact (Kd.R_reads' HO361.out).2.1)
      (case side3 => first | ((refine Glob.keep HG.out ?_); (repeat (first | (with_reducible first | exact HB.out | apply below_alloc | apply pw_below_drewN | apply below_drew1 | refine below_set ?_ GE354.out | refine below_set ?_ GE374.out) | exact HB.out)); done) | exact HG.out)
      rintro e w113 ⟨v371, rfl, ho0, hb⟩
      refine ⟨_, rfl, ?_⟩
      have n0_ := Aside0.mk (Kd.R_elder' (by (with_reducible repeat (first | apply Kd.R_alloc | apply Kd.R_drewN | apply Kd.R_drew)); exact HO341.out) (Kd.R_base ho0) hb)
      have n1_ := Aside0.mk (Kd.R_elder' (by (with_reducible repeat (first | apply Kd.R_alloc | apply Kd.R_drewN | apply Kd.R_drew)); exact HO352.out) (Kd.R_base ho0) hb)
      have n2_ := Aside0.mk (Kd.R_elder' (by (with_reducible repeat (first | apply Kd.R_alloc | apply Kd.R_drewN | apply Kd.R_drew)); exact HO361.out) (Kd.R_base ho0) hb)
      have n3_ := Aside0.mk (Kd.R_lower (Kd.R_new' (Kd.R_new' (Kd.R_new' ho0 (Kd.R_lt (by (with_reducible repeat (first | apply Kd.R_alloc | apply Kd.R_drewN | apply Kd.R_drew)); exact HO341.out))) (Kd.R_lt (by (with_reducible repeat (first | apply Kd.R_alloc | apply Kd.R_drewN | apply Kd.R_drew)); exact HO352.out))) (Kd.R_lt (by (with_reducible repeat (first | apply Kd.R_alloc | apply Kd.R_drewN | apply Kd.R_drew)); exact HO361.out))) (below_size (hb_ HB)))
      have n4_ := Aside0.mk (blk_below (bk_ BK354) hb)
      have n5_ := Aside0.mk (blk_below (bk_ BK374) hb)
      have n6_ := Aside0.mk (below_step (hb_ HB) hb)
      clear HO341
      clear HO352
      clear HO361
      clear BK354
      clear BK374
      clear HB
      have HO341 := n0_
      have HO352 := n1_
      have HO361 := n2_
      have HO372 := n3_
      have BK354 := n4_
      have BK374 := n5_
      have HB := n6_
      clear n0_ n1_ n2_ n3_ n4_ n5_ n6_
      (try clear hb)
      (try clear hb2)
      (try clear hk)
      (try clear hi)
      (try clear ho0)
      refine hK.out _ _ trivial (fun hHeld => ?_)
      clear hK K
      refine norm_ (a' := ?_) ?_ ?_
      rotate_left
      ·show Act.put _ (some 40) _ = _
       simp only [Act.put, la_, lb_, lc_, i64_w, i32_w]
       rfl
      refine pon_ 6 (some 34) d4x15 HT_.out ?_
      refine pon_ 7 (some 41) d4x17 HT_.out ?_
      refine pon_ 8 (some 42) d4x20 HT_.out ?_
      refine pon_ 9 (some 43) d4x22 HT_.out ?_
      exact norm_ (by simp only [putAll, Act.put, la_, lb_, lc_]) (hCont (.slice Ao112 t359.length co112, v371, gb374) _ ⟨(by (with_reducible repeat (first | apply Kd.R_alloc | apply Kd.R_drewN | apply Kd.R_drew)); exact Kd.R_mono HO341.out (fun _ hk => ⟨hk.1.1, ⟨hk.1.2, hk.2⟩⟩)), (by (with_reducible repeat (first | apply Kd.R_alloc | apply Kd.R_drewN | apply Kd.R_drew)); exact Kd.R_mono HO352.out (fun _ hk => ⟨hk.1.1, ⟨hk.1.2, hk.2⟩⟩)), (by (with_reducible repeat (first | apply Kd.R_alloc | apply Kd.R_drewN | apply Kd.R_drew)); exact Kd.R_mono HO361.out (fun _ hk => ⟨hk.1.1.2, ⟨hk.1.2, hk.2⟩⟩)), (by (with_reducible repeat (first | apply Kd.R_alloc | apply Kd.R_drewN | apply Kd.R_drew)); exact Kd.R_mono HO372.out (fun _ hk => ⟨hk.1.1.2, ⟨hk.1.2, hk.2⟩⟩)), (bk_ BK354), (bk_ BK374), GW374.out, GE374.out, NB354_374.out, NB374_354.out, (hb_ HB)⟩)
    ·skip
     refine box_step ?hg (N := 9) ?hd (cs := #[.bool false, .bool false, .bool false, .bool false, .int .i64 0, .int .i64 0, .string (⟨#[]⟩ : ByteArray), .string (⟨#[]⟩ : ByteArray)]) (t := 23) ?hr ?_; (case hd => rfl); (case hg => rfl); (case hr => first | (go_simp; done) | (go_simp; rfl))
     intro gb374 hg w110 hbox hb
     have n0_ := Aside0.mk (Kd.R_below (by (with_reducible repeat (first | apply Kd.R_alloc | apply Kd.R_drewN | apply Kd.R_drew)); exact HO341.out) hb)
     have n1_ := Aside0.mk (Kd.R_below (by (with_reducible repeat (first | apply Kd.R_alloc | apply Kd.R_drewN | apply Kd.R_drew)); exact HO352.out) hb)
     have n2_ := Aside0.mk (blk_below (bk_ BK354) hb)
     have n3_ := Aside0.mk (below_step (hb_ HB) hb)
     have n4_ := Aside0.mk (hbox)
     have n5_ := Aside0.mk ((by rw [hg]; exact (below_size (hb_ HB)) : w.heap.size ≤ gb374))
     have n6_ := Aside0.mk ((by rw [hg]; exact (below_size (hb_ HB)) : w.heap.size ≤ gb374))
     have n7_ := Aside0.mk ((by rw [hg]; exact Nat.ne_of_lt (blk_lt (g := gb354) (o := .cells #[.bool t342, .bool t343, .bool t344, .bool t345, .int .i64 t346, .int .i64 t347, .string t348, .string t349] 23 (0, 0)) (bk_ BK354)) : gb354 ≠ gb374))
     have n8_ := Aside0.mk ((by rw [hg]; exact Nat.ne_of_gt (blk_lt (g := gb354) (o := .cells #[.bool t342, .bool t343, .bool t344, .bool t345, .int .i64 t346, .int .i64 t347, .string t348, .string t349] 23 (0, 0)) (bk_ BK354)) : gb374 ≠ gb354))
     clear HO341
     clear HO352
     clear BK354
     clear HB
     have HO341 := n0_
     have HO352 := n1_
     have BK354 := n2_
     have HB := n3_
     have BK374 := n4_
     have GW374 := n5_
     have GE374 := n6_
     have NB354_374 := n7_
     have NB374_354 := n8_
     clear n0_ n1_ n2_ n3_ n4_ n5_ n6_ n7_ n8_
     clear hb hbox hg
     refine hK.out _ _ trivial (fun hHeld => ?_)
     clear hK K
     refine norm_ (a' := ?_) ?_ ?_
     rotate_left
     ·show Act.put _ (some 9) _ = _
      simp only [Act.put, la_, lb_, lc_, i64_w, i32_w]
      rfl
     refine one_ (i := 4) (N := some 39) d4x11 rfl rfl (one_of HT_.out (by kernel_rfl)) (by decide) (fun K hK => ?_)
     refine goes_ Tryd.func10 (by kernel_rfl) rfl #[.slice A0 y355.length c0] (by rfl) rfl rfl (by (try simp only [List.map_toArray, List.map_cons, List.map_nil]); first | done | rfl | (simp only [List.length_drop, List.length_take]; rfl)) ?_
     with_reducible refine (headgatelaw21_few.calls _ _ y355 t359 _ ?side1 ?side2 A15.out).mono ?_
     (case side1 => repeat (first | exact (Kd.C_below HR358.out HB.out) | (with_reducible refine Kd.C_alloc ?_ _) | (with_reducible refine Kd.C_drewN ?_ _) | (with_reducible refine Kd.C_drew ?_)))
     (case side2 => exact HC358.out)
     rintro e w111 ⟨v360, rfl, ho0, hb⟩
     refine ⟨_, rfl, ?_⟩
     have n0_ := Aside0.mk (Kd.R_elder' (by (with_reducible repeat (first | apply Kd.R_alloc | apply Kd.R_drewN | apply Kd.R_drew)); exact HO341.out) (Kd.R_base ho0) hb)
     have n1_ := Aside0.mk (Kd.R_elder' (by (with_reducible repeat (first | apply Kd.R_alloc | apply Kd.R_drewN | apply Kd.R_drew)); exact HO352.out) (Kd.R_base ho0) hb)
     have n2_ := Aside0.mk (Kd.R_lower (Kd.R_new' (Kd.R_new' ho0 (Kd.R_lt (by (with_reducible repeat (first | apply Kd.R_alloc | apply Kd.R_drewN | apply Kd.R_drew)); exact HO341.out))) (Kd.R_lt (by (with_reducible repeat (first | apply Kd.R_alloc | apply Kd.R_drewN | apply Kd.R_drew)); exact HO352.out))) (below_size (hb_ HB)))
     have n3_ := Aside0.mk (blk_below (bk_ BK354) hb)
     have n4_ := Aside0.mk (blk_below (bk_ BK374) hb)
     have n5_ := Aside0.mk (below_step (hb_ HB) hb)
     clear HO341
     clear HO352
     clear BK354
     clear BK374
     clear HB
     have HO341 := n0_
     have HO352 := n1_
     have HO361 := n2_
     have BK354 := n3_
     have BK374 := n4_
     have HB := n5_
     clear n0_ n1_ n2_ n3_ n4_ n5_
     (try clear hb)
     (try clear hb2)
     (try clear hk)
     (try clear hi)
     (try clear ho0)
     obtain ⟨Ao112, co112, eo112⟩ := Kd.R_slice HO361.out
     (first | subst eo112 | (injection eo112 with f1_ f2_ f3_; have f4_ := f1_.symm; have f5_ := f3_.symm; clear f1_ f2_ f3_; subst f4_; subst f5_))
     refine hK.out _ _ trivial (fun hHeld => ?_)
     clear hK K
     refine norm_ (a' := ?_) ?_ ?_
     rotate_left
     ·show Act.put _ (some 39) _ = _
      simp only [Act.put, la_, lb_, lc_, i64_w, i32_w]
      rfl
     refine one_ (i := 5) (N := some 40) d4x13 rfl rfl (one_of HT_.out (by kernel_rfl)) (by decide) (fun K hK => ?_)
     refine goes_ Tryd.func11 (by kernel_rfl) rfl #[.agg #[.bool t331, .bool t332, .bool t333, .bool t334, .int .i64 t335, .int .i64 t336, .string t337, .string t338], .slice Ao112 t359.length co112] (by rfl) rfl rfl (by (try simp only [List.map_toArray, List.map_cons, List.map_nil]); first | done | rfl | (simp only [List.length_drop, List.length_take]; rfl)) ?_
     with_reducible refine (keys_Answer.calls t331 t332 t333 t334 t335 t336 t337 t338 _ _ t359 t362 t363 t364 t365 t366 t367 t368 t369 t370 t373 _ ?side1 ?side2 ?side3 A16.out).mono ?_
     (case side1 => repeat (first | exact (Kd.R_reads' HO361.out).2.2 | (with_reducible refine Kd.C_alloc ?_ _) | (with_reducible refine Kd.C_drewN ?_ _) | (with_reducible refine Kd.C_drew ?_)))
     (case side2 => exact (Kd.R_reads' HO361.out).2.1)
     (case side3 => first | ((refine Glob.keep HG.out ?_); (repeat (first | (with_reducible first | exact HB.out | apply below_alloc | apply pw_below_drewN | apply below_drew1 | refine below_set ?_ GE354.out | refine below_set ?_ GE374.out) | exact HB.out)); done) | exact HG.out)
     rintro e w113 ⟨v371, rfl, ho0, hb⟩
     refine ⟨_, rfl, ?_⟩
     have n0_ := Aside0.mk (Kd.R_elder' (by (with_reducible repeat (first | apply Kd.R_alloc | apply Kd.R_drewN | apply Kd.R_drew)); exact HO341.out) (Kd.R_base ho0) hb)
     have n1_ := Aside0.mk (Kd.R_elder' (by (with_reducible repeat (first | apply Kd.R_alloc | apply Kd.R_drewN | apply Kd.R_drew)); exact HO352.out) (Kd.R_base ho0) hb)
     have n2_ := Aside0.mk (Kd.R_elder' (by (with_reducible repeat (first | apply Kd.R_alloc | apply Kd.R_drewN | apply Kd.R_drew)); exact HO361.out) (Kd.R_base ho0) hb)
     have n3_ := Aside0.mk (Kd.R_lower (Kd.R_new' (Kd.R_new' (Kd.R_new' ho0 (Kd.R_lt (by (with_reducible repeat (first | apply Kd.R_alloc | apply Kd.R_drewN | apply Kd.R_drew)); exact HO341.out))) (Kd.R_lt (by (with_reducible repeat (first | apply Kd.R_alloc | apply Kd.R_drewN | apply Kd.R_drew)); exact HO352.out))) (Kd.R_lt (by (with_reducible repeat (first | apply Kd.R_alloc | apply Kd.R_drewN | apply Kd.R_drew)); exact HO361.out))) (below_size (hb_ HB)))
     have n4_ := Aside0.mk (blk_below (bk_ BK354) hb)
     have n5_ := Aside0.mk (blk_below (bk_ BK374) hb)
     have n6_ := Aside0.mk (below_step (hb_ HB) hb)
     clear HO341
     clear HO352
     clear HO361
     clear BK354
     clear BK374
     clear HB
     have HO341 := n0_
     have HO352 := n1_
     have HO361 := n2_
     have HO372 := n3_
     have BK354 := n4_
     have BK374 := n5_
     have HB := n6_
     clear n0_ n1_ n2_ n3_ n4_ n5_ n6_
     (try clear hb)
     (try clear hb2)
     (try clear hk)
     (try clear hi)
     (try clear ho0)
     refine hK.out _ _ trivial (fun hHeld => ?_)
     clear hK K
     refine norm_ (a' := ?_) ?_ ?_
     rotate_left
     ·show Act.put _ (some 40) _ = _
      simp only [Act.put, la_, lb_, lc_, i64_w, i32_w]
      rfl
     refine pon_ 6 (some 34) d4x15 HT_.out ?_
     refine pon_ 7 (some 41) d4x17 HT_.out ?_
     refine pon_ 8 (some 42) d4x20 HT_.out ?_
     refine pon_ 9 (some 43) d4x22 HT_.out ?_
     exact norm_ (by simp only [putAll, Act.put, la_, lb_, lc_]) (hCont (.slice Ao112 t359.length co112, v371, gb374) _ ⟨(by (with_reducible repeat (first | apply Kd.R_alloc | apply Kd.R_drewN | apply Kd.R_drew)); exact Kd.R_mono HO341.out (fun _ hk => ⟨hk.1.1, ⟨hk.1.2, hk.2⟩⟩)), (by (with_reducible repeat (first | apply Kd.R_alloc | apply Kd.R_drewN | apply Kd.R_drew)); exact Kd.R_mono HO352.out (fun _ hk => ⟨hk.1.1, ⟨hk.1.2, hk.2⟩⟩)), (by (with_reducible repeat (first | apply Kd.R_alloc | apply Kd.R_drewN | apply Kd.R_drew)); exact Kd.R_mono HO361.out (fun _ hk => ⟨hk.1.1.2, ⟨hk.1.2, hk.2⟩⟩)), (by (with_reducible repeat (first | apply Kd.R_alloc | apply Kd.R_drewN | apply Kd.R_drew)); exact Kd.R_mono HO372.out (fun _ hk => ⟨hk.1.1.2, ⟨hk.1.2, hk.2⟩⟩)), (bk_ BK354), (bk_ BK374), GW374.out, GE374.out, NB354_374.out, NB374_354.out, (hb_ HB)⟩)
   ·skip
    refine box_step ?hg (N := 9) ?hd (cs := #[.bool false, .bool false, .bool false, .bool false, .int .i64 0, .int .i64 0, .string (⟨#[]⟩ : ByteArray), .string (⟨#[]⟩ : ByteArray)]) (t := 23) ?hr ?_; (case hd => rfl); (case hg => rfl); (case hr => first | (go_simp; done) | (go_simp; rfl))
    intro gb374 hg w109 hbox hb
    have n0_ := Aside0.mk (Kd.R_below (by (with_reducible repeat (first | apply Kd.R_alloc | apply Kd.R_drewN | apply Kd.R_drew)); exact HO341.out) hb)
    have n1_ := Aside0.mk (Kd.R_below (by (with_reducible repeat (first | apply Kd.R_alloc | apply Kd.R_drewN | apply Kd.R_drew)); exact HO352.out) hb)
    have n2_ := Aside0.mk (blk_below (bk_ BK354) hb)
    have n3_ := Aside0.mk (below_step (hb_ HB) hb)
    have n4_ := Aside0.mk (hbox)
    have n5_ := Aside0.mk ((by rw [hg]; exact (below_size (hb_ HB)) : w.heap.size ≤ gb374))
    have n6_ := Aside0.mk ((by rw [hg]; exact (below_size (hb_ HB)) : w.heap.size ≤ gb374))
    have n7_ := Aside0.mk ((by rw [hg]; exact Nat.ne_of_lt (blk_lt (g := gb354) (o := .cells #[.bool t342, .bool t343, .bool t344, .bool t345, .int .i64 t346, .int .i64 t347, .string t348, .string t349] 23 (0, 0)) (bk_ BK354)) : gb354 ≠ gb374))
    have n8_ := Aside0.mk ((by rw [hg]; exact Nat.ne_of_gt (blk_lt (g := gb354) (o := .cells #[.bool t342, .bool t343, .bool t344, .bool t345, .int .i64 t346, .int .i64 t347, .string t348, .string t349] 23 (0, 0)) (bk_ BK354)) : gb374 ≠ gb354))
    clear HO341
    clear HO352
    clear BK354
    clear HB
    have HO341 := n0_
    have HO352 := n1_
    have BK354 := n2_
    have HB := n3_
    have BK374 := n4_
    have GW374 := n5_
    have GE374 := n6_
    have NB354_374 := n7_
    have NB374_354 := n8_
    clear n0_ n1_ n2_ n3_ n4_ n5_ n6_ n7_ n8_
    clear hb hbox hg
    refine hK.out _ _ trivial (fun hHeld => ?_)
    clear hK K
    refine norm_ (a' := ?_) ?_ ?_
    rotate_left
    ·show Act.put _ (some 9) _ = _
     simp only [Act.put, la_, lb_, lc_, i64_w, i32_w]
     rfl
    refine one_ (i := 0) (N := some 35) d4x9 rfl rfl (one_of HT_.out (by kernel_rfl)) (by decide) (fun K hK => ?_)
    refine goes_ Tryd.func16 (by kernel_rfl) rfl #[] (by rfl) rfl rfl (by (try simp only [List.map_toArray, List.map_cons, List.map_nil]); first | done | rfl | (simp only [List.length_drop, List.length_take]; rfl)) ?_
    with_reducible refine (keys_First.calls  t331 t332 t333 t334 t335 t336 t337 t338 _ A11.out).mono ?_
    rintro e w110 ⟨rfl, hb⟩
    refine ⟨_, rfl, ?_⟩
    have n0_ := Aside0.mk (Kd.R_below (by (with_reducible repeat (first | apply Kd.R_alloc | apply Kd.R_drewN | apply Kd.R_drew)); exact HO341.out) hb)
    have n1_ := Aside0.mk (Kd.R_below (by (with_reducible repeat (first | apply Kd.R_alloc | apply Kd.R_drewN | apply Kd.R_drew)); exact HO352.out) hb)
    have n2_ := Aside0.mk (blk_below (bk_ BK354) hb)
    have n3_ := Aside0.mk (blk_below (bk_ BK374) hb)
    have n4_ := Aside0.mk (below_step (hb_ HB) hb)
    clear HO341
    clear HO352
    clear BK354
    clear BK374
    clear HB
    have HO341 := n0_
    have HO352 := n1_
    have BK354 := n2_
    have BK374 := n3_
    have HB := n4_
    clear n0_ n1_ n2_ n3_ n4_
    (try clear hb)
    (try clear hb2)
    (try clear hk)
    (try clear hi)
    refine hK.out _ _ trivial (fun hHeld => ?_)
    clear hK K
    refine norm_ (a' := ?_) ?_ ?_
    rotate_left
    ·show Act.put _ (some 35) _ = _
     simp only [Act.put, la_, lb_, lc_, i64_w, i32_w]
     rfl
    refine one_ (i := 4) (N := some 39) d4x11 rfl rfl (one_of HT_.out (by kernel_rfl)) (by decide) (fun K hK => ?_)
    refine goes_ Tryd.func10 (by kernel_rfl) rfl #[.slice A0 y355.length c0] (by rfl) rfl rfl (by (try simp only [List.map_toArray, List.map_cons, List.map_nil]); first | done | rfl | (simp only [List.length_drop, List.length_take]; rfl)) ?_
    with_reducible refine (headgatelaw21_few.calls _ _ y355 t359 _ ?side1 ?side2 A15.out).mono ?_
    (case side1 => repeat (first | exact (Kd.C_below HR358.out HB.out) | (with_reducible refine Kd.C_alloc ?_ _) | (with_reducible refine Kd.C_drewN ?_ _) | (with_reducible refine Kd.C_drew ?_)))
    (case side2 => exact HC358.out)
    rintro e w111 ⟨v360, rfl, ho0, hb⟩
    refine ⟨_, rfl, ?_⟩
    have n0_ := Aside0.mk (Kd.R_elder' (by (with_reducible repeat (first | apply Kd.R_alloc | apply Kd.R_drewN | apply Kd.R_drew)); exact HO341.out) (Kd.R_base ho0) hb)
    have n1_ := Aside0.mk (Kd.R_elder' (by (with_reducible repeat (first | apply Kd.R_alloc | apply Kd.R_drewN | apply Kd.R_drew)); exact HO352.out) (Kd.R_base ho0) hb)
    have n2_ := Aside0.mk (Kd.R_lower (Kd.R_new' (Kd.R_new' ho0 (Kd.R_lt (by (with_reducible repeat (first | apply Kd.R_alloc | apply Kd.R_drewN | apply Kd.R_drew)); exact HO341.out))) (Kd.R_lt (by (with_reducible repeat (first | apply Kd.R_alloc | apply Kd.R_drewN | apply Kd.R_drew)); exact HO352.out))) (below_size (hb_ HB)))
    have n3_ := Aside0.mk (blk_below (bk_ BK354) hb)
    have n4_ := Aside0.mk (blk_below (bk_ BK374) hb)
    have n5_ := Aside0.mk (below_step (hb_ HB) hb)
    clear HO341
    clear HO352
    clear BK354
    clear BK374
    clear HB
    have HO341 := n0_
    have HO352 := n1_
    have HO361 := n2_
    have BK354 := n3_
    have BK374 := n4_
    have HB := n5_
    clear n0_ n1_ n2_ n3_ n4_ n5_
    (try clear hb)
    (try clear hb2)
    (try clear hk)
    (try clear hi)
    (try clear ho0)
    obtain ⟨Ao112, co112, eo112⟩ := Kd.R_slice HO361.out
    (first | subst eo112 | (injection eo112 with f1_ f2_ f3_; have f4_ := f1_.symm; have f5_ := f3_.symm; clear f1_ f2_ f3_; subst f4_; subst f5_))
    refine hK.out _ _ trivial (fun hHeld => ?_)
    clear hK K
    refine norm_ (a' := ?_) ?_ ?_
    rotate_left
    ·show Act.put _ (some 39) _ = _
     simp only [Act.put, la_, lb_, lc_, i64_w, i32_w]
     rfl
    refine one_ (i := 5) (N := some 40) d4x13 rfl rfl (one_of HT_.out (by kernel_rfl)) (by decide) (fun K hK => ?_)
    refine goes_ Tryd.func11 (by kernel_rfl) rfl #[.agg #[.bool t331, .bool t332, .bool t333, .bool t334, .int .i64 t335, .int .i64 t336, .string t337, .string t338], .slice Ao112 t359.length co112] (by rfl) rfl rfl (by (try simp only [List.map_toArray, List.map_cons, List.map_nil]); first | done | rfl | (simp only [List.length_drop, List.length_take]; rfl)) ?_
    with_reducible refine (keys_Answer.calls t331 t332 t333 t334 t335 t336 t337 t338 _ _ t359 t362 t363 t364 t365 t366 t367 t368 t369 t370 t373 _ ?side1 ?side2 ?side3 A16.out).mono ?_
    (case side1 => repeat (first | exact (Kd.R_reads' HO361.out).2.2 | (with_reducible refine Kd.C_alloc ?_ _) | (with_reducible refine Kd.C_drewN ?_ _) | (with_reducible refine Kd.C_drew ?_)))
    (case side2 => exact (Kd.R_reads' HO361.out).2.1)
    (case side3 => first | ((refine Glob.keep HG.out ?_); (repeat (first | (with_reducible first | exact HB.out | apply below_alloc | apply pw_below_drewN | apply below_drew1 | refine below_set ?_ GE354.out | refine below_set ?_ GE374.out) | exact HB.out)); done) | exact HG.out)
    rintro e w113 ⟨v371, rfl, ho0, hb⟩
    refine ⟨_, rfl, ?_⟩
    have n0_ := Aside0.mk (Kd.R_elder' (by (with_reducible repeat (first | apply Kd.R_alloc | apply Kd.R_drewN | apply Kd.R_drew)); exact HO341.out) (Kd.R_base ho0) hb)
    have n1_ := Aside0.mk (Kd.R_elder' (by (with_reducible repeat (first | apply Kd.R_alloc | apply Kd.R_drewN | apply Kd.R_drew)); exact HO352.out) (Kd.R_base ho0) hb)
    have n2_ := Aside0.mk (Kd.R_elder' (by (with_reducible repeat (first | apply Kd.R_alloc | apply Kd.R_drewN | apply Kd.R_drew)); exact HO361.out) (Kd.R_base ho0) hb)
    have n3_ := Aside0.mk (Kd.R_lower (Kd.R_new' (Kd.R_new' (Kd.R_new' ho0 (Kd.R_lt (by (with_reducible repeat (first | apply Kd.R_alloc | apply Kd.R_drewN | apply Kd.R_drew)); exact HO341.out))) (Kd.R_lt (by (with_reducible repeat (first | apply Kd.R_alloc | apply Kd.R_drewN | apply Kd.R_drew)); exact HO352.out))) (Kd.R_lt (by (with_reducible repeat (first | apply Kd.R_alloc | apply Kd.R_drewN | apply Kd.R_drew)); exact HO361.out))) (below_size (hb_ HB)))
    have n4_ := Aside0.mk (blk_below (bk_ BK354) hb)
    have n5_ := Aside0.mk (blk_below (bk_ BK374) hb)
    have n6_ := Aside0.mk (below_step (hb_ HB) hb)
    clear HO341
    clear HO352
    clear HO361
    clear BK354
    clear BK374
    clear HB
    have HO341 := n0_
    have HO352 := n1_
    have HO361 := n2_
    have HO372 := n3_
    have BK354 := n4_
    have BK374 := n5_
    have HB := n6_
    clear n0_ n1_ n2_ n3_ n4_ n5_ n6_
    (try clear hb)
    (try clear hb2)
    (try clear hk)
    (try clear hi)
    (try clear ho0)
    refine hK.out _ _ trivial (fun hHeld => ?_)
    clear hK K
    refine norm_ (a' := ?_) ?_ ?_
    rotate_left
    ·show Act.put _ (some 40) _ = _
     simp only [Act.put, la_, lb_, lc_, i64_w, i32_w]
     rfl
    refine pon_ 6 (some 34) d4x15 HT_.out ?_
    refine pon_ 7 (some 41) d4x17 HT_.out ?_
    refine pon_ 8 (some 42) d4x20 HT_.out ?_
    refine pon_ 9 (some 43) d4x22 HT_.out ?_
    exact norm_ (by simp only [putAll, Act.put, la_, lb_, lc_]) (hCont (.slice Ao112 t359.length co112, v371, gb374) _ ⟨(by (with_reducible repeat (first | apply Kd.R_alloc | apply Kd.R_drewN | apply Kd.R_drew)); exact Kd.R_mono HO341.out (fun _ hk => ⟨hk.1.1, ⟨hk.1.2, hk.2⟩⟩)), (by (with_reducible repeat (first | apply Kd.R_alloc | apply Kd.R_drewN | apply Kd.R_drew)); exact Kd.R_mono HO352.out (fun _ hk => ⟨hk.1.1, ⟨hk.1.2, hk.2⟩⟩)), (by (with_reducible repeat (first | apply Kd.R_alloc | apply Kd.R_drewN | apply Kd.R_drew)); exact Kd.R_mono HO361.out (fun _ hk => ⟨hk.1.1.2, ⟨hk.1.2, hk.2⟩⟩)), (by (with_reducible repeat (first | apply Kd.R_alloc | apply Kd.R_drewN | apply Kd.R_drew)); exact Kd.R_mono HO372.out (fun _ hk => ⟨hk.1.1.2, ⟨hk.1.2, hk.2⟩⟩)), (bk_ BK354), (bk_ BK374), GW374.out, GE374.out, NB354_374.out, NB374_354.out, (hb_ HB)⟩)
  rintro ⟨v360, v371, gb374⟩ w114 ⟨h0_, h1_, h2_, h3_, h4_, h5_, h6_, h7_, h8_, h9_, h10_⟩
  have n0_ : Aside0 (Kd.R k45 45 w114 w.heap.size (fun k_ => some k_ ≠ (v351 : Value).ownBlock ∧ some k_ ≠ (v360 : Value).ownBlock ∧ some k_ ≠ (v371 : Value).ownBlock) (.slice Ao102 t339.length co102) t339) := ⟨h0_⟩
  have n1_ : Aside0 (Kd.R k45 45 w114 w.heap.size (fun k_ => some k_ ≠ (.slice Ao102 t339.length co102 : Value).ownBlock ∧ some k_ ≠ (v360 : Value).ownBlock ∧ some k_ ≠ (v371 : Value).ownBlock) v351 t350) := ⟨h1_⟩
  have n2_ : Aside0 (Kd.R k45 45 w114 w.heap.size (fun k_ => some k_ ≠ (.slice Ao102 t339.length co102 : Value).ownBlock ∧ some k_ ≠ (v351 : Value).ownBlock ∧ some k_ ≠ (v371 : Value).ownBlock) v360 t359) := ⟨h2_⟩
  have n3_ : Aside0 (Kd.R k45 45 w114 w.heap.size (fun k_ => some k_ ≠ (.slice Ao102 t339.length co102 : Value).ownBlock ∧ some k_ ≠ (v351 : Value).ownBlock ∧ some k_ ≠ (v360 : Value).ownBlock) v371 t370) := ⟨h3_⟩
  have n4_ : Aside0 (w114.heap[gb354]? = some (.cells #[.bool t342, .bool t343, .bool t344, .bool t345, .int .i64 t346, .int .i64 t347, .string t348, .string t349] 23 (0, 0))) := ⟨h4_⟩
  have n5_ : Aside0 (w114.heap[gb374]? = some (.cells #[.bool false, .bool false, .bool false, .bool false, .int .i64 0, .int .i64 0, .string (⟨#[]⟩ : ByteArray), .string (⟨#[]⟩ : ByteArray)] 23 (0, 0))) := ⟨h5_⟩
  have n6_ : Aside0 (w.heap.size ≤ gb374) := ⟨h6_⟩
  have n7_ : Aside0 (w.heap.size ≤ gb374) := ⟨h7_⟩
  have n8_ : Aside0 (gb354 ≠ gb374) := ⟨h8_⟩
  have n9_ : Aside0 (gb374 ≠ gb354) := ⟨h9_⟩
  have n10_ : Aside0 (Below w.heap.size w w114) := ⟨h10_⟩
  clear HO341
  clear HO352
  clear BK354
  clear HB
  clear h0_ h1_ h2_ h3_ h4_ h5_ h6_ h7_ h8_ h9_ h10_
  have HO341 := n0_
  have HO352 := n1_
  have HO361 := n2_
  have HO372 := n3_
  have BK354 := n4_
  have BK374 := n5_
  have GW374 := n6_
  have GE374 := n7_
  have NB354_374 := n8_
  have NB374_354 := n9_
  have HB := n10_
  clear n0_ n1_ n2_ n3_ n4_ n5_ n6_ n7_ n8_ n9_ n10_
  have hHeld := trivial
  refine norm_ (a' := ?_) ?_ ?_
  rotate_left
  ·simp only [putAll, Act.put, la_, lb_, lc_]
   rfl
  refine one_ (i := 11) (N := none) d4x23 rfl rfl (one_of HT_.out (by kernel_rfl)) (by decide) (fun K hK => ?_)
  have hs115 : w114.cell? ⟨gb374, 0, none⟩ = some (.bool false) := (blk_cell BK374.out 0).trans rfl
  have hfs115 := blk_frozen BK374.out 0
  have hns115_0 := NB354_374.out
  have hms115_0 := NB374_354.out
  have hs116 : w114.cell? ⟨gb374, 1, none⟩ = some (.bool false) := (blk_cell BK374.out 1).trans rfl
  have hfs116 := blk_frozen BK374.out 1
  have hns116_0 := NB354_374.out
  have hms116_0 := NB374_354.out
  have hs117 : w114.cell? ⟨gb374, 2, none⟩ = some (.bool false) := (blk_cell BK374.out 2).trans rfl
  have hfs117 := blk_frozen BK374.out 2
  have hns117_0 := NB354_374.out
  have hms117_0 := NB374_354.out
  have hs118 : w114.cell? ⟨gb374, 3, none⟩ = some (.bool false) := (blk_cell BK374.out 3).trans rfl
  have hfs118 := blk_frozen BK374.out 3
  have hns118_0 := NB354_374.out
  have hms118_0 := NB374_354.out
  have hs119 : w114.cell? ⟨gb374, 4, none⟩ = some (.int .i64 0) := (blk_cell BK374.out 4).trans rfl
  have hfs119 := blk_frozen BK374.out 4
  have hns119_0 := NB354_374.out
  have hms119_0 := NB374_354.out
  have hs120 : w114.cell? ⟨gb374, 5, none⟩ = some (.int .i64 0) := (blk_cell BK374.out 5).trans rfl
  have hfs120 := blk_frozen BK374.out 5
  have hns120_0 := NB354_374.out
  have hms120_0 := NB374_354.out
  have hs121 : w114.cell? ⟨gb374, 6, none⟩ = some (.string (⟨#[]⟩ : ByteArray)) := (blk_cell BK374.out 6).trans rfl
  have hfs121 := blk_frozen BK374.out 6
  have hns121_0 := NB354_374.out
  have hms121_0 := NB374_354.out
  have hs122 : w114.cell? ⟨gb374, 7, none⟩ = some (.string (⟨#[]⟩ : ByteArray)) := (blk_cell BK374.out 7).trans rfl
  have hfs122 := blk_frozen BK374.out 7
  have hns122_0 := NB354_374.out
  have hms122_0 := NB374_354.out
  refine skip_ (w1 := ?_) (by rfl) rfl ?_ ?_
  rotate_left
  ·go_simp
   rfl
  refine hK.out _ _ trivial (fun hHeld => ?_)
  clear hK K
  refine pon_ 12 (some 10) d4x24 HT_.out ?_
  refine pon_ 13 (some 11) d4x25 HT_.out ?_
  refine done_ (done_of HT_.out (by kernel_rfl)) ?_
  obtain ⟨Ao123, co123, eo123⟩ := Kd.R_slice HO352.out
  subst eo123
  try go_wp2_with (first | (go_at_call 9; (with_reducible refine (headgatelaw21_wakes.calls  t375 _ ?side1 A99.out).mono ?_); (case side1 => first | ((refine Glob.keep HG.out ?_); (repeat (first | (with_reducible first | exact HB.out | apply below_alloc | apply pw_below_drewN | apply below_drew1 | refine below_set ?_ GE354.out | refine below_set ?_ GE374.out) | exact HB.out)); done) | exact HG.out); rintro e w124 ⟨rfl, hb⟩; have n0_ := Aside0.mk (Kd.R_below (by (with_reducible repeat (first | apply Kd.R_alloc | apply Kd.R_drewN | apply Kd.R_drew)); exact (Kd.R_mono (Kd.R_far (p := ⟨gb374, 7, none⟩) (Kd.R_far (p := ⟨gb374, 6, none⟩) (Kd.R_far (p := ⟨gb374, 5, none⟩) (Kd.R_far (p := ⟨gb374, 4, none⟩) (Kd.R_far (p := ⟨gb374, 3, none⟩) (Kd.R_far (p := ⟨gb374, 2, none⟩) (Kd.R_far (p := ⟨gb374, 1, none⟩) (Kd.R_far (p := ⟨gb374, 0, none⟩) (Kd.R_types HO341.out BK374.out (by decide)) (fun _ hk => hk.2) (.bool t362)) (fun _ hk => hk.2) (.bool t363)) (fun _ hk => hk.2) (.bool t364)) (fun _ hk => hk.2) (.bool t365)) (fun _ hk => hk.2) (.int .i64 t366)) (fun _ hk => hk.2) (.int .i64 t367)) (fun _ hk => hk.2) (.string t368)) (fun _ hk => hk.2) (.string t369)) (fun _ h_ => h_.1))) hb); have n1_ := Aside0.mk (Kd.R_below (by (with_reducible repeat (first | apply Kd.R_alloc | apply Kd.R_drewN | apply Kd.R_drew)); exact (Kd.R_mono (Kd.R_far (p := ⟨gb374, 7, none⟩) (Kd.R_far (p := ⟨gb374, 6, none⟩) (Kd.R_far (p := ⟨gb374, 5, none⟩) (Kd.R_far (p := ⟨gb374, 4, none⟩) (Kd.R_far (p := ⟨gb374, 3, none⟩) (Kd.R_far (p := ⟨gb374, 2, none⟩) (Kd.R_far (p := ⟨gb374, 1, none⟩) (Kd.R_far (p := ⟨gb374, 0, none⟩) (Kd.R_types HO352.out BK374.out (by decide)) (fun _ hk => hk.2) (.bool t362)) (fun _ hk => hk.2) (.bool t363)) (fun _ hk => hk.2) (.bool t364)) (fun _ hk => hk.2) (.bool t365)) (fun _ hk => hk.2) (.int .i64 t366)) (fun _ hk => hk.2) (.int .i64 t367)) (fun _ hk => hk.2) (.string t368)) (fun _ hk => hk.2) (.string t369)) (fun _ h_ => h_.1))) hb); have n2_ := Aside0.mk (Kd.R_below (by (with_reducible repeat (first | apply Kd.R_alloc | apply Kd.R_drewN | apply Kd.R_drew)); exact (Kd.R_mono (Kd.R_far (p := ⟨gb374, 7, none⟩) (Kd.R_far (p := ⟨gb374, 6, none⟩) (Kd.R_far (p := ⟨gb374, 5, none⟩) (Kd.R_far (p := ⟨gb374, 4, none⟩) (Kd.R_far (p := ⟨gb374, 3, none⟩) (Kd.R_far (p := ⟨gb374, 2, none⟩) (Kd.R_far (p := ⟨gb374, 1, none⟩) (Kd.R_far (p := ⟨gb374, 0, none⟩) (Kd.R_types HO361.out BK374.out (by decide)) (fun _ hk => hk.2) (.bool t362)) (fun _ hk => hk.2) (.bool t363)) (fun _ hk => hk.2) (.bool t364)) (fun _ hk => hk.2) (.bool t365)) (fun _ hk => hk.2) (.int .i64 t366)) (fun _ hk => hk.2) (.int .i64 t367)) (fun _ hk => hk.2) (.string t368)) (fun _ hk => hk.2) (.string t369)) (fun _ h_ => h_.1))) hb); have n3_ := Aside0.mk (Kd.R_below (by (with_reducible repeat (first | apply Kd.R_alloc | apply Kd.R_drewN | apply Kd.R_drew)); exact (Kd.R_mono (Kd.R_far (p := ⟨gb374, 7, none⟩) (Kd.R_far (p := ⟨gb374, 6, none⟩) (Kd.R_far (p := ⟨gb374, 5, none⟩) (Kd.R_far (p := ⟨gb374, 4, none⟩) (Kd.R_far (p := ⟨gb374, 3, none⟩) (Kd.R_far (p := ⟨gb374, 2, none⟩) (Kd.R_far (p := ⟨gb374, 1, none⟩) (Kd.R_far (p := ⟨gb374, 0, none⟩) (Kd.R_types HO372.out BK374.out (by decide)) (fun _ hk => hk.2) (.bool t362)) (fun _ hk => hk.2) (.bool t363)) (fun _ hk => hk.2) (.bool t364)) (fun _ hk => hk.2) (.bool t365)) (fun _ hk => hk.2) (.int .i64 t366)) (fun _ hk => hk.2) (.int .i64 t367)) (fun _ hk => hk.2) (.string t368)) (fun _ hk => hk.2) (.string t369)) (fun _ h_ => h_.1))) hb); have n4_ := Aside0.mk (blk_below (g := gb354) (o := .cells #[.bool t342, .bool t343, .bool t344, .bool t345, .int .i64 t346, .int .i64 t347, .string t348, .string t349] 23 (0, 0)) (by (with_reducible repeat (first | refine blk_drewN ?_ _ | refine blk_drew ?_ | refine blk_alloc ?_ _ | refine blk_far ?_ NB354_374.out _)); exact BK354.out) hb); have n5_ := Aside0.mk (blk_below (g := gb374) (o := .cells #[.bool t362, .bool t363, .bool t364, .bool t365, .int .i64 t366, .int .i64 t367, .string t368, .string t369] 23 (0, 0)) (by (with_reducible repeat (first | refine blk_drewN ?_ _ | refine blk_drew ?_ | refine blk_alloc ?_ _)); refine blk_put (cs := #[.bool t362, .bool t363, .bool t364, .bool t365, .int .i64 t366, .int .i64 t367, .string t368, .string (⟨#[]⟩ : ByteArray)]) ?_ 7 _ rfl; (with_reducible repeat (first | refine blk_drewN ?_ _ | refine blk_drew ?_ | refine blk_alloc ?_ _)); refine blk_put (cs := #[.bool t362, .bool t363, .bool t364, .bool t365, .int .i64 t366, .int .i64 t367, .string (⟨#[]⟩ : ByteArray), .string (⟨#[]⟩ : ByteArray)]) ?_ 6 _ rfl; (with_reducible repeat (first | refine blk_drewN ?_ _ | refine blk_drew ?_ | refine blk_alloc ?_ _)); refine blk_put (cs := #[.bool t362, .bool t363, .bool t364, .bool t365, .int .i64 t366, .int .i64 0, .string (⟨#[]⟩ : ByteArray), .string (⟨#[]⟩ : ByteArray)]) ?_ 5 _ rfl; (with_reducible repeat (first | refine blk_drewN ?_ _ | refine blk_drew ?_ | refine blk_alloc ?_ _)); refine blk_put (cs := #[.bool t362, .bool t363, .bool t364, .bool t365, .int .i64 0, .int .i64 0, .string (⟨#[]⟩ : ByteArray), .string (⟨#[]⟩ : ByteArray)]) ?_ 4 _ rfl; (with_reducible repeat (first | refine blk_drewN ?_ _ | refine blk_drew ?_ | refine blk_alloc ?_ _)); refine blk_put (cs := #[.bool t362, .bool t363, .bool t364, .bool false, .int .i64 0, .int .i64 0, .string (⟨#[]⟩ : ByteArray), .string (⟨#[]⟩ : ByteArray)]) ?_ 3 _ rfl; (with_reducible repeat (first | refine blk_drewN ?_ _ | refine blk_drew ?_ | refine blk_alloc ?_ _)); refine blk_put (cs := #[.bool t362, .bool t363, .bool false, .bool false, .int .i64 0, .int .i64 0, .string (⟨#[]⟩ : ByteArray), .string (⟨#[]⟩ : ByteArray)]) ?_ 2 _ rfl; (with_reducible repeat (first | refine blk_drewN ?_ _ | refine blk_drew ?_ | refine blk_alloc ?_ _)); refine blk_put (cs := #[.bool t362, .bool false, .bool false, .bool false, .int .i64 0, .int .i64 0, .string (⟨#[]⟩ : ByteArray), .string (⟨#[]⟩ : ByteArray)]) ?_ 1 _ rfl; (with_reducible repeat (first | refine blk_drewN ?_ _ | refine blk_drew ?_ | refine blk_alloc ?_ _)); refine blk_put (cs := #[.bool false, .bool false, .bool false, .bool false, .int .i64 0, .int .i64 0, .string (⟨#[]⟩ : ByteArray), .string (⟨#[]⟩ : ByteArray)]) ?_ 0 _ rfl; (with_reducible repeat (first | refine blk_drewN ?_ _ | refine blk_drew ?_ | refine blk_alloc ?_ _)); exact BK374.out) hb); have n6_ := Aside0.mk (below_step (hb_ HB) hb); clear HO341; clear HO352; clear HO361; clear HO372; clear BK354; clear BK374; clear HB; have HO341 := n0_; have HO352 := n1_; have HO361 := n2_; have HO372 := n3_; have BK354 := n4_; have BK374 := n5_; have HB := n6_; clear n0_ n1_ n2_ n3_ n4_ n5_ n6_; (try clear hb); (try clear hb2); (try clear hk); (try clear hi)))
  go_ret
  exact ⟨by first | rfl | (simp [errW_none, errW_some] <;> rfl) | (simp only [← hji12]; first | rfl | (simp [errW_none, errW_some] <;> rfl)) | (simp [*, errW_none, errW_some] <;> rfl) | (simp [bt, *]; done) | (unfold bt; simp [*]; done), by repeat (first | (with_reducible first | exact HB.out | apply below_alloc | apply pw_below_drewN | apply below_drew1 | refine below_set ?_ GE354.out | refine below_set ?_ GE374.out) | exact HB.out)⟩
 rw [if_pos c17] at H
 have c17b0 : (t353 == 0) = true := beq_iff_eq.mpr c17
 have c17b1 : (t353 != 0) = false := bne_eq_false_iff_eq.mpr c17
 clear c17
 have c18b0 := eq_true (of_decide_eq_true (by first | (with_reducible assumption) | assumption) : 0 ≤ (ji12))
 have c19b0 := eq_true (of_decide_eq_true (by first | (with_reducible assumption) | assumption) : (ji12) ≤ (l0.length : Int))
 obtain ⟨y376, hy376⟩ : ∃ y_ : List (S45), y_ = (l0.drop ((ji12) : Int).toNat) := ⟨_, rfl⟩
 replace H : ((headgatelaw21_few.f y376).bind fun t380 => ((keys_Answer.f t362 t363 t364 t365 t366 t367 t368 t369 t380).bind fun bt383 => (if t373 = 0 then (if bt383.2.2.2.2.2.2.2.2.2 = 0 then ((headgatelaw21_Own.f t342 t343 t344 t345 t346 t347 t348 t349).bind fun bt396 => ((headgatelaw21_Own.f bt383.1 bt383.2.1 bt383.2.2.1 bt383.2.2.2.1 bt383.2.2.2.2.1 bt383.2.2.2.2.2.1 bt383.2.2.2.2.2.2.1 bt383.2.2.2.2.2.2.2.1).bind fun bt404 => ((headgateref21_Same.f bt396.1 bt396.2.1 bt396.2.2.1 bt396.2.2.2.1 bt396.2.2.2.2.1 bt396.2.2.2.2.2.1 bt396.2.2.2.2.2.2.1 bt396.2.2.2.2.2.2.2 bt404.1 bt404.2.1 bt404.2.2.1 bt404.2.2.2.1 bt404.2.2.2.2.1 bt404.2.2.2.2.2.1 bt404.2.2.2.2.2.2.1 bt404.2.2.2.2.2.2.2).bind fun t412 => (headgatelaw21_KeysSteps.j0 k t350 t370 bt383.2.2.2.2.2.2.2.2.1 (!t412) t342 t343 t344 t345 t346 t347 t348 t349)))) else (headgatelaw21_KeysSteps.j0 k t350 t370 bt383.2.2.2.2.2.2.2.2.1 true t342 t343 t344 t345 t346 t347 t348 t349)) else (headgatelaw21_KeysSteps.j0 k t350 t370 bt383.2.2.2.2.2.2.2.2.1 true t342 t343 t344 t345 t346 t347 t348 t349)))) = some r := by first | (rw [hy376]; with_reducible exact H) | (have H2_ := (Option.bind_some _ _).symm.trans H; rw [hy376]; with_reducible exact H2_) | (have H2_ := (Option.bind_some _ _).symm.trans H; with_reducible exact H2_) | with_reducible exact H | (rw [hy376]; exact H) | exact H
 have Ny376 := Aside0.mk hy376
 clear hy376
 replace H := Option.bind_eq_some_iff.mp H
 obtain ⟨t380, A200, H⟩ := H
 try dsimp only at H
 have A20 := Aside0.mk A200
 clear A200
 replace H := Option.bind_eq_some_iff.mp H
 obtain ⟨⟨t383, t384, t385, t386, t387, t388, t389, t390, t391, t394⟩, A210, H⟩ := H
 try dsimp only at H
 have A21 := Aside0.mk A210
 clear A210
 have HC22 := Aside0.mk H
 clear H
 go_enter Tryd.func4, Tryd.ntmps4
 try go_wp2_with (first | ((with_reducible refine gate_callee (f := 8) rfl ?_); refine goesL_ (some 16) rfl rfl Tryd.func8 (by kernel_rfl) rfl #[.slice A0 l0.length c0] rfl (by (try simp only [List.map_toArray, List.map_cons, List.map_nil]); first | done | rfl | (simp only [List.length_drop, List.length_take]; rfl)) ?_; (with_reducible refine (headgatelaw21_Large.calls k _ _ l0 false _ ?side1 ?side2 A3.out).mono ?_); (case side1 => repeat (first | exact HR0.out | (with_reducible refine Kd.C_alloc ?_ _) | (with_reducible refine Kd.C_drewN ?_ _) | (with_reducible refine Kd.C_drew ?_))); (case side2 => exact HC0.out); rintro e w' ⟨rfl, ⟨nd, rfl⟩⟩; refine ⟨_, rfl, ?_⟩) | ((with_reducible refine gate_callee (f := 16) rfl ?_); refine goesL_ (some 27) rfl rfl Tryd.func16 (by kernel_rfl) rfl #[] rfl (by (try simp only [List.map_toArray, List.map_cons, List.map_nil]); first | done | rfl | (simp only [List.length_drop, List.length_take]; rfl)) ?_; (with_reducible refine (keys_First.calls  t331 t332 t333 t334 t335 t336 t337 t338 _ A8.out).mono ?_); rintro e w23 ⟨rfl, hb⟩; refine ⟨_, rfl, ?_⟩; have n0_ := Aside0.mk (below_step (hb_ HB) hb); clear HB; have HB := n0_; clear n0_; (try clear hb); (try clear hb2); (try clear hk); (try clear hi)) | ((with_reducible refine gate_callee (f := 10) rfl ?_); refine goesL_ (some 29) rfl rfl Tryd.func10 (by kernel_rfl) rfl #[.slice A0 l0.length c0] rfl (by (try simp only [List.map_toArray, List.map_cons, List.map_nil]); first | done | rfl | (simp only [List.length_drop, List.length_take]; rfl)) ?_; (with_reducible refine (headgatelaw21_few.calls _ _ l0 t339 _ ?side1 ?side2 A9.out).mono ?_); (case side1 => repeat (first | exact (Kd.C_below HR0.out HB.out) | (with_reducible refine Kd.C_alloc ?_ _) | (with_reducible refine Kd.C_drewN ?_ _) | (with_reducible refine Kd.C_drew ?_))); (case side2 => exact HC0.out); rintro e w24 ⟨v340, rfl, ho0, hb⟩; refine ⟨_, rfl, ?_⟩; have n0_ := Aside0.mk (Kd.R_lower ho0 (below_size (hb_ HB))); have n1_ := Aside0.mk (below_step (hb_ HB) hb); clear HB; have HO341 := n0_; have HB := n1_; clear n0_ n1_; (try clear hb); (try clear hb2); (try clear hk); (try clear hi); (try clear ho0); obtain ⟨Ao25, co25, eo25⟩ := Kd.R_slice HO341.out; subst eo25) | ((with_reducible refine gate_callee (f := 11) rfl ?_); refine goesL_ (some 30) rfl rfl Tryd.func11 (by kernel_rfl) rfl #[.agg #[.bool t331, .bool t332, .bool t333, .bool t334, .int .i64 t335, .int .i64 t336, .string t337, .string t338], .slice Ao25 t339.length co25] rfl (by (try simp only [List.map_toArray, List.map_cons, List.map_nil]); first | done | rfl | (simp only [List.length_drop, List.length_take]; rfl)) ?_; (with_reducible refine (keys_Answer.calls t331 t332 t333 t334 t335 t336 t337 t338 _ _ t339 t342 t343 t344 t345 t346 t347 t348 t349 t350 t353 _ ?side1 ?side2 ?side3 A10.out).mono ?_); (case side1 => repeat (first | exact (Kd.R_reads' HO341.out).2.2 | (with_reducible refine Kd.C_alloc ?_ _) | (with_reducible refine Kd.C_drewN ?_ _) | (with_reducible refine Kd.C_drew ?_))); (case side2 => exact (Kd.R_reads' HO341.out).2.1); (case side3 => first | ((refine Glob.keep HG.out ?_); (repeat (first | (with_reducible first | exact HB.out | apply below_alloc | apply pw_below_drewN | apply below_drew1) | exact HB.out)); done) | exact HG.out); rintro e w26 ⟨v351, rfl, ho0, hb⟩; refine ⟨_, rfl, ?_⟩; have n0_ := Aside0.mk (Kd.R_elder' (by (with_reducible repeat (first | apply Kd.R_alloc | apply Kd.R_drewN | apply Kd.R_drew)); exact HO341.out) (Kd.R_base ho0) hb); have n1_ := Aside0.mk (Kd.R_lower (Kd.R_new' ho0 (Kd.R_lt (by (with_reducible repeat (first | apply Kd.R_alloc | apply Kd.R_drewN | apply Kd.R_drew)); exact HO341.out))) (below_size (hb_ HB))); have n2_ := Aside0.mk (below_step (hb_ HB) hb); clear HO341; clear HB; have HO341 := n0_; have HO352 := n1_; have HB := n2_; clear n0_ n1_ n2_; (try clear hb); (try clear hb2); (try clear hk); (try clear hi); (try clear ho0)) | ((with_reducible refine gate_dst (N := 6) rfl ?_); (try (refine gate_guard (by rfl) ?_; dsimp only)); refine box_event ?hg (N := 6) ?hd (cs := #[.bool false, .bool false, .bool false, .bool false, .int .i64 0, .int .i64 0, .string (⟨#[]⟩ : ByteArray), .string (⟨#[]⟩ : ByteArray)]) (t := 23) ?hr ?_; (case hd => rfl); (case hg => rfl); (case hr => first | (go_simp; done) | (go_simp; rfl)); intro gb354 hg w27 hbox hb; have n0_ := Aside0.mk (Kd.R_below (by (with_reducible repeat (first | apply Kd.R_alloc | apply Kd.R_drewN | apply Kd.R_drew)); exact HO341.out) hb); have n1_ := Aside0.mk (Kd.R_below (by (with_reducible repeat (first | apply Kd.R_alloc | apply Kd.R_drewN | apply Kd.R_drew)); exact HO352.out) hb); have n2_ := Aside0.mk (below_step (hb_ HB) hb); have n3_ := Aside0.mk (hbox); have n4_ := Aside0.mk ((by rw [hg]; exact (below_size (hb_ HB)) : w.heap.size ≤ gb354)); have n5_ := Aside0.mk ((by rw [hg]; exact (below_size (hb_ HB)) : w.heap.size ≤ gb354)); clear HO341; clear HO352; clear HB; have HO341 := n0_; have HO352 := n1_; have HB := n2_; have BK354 := n3_; have GW354 := n4_; have GE354 := n5_; clear n0_ n1_ n2_ n3_ n4_ n5_; clear hb hbox hg; have hcz28_0 : w27.cell? ⟨gb354, 0, none⟩ = some (.bool false) := (blk_cell BK354.out 0).trans rfl; have hcz28_1 : w27.cell? ⟨gb354, 1, none⟩ = some (.bool false) := (blk_cell BK354.out 1).trans rfl; have hcz28_2 : w27.cell? ⟨gb354, 2, none⟩ = some (.bool false) := (blk_cell BK354.out 2).trans rfl; have hcz28_3 : w27.cell? ⟨gb354, 3, none⟩ = some (.bool false) := (blk_cell BK354.out 3).trans rfl; have hcz28_4 : w27.cell? ⟨gb354, 4, none⟩ = some (.int .i64 0) := (blk_cell BK354.out 4).trans rfl; have hcz28_5 : w27.cell? ⟨gb354, 5, none⟩ = some (.int .i64 0) := (blk_cell BK354.out 5).trans rfl; have hcz28_6 : w27.cell? ⟨gb354, 6, none⟩ = some (.string (⟨#[]⟩ : ByteArray)) := (blk_cell BK354.out 6).trans rfl; have hcz28_7 : w27.cell? ⟨gb354, 7, none⟩ = some (.string (⟨#[]⟩ : ByteArray)) := (blk_cell BK354.out 7).trans rfl; have hfz28_0 := blk_frozen BK354.out 0; have hfz28_1 := blk_frozen BK354.out 1; have hfz28_2 := blk_frozen BK354.out 2; have hfz28_3 := blk_frozen BK354.out 3; have hfz28_4 := blk_frozen BK354.out 4; have hfz28_5 := blk_frozen BK354.out 5; have hfz28_6 := blk_frozen BK354.out 6; have hfz28_7 := blk_frozen BK354.out 7))
 have n0_ : Aside0 (Kd.R k45 45 ((((((((w27.setCell ⟨gb354, 0, none⟩ (.bool t342)).setCell ⟨gb354, 1, none⟩ (.bool t343)).setCell ⟨gb354, 2, none⟩ (.bool t344)).setCell ⟨gb354, 3, none⟩ (.bool t345)).setCell ⟨gb354, 4, none⟩ (.int .i64 t346)).setCell ⟨gb354, 5, none⟩ (.int .i64 t347)).setCell ⟨gb354, 6, none⟩ (.string t348)).setCell ⟨gb354, 7, none⟩ (.string t349)) w.heap.size (fun k_ => some k_ ≠ (v351 : Value).ownBlock) (.slice Ao25 t339.length co25) t339) := ⟨by (with_reducible repeat (first | apply Kd.R_alloc | apply Kd.R_drewN | apply Kd.R_drew)); exact Kd.R_mono (Kd.R_far (p := ⟨gb354, 7, none⟩) (Kd.R_far (p := ⟨gb354, 6, none⟩) (Kd.R_far (p := ⟨gb354, 5, none⟩) (Kd.R_far (p := ⟨gb354, 4, none⟩) (Kd.R_far (p := ⟨gb354, 3, none⟩) (Kd.R_far (p := ⟨gb354, 2, none⟩) (Kd.R_far (p := ⟨gb354, 1, none⟩) (Kd.R_far (p := ⟨gb354, 0, none⟩) (Kd.R_types HO341.out BK354.out (by decide)) (fun _ hk => hk.2) (.bool t342)) (fun _ hk => hk.2) (.bool t343)) (fun _ hk => hk.2) (.bool t344)) (fun _ hk => hk.2) (.bool t345)) (fun _ hk => hk.2) (.int .i64 t346)) (fun _ hk => hk.2) (.int .i64 t347)) (fun _ hk => hk.2) (.string t348)) (fun _ hk => hk.2) (.string t349)) (fun _ hk => hk.1.2)⟩
 have n1_ : Aside0 (Kd.R k45 45 ((((((((w27.setCell ⟨gb354, 0, none⟩ (.bool t342)).setCell ⟨gb354, 1, none⟩ (.bool t343)).setCell ⟨gb354, 2, none⟩ (.bool t344)).setCell ⟨gb354, 3, none⟩ (.bool t345)).setCell ⟨gb354, 4, none⟩ (.int .i64 t346)).setCell ⟨gb354, 5, none⟩ (.int .i64 t347)).setCell ⟨gb354, 6, none⟩ (.string t348)).setCell ⟨gb354, 7, none⟩ (.string t349)) w.heap.size (fun k_ => some k_ ≠ (.slice Ao25 t339.length co25 : Value).ownBlock) v351 t350) := ⟨by (with_reducible repeat (first | apply Kd.R_alloc | apply Kd.R_drewN | apply Kd.R_drew)); exact Kd.R_mono (Kd.R_far (p := ⟨gb354, 7, none⟩) (Kd.R_far (p := ⟨gb354, 6, none⟩) (Kd.R_far (p := ⟨gb354, 5, none⟩) (Kd.R_far (p := ⟨gb354, 4, none⟩) (Kd.R_far (p := ⟨gb354, 3, none⟩) (Kd.R_far (p := ⟨gb354, 2, none⟩) (Kd.R_far (p := ⟨gb354, 1, none⟩) (Kd.R_far (p := ⟨gb354, 0, none⟩) (Kd.R_types HO352.out BK354.out (by decide)) (fun _ hk => hk.2) (.bool t342)) (fun _ hk => hk.2) (.bool t343)) (fun _ hk => hk.2) (.bool t344)) (fun _ hk => hk.2) (.bool t345)) (fun _ hk => hk.2) (.int .i64 t346)) (fun _ hk => hk.2) (.int .i64 t347)) (fun _ hk => hk.2) (.string t348)) (fun _ hk => hk.2) (.string t349)) (fun _ hk => hk.1.2)⟩
 have n2_ : Aside0 (((((((((w27.setCell ⟨gb354, 0, none⟩ (.bool t342)).setCell ⟨gb354, 1, none⟩ (.bool t343)).setCell ⟨gb354, 2, none⟩ (.bool t344)).setCell ⟨gb354, 3, none⟩ (.bool t345)).setCell ⟨gb354, 4, none⟩ (.int .i64 t346)).setCell ⟨gb354, 5, none⟩ (.int .i64 t347)).setCell ⟨gb354, 6, none⟩ (.string t348)).setCell ⟨gb354, 7, none⟩ (.string t349)).heap[gb354]? = some (.cells #[.bool t342, .bool t343, .bool t344, .bool t345, .int .i64 t346, .int .i64 t347, .string t348, .string t349] 23 (0, 0))) := ⟨by (with_reducible repeat (first | refine blk_drewN ?_ _ | refine blk_drew ?_ | refine blk_alloc ?_ _)); refine blk_put (cs := #[.bool t342, .bool t343, .bool t344, .bool t345, .int .i64 t346, .int .i64 t347, .string t348, .string (⟨#[]⟩ : ByteArray)]) ?_ 7 _ rfl; (with_reducible repeat (first | refine blk_drewN ?_ _ | refine blk_drew ?_ | refine blk_alloc ?_ _)); refine blk_put (cs := #[.bool t342, .bool t343, .bool t344, .bool t345, .int .i64 t346, .int .i64 t347, .string (⟨#[]⟩ : ByteArray), .string (⟨#[]⟩ : ByteArray)]) ?_ 6 _ rfl; (with_reducible repeat (first | refine blk_drewN ?_ _ | refine blk_drew ?_ | refine blk_alloc ?_ _)); refine blk_put (cs := #[.bool t342, .bool t343, .bool t344, .bool t345, .int .i64 t346, .int .i64 0, .string (⟨#[]⟩ : ByteArray), .string (⟨#[]⟩ : ByteArray)]) ?_ 5 _ rfl; (with_reducible repeat (first | refine blk_drewN ?_ _ | refine blk_drew ?_ | refine blk_alloc ?_ _)); refine blk_put (cs := #[.bool t342, .bool t343, .bool t344, .bool t345, .int .i64 0, .int .i64 0, .string (⟨#[]⟩ : ByteArray), .string (⟨#[]⟩ : ByteArray)]) ?_ 4 _ rfl; (with_reducible repeat (first | refine blk_drewN ?_ _ | refine blk_drew ?_ | refine blk_alloc ?_ _)); refine blk_put (cs := #[.bool t342, .bool t343, .bool t344, .bool false, .int .i64 0, .int .i64 0, .string (⟨#[]⟩ : ByteArray), .string (⟨#[]⟩ : ByteArray)]) ?_ 3 _ rfl; (with_reducible repeat (first | refine blk_drewN ?_ _ | refine blk_drew ?_ | refine blk_alloc ?_ _)); refine blk_put (cs := #[.bool t342, .bool t343, .bool false, .bool false, .int .i64 0, .int .i64 0, .string (⟨#[]⟩ : ByteArray), .string (⟨#[]⟩ : ByteArray)]) ?_ 2 _ rfl; (with_reducible repeat (first | refine blk_drewN ?_ _ | refine blk_drew ?_ | refine blk_alloc ?_ _)); refine blk_put (cs := #[.bool t342, .bool false, .bool false, .bool false, .int .i64 0, .int .i64 0, .string (⟨#[]⟩ : ByteArray), .string (⟨#[]⟩ : ByteArray)]) ?_ 1 _ rfl; (with_reducible repeat (first | refine blk_drewN ?_ _ | refine blk_drew ?_ | refine blk_alloc ?_ _)); refine blk_put (cs := #[.bool false, .bool false, .bool false, .bool false, .int .i64 0, .int .i64 0, .string (⟨#[]⟩ : ByteArray), .string (⟨#[]⟩ : ByteArray)]) ?_ 0 _ rfl; (with_reducible repeat (first | refine blk_drewN ?_ _ | refine blk_drew ?_ | refine blk_alloc ?_ _)); exact BK354.out⟩
 have n3_ : Aside0 (Below w.heap.size w ((((((((w27.setCell ⟨gb354, 0, none⟩ (.bool t342)).setCell ⟨gb354, 1, none⟩ (.bool t343)).setCell ⟨gb354, 2, none⟩ (.bool t344)).setCell ⟨gb354, 3, none⟩ (.bool t345)).setCell ⟨gb354, 4, none⟩ (.int .i64 t346)).setCell ⟨gb354, 5, none⟩ (.int .i64 t347)).setCell ⟨gb354, 6, none⟩ (.string t348)).setCell ⟨gb354, 7, none⟩ (.string t349))) := ⟨hb_ HB⟩
 (try clear HO341)
 (try clear HO352)
 (try clear BK354)
 (try clear HB)
 generalize ((((((((w27.setCell ⟨gb354, 0, none⟩ (.bool t342)).setCell ⟨gb354, 1, none⟩ (.bool t343)).setCell ⟨gb354, 2, none⟩ (.bool t344)).setCell ⟨gb354, 3, none⟩ (.bool t345)).setCell ⟨gb354, 4, none⟩ (.int .i64 t346)).setCell ⟨gb354, 5, none⟩ (.int .i64 t347)).setCell ⟨gb354, 6, none⟩ (.string t348)).setCell ⟨gb354, 7, none⟩ (.string t349)) = w29 at n0_ n1_ n2_ n3_ ⊢
 have HO341 := n0_
 have HO352 := n1_
 have BK354 := n2_
 have HB := n3_
 clear n0_ n1_ n2_ n3_
 have n0_ := Aside0.mk (Kd.R_drew HO341.out)
 have n1_ := Aside0.mk (Kd.R_drew HO352.out)
 have n2_ := Aside0.mk (blk_drew BK354.out)
 have n3_ := Aside0.mk (below_drew1 HB.out)
 clear HO341
 clear HO352
 clear BK354
 clear HB
 have HO341 := n0_
 have HO352 := n1_
 have BK354 := n2_
 have HB := n3_
 clear n0_ n1_ n2_ n3_
 have q31 : ((ji12) : Int) ≤ ((l0.length : Int) : Int) := of_decide_eq_true (by first | (with_reducible assumption) | assumption)
 obtain ⟨i031, hi031, _, hsz31, _⟩ := info_parts info45
 have hroom31 : l0.length ≤ c0 := HC0.out
 have hC31 : Kd.C k45 _ A0 l0.length l0 := HR0.out
 have hcut31 := cut_to (P := Tryd.prog) 24 45 .i64 Tryd.underlying24 hi031 A0 l0.length c0 (ji12) (of_decide_eq_true (by first | (with_reducible assumption) | assumption)) q31 hroom31
 have hr31 := Kd.C_take (m := ((ji12) : Int).toNat) hC31 (by omega)
 have hy31 : y355.length = ((ji12) : Int).toNat := (by rw [Ny355.out, List.length_take]; omega)
 rw [← Ny355.out] at hr31
 rw [← hy31] at hcut31
 have HR358 := Aside0.mk hr31
 have HC358 := Aside0.mk (show y355.length ≤ c0 from by omega)
 clear hr31 hC31 hroom31 hi031 hsz31
 have KY31 := Aside0.mk hy31
 clear hy31
 replace q31 := eq_true q31
 refine start_ (n := 14) (S := fun w' => True) (ds := []) d4x0 (by kernel_rfl) rfl rfl trivial (fun hHeld => ?_); refine with_tabW headgatelaw21_KeysSteps.tab5 headgatelaw21_KeysSteps.bits5 (fun HT_ HW_ => ?_)
 generalize w29.drew = w30 at HO341 HO352 BK354 HB HR358 hHeld ⊢
 refine pon_ 1 (some 36) d4x1 HT_.out ?_
 refine pon_ 2 (some 37) d4x2 HT_.out ?_
 refine pon_ 3 (some 38) d4x3 HT_.out ?_
 refine join_ (σ := Value × Value × Nat) 3 d4x22 (fun s_ => [(35, .agg #[.bool t331, .bool t332, .bool t333, .bool t334, .int .i64 t335, .int .i64 t336, .string t337, .string t338]), (39, s_.1), (40, .tuple #[.agg #[.bool t362, .bool t363, .bool t364, .bool t365, .int .i64 t366, .int .i64 t367, .string t368, .string t369], s_.2.1, .int .i64 t373]), (9, .pointer (some ⟨s_.2.2, 0, none⟩)), (34, .tuple #[.agg #[.bool t362, .bool t363, .bool t364, .bool t365, .int .i64 t366, .int .i64 t367, .string t368, .string t369], s_.2.1, .int .i64 t373]), (41, .agg #[.bool t362, .bool t363, .bool t364, .bool t365, .int .i64 t366, .int .i64 t367, .string t368, .string t369]), (42, s_.2.1), (43, .int .i64 t373)]) (fun s_ w' => (Kd.R k45 45 w' w.heap.size (fun k_ => some k_ ≠ (v351 : Value).ownBlock ∧ some k_ ≠ (s_.1 : Value).ownBlock ∧ some k_ ≠ (s_.2.1 : Value).ownBlock) (.slice Ao25 t339.length co25) t339) ∧ (Kd.R k45 45 w' w.heap.size (fun k_ => some k_ ≠ (.slice Ao25 t339.length co25 : Value).ownBlock ∧ some k_ ≠ (s_.1 : Value).ownBlock ∧ some k_ ≠ (s_.2.1 : Value).ownBlock) v351 t350) ∧ (Kd.R k45 45 w' w.heap.size (fun k_ => some k_ ≠ (.slice Ao25 t339.length co25 : Value).ownBlock ∧ some k_ ≠ (v351 : Value).ownBlock ∧ some k_ ≠ (s_.2.1 : Value).ownBlock) s_.1 t359) ∧ (Kd.R k45 45 w' w.heap.size (fun k_ => some k_ ≠ (.slice Ao25 t339.length co25 : Value).ownBlock ∧ some k_ ≠ (v351 : Value).ownBlock ∧ some k_ ≠ (s_.1 : Value).ownBlock) s_.2.1 t370) ∧ (w'.heap[gb354]? = some (.cells #[.bool t342, .bool t343, .bool t344, .bool t345, .int .i64 t346, .int .i64 t347, .string t348, .string t349] 23 (0, 0))) ∧ (w'.heap[s_.2.2]? = some (.cells #[.bool false, .bool false, .bool false, .bool false, .int .i64 0, .int .i64 0, .string (⟨#[]⟩ : ByteArray), .string (⟨#[]⟩ : ByteArray)] 23 (0, 0))) ∧ (w.heap.size ≤ s_.2.2) ∧ (w.heap.size ≤ s_.2.2) ∧ (gb354 ≠ s_.2.2) ∧ (s_.2.2 ≠ gb354) ∧ (Below w.heap.size w w')) ?_ ?_
 rotate_left
 ·intro hCont
  refine two_ (i := 0) (j := 10) (Ni := some 35) (Nj := some 9) d4x8 d4x4 rfl rfl rfl rfl (two_of HT_.out (by kernel_rfl)) (by decide) (by decide) (fun K hK => ?_) (fun K hK => ?_)
  ·skip
   refine goes_ Tryd.func16 (by kernel_rfl) rfl #[] (by rfl) rfl rfl (by (try simp only [List.map_toArray, List.map_cons, List.map_nil]); first | done | rfl | (simp only [List.length_drop, List.length_take]; rfl)) ?_
   with_reducible refine (keys_First.calls  t331 t332 t333 t334 t335 t336 t337 t338 _ A11.out).mono ?_
   rintro e w32 ⟨rfl, hb⟩
   refine ⟨_, rfl, ?_⟩
   have n0_ := Aside0.mk (Kd.R_below (by (with_reducible repeat (first | apply Kd.R_alloc | apply Kd.R_drewN | apply Kd.R_drew)); exact HO341.out) hb)
   have n1_ := Aside0.mk (Kd.R_below (by (with_reducible repeat (first | apply Kd.R_alloc | apply Kd.R_drewN | apply Kd.R_drew)); exact HO352.out) hb)
   have n2_ := Aside0.mk (blk_below (bk_ BK354) hb)
   have n3_ := Aside0.mk (below_step (hb_ HB) hb)
   clear HO341
   clear HO352
   clear BK354
   clear HB
   have HO341 := n0_
   have HO352 := n1_
   have BK354 := n2_
   have HB := n3_
   clear n0_ n1_ n2_ n3_
   (try clear hb)
   (try clear hb2)
   (try clear hk)
   (try clear hi)
   refine hK.out _ _ trivial (fun hHeld => ?_)
   clear hK K
   refine norm_ (a' := ?_) ?_ ?_
   rotate_left
   ·show Act.put _ (some 35) _ = _
    simp only [Act.put, la_, lb_, lc_, i64_w, i32_w]
    rfl
   refine two_ (i := 4) (j := 10) (Ni := some 39) (Nj := some 9) d4x10 d4x9 rfl rfl rfl rfl (two_of HT_.out (by kernel_rfl)) (by decide) (by decide) (fun K hK => ?_) (fun K hK => ?_)
   ·skip
    refine goes_ Tryd.func10 (by kernel_rfl) rfl #[.slice A0 y355.length c0] (by rfl) rfl rfl (by (try simp only [List.map_toArray, List.map_cons, List.map_nil]); first | done | rfl | (simp only [List.length_drop, List.length_take]; rfl)) ?_
    with_reducible refine (headgatelaw21_few.calls _ _ y355 t359 _ ?side1 ?side2 A15.out).mono ?_
    (case side1 => repeat (first | exact (Kd.C_below HR358.out HB.out) | (with_reducible refine Kd.C_alloc ?_ _) | (with_reducible refine Kd.C_drewN ?_ _) | (with_reducible refine Kd.C_drew ?_)))
    (case side2 => exact HC358.out)
    rintro e w33 ⟨v360, rfl, ho0, hb⟩
    refine ⟨_, rfl, ?_⟩
    have n0_ := Aside0.mk (Kd.R_elder' (by (with_reducible repeat (first | apply Kd.R_alloc | apply Kd.R_drewN | apply Kd.R_drew)); exact HO341.out) (Kd.R_base ho0) hb)
    have n1_ := Aside0.mk (Kd.R_elder' (by (with_reducible repeat (first | apply Kd.R_alloc | apply Kd.R_drewN | apply Kd.R_drew)); exact HO352.out) (Kd.R_base ho0) hb)
    have n2_ := Aside0.mk (Kd.R_lower (Kd.R_new' (Kd.R_new' ho0 (Kd.R_lt (by (with_reducible repeat (first | apply Kd.R_alloc | apply Kd.R_drewN | apply Kd.R_drew)); exact HO341.out))) (Kd.R_lt (by (with_reducible repeat (first | apply Kd.R_alloc | apply Kd.R_drewN | apply Kd.R_drew)); exact HO352.out))) (below_size (hb_ HB)))
    have n3_ := Aside0.mk (blk_below (bk_ BK354) hb)
    have n4_ := Aside0.mk (below_step (hb_ HB) hb)
    clear HO341
    clear HO352
    clear BK354
    clear HB
    have HO341 := n0_
    have HO352 := n1_
    have HO361 := n2_
    have BK354 := n3_
    have HB := n4_
    clear n0_ n1_ n2_ n3_ n4_
    (try clear hb)
    (try clear hb2)
    (try clear hk)
    (try clear hi)
    (try clear ho0)
    obtain ⟨Ao34, co34, eo34⟩ := Kd.R_slice HO361.out
    (first | subst eo34 | (injection eo34 with f1_ f2_ f3_; have f4_ := f1_.symm; have f5_ := f3_.symm; clear f1_ f2_ f3_; subst f4_; subst f5_))
    refine hK.out _ _ trivial (fun hHeld => ?_)
    clear hK K
    refine norm_ (a' := ?_) ?_ ?_
    rotate_left
    ·show Act.put _ (some 39) _ = _
     simp only [Act.put, la_, lb_, lc_, i64_w, i32_w]
     rfl
    refine two_ (i := 5) (j := 10) (Ni := some 40) (Nj := some 9) d4x12 d4x11 rfl rfl rfl rfl (two_of HT_.out (by kernel_rfl)) (by decide) (by decide) (fun K hK => ?_) (fun K hK => ?_)
    ·skip
     refine goes_ Tryd.func11 (by kernel_rfl) rfl #[.agg #[.bool t331, .bool t332, .bool t333, .bool t334, .int .i64 t335, .int .i64 t336, .string t337, .string t338], .slice Ao34 t359.length co34] (by rfl) rfl rfl (by (try simp only [List.map_toArray, List.map_cons, List.map_nil]); first | done | rfl | (simp only [List.length_drop, List.length_take]; rfl)) ?_
     with_reducible refine (keys_Answer.calls t331 t332 t333 t334 t335 t336 t337 t338 _ _ t359 t362 t363 t364 t365 t366 t367 t368 t369 t370 t373 _ ?side1 ?side2 ?side3 A16.out).mono ?_
     (case side1 => repeat (first | exact (Kd.R_reads' HO361.out).2.2 | (with_reducible refine Kd.C_alloc ?_ _) | (with_reducible refine Kd.C_drewN ?_ _) | (with_reducible refine Kd.C_drew ?_)))
     (case side2 => exact (Kd.R_reads' HO361.out).2.1)
     (case side3 => first | ((refine Glob.keep HG.out ?_); (repeat (first | (with_reducible first | exact HB.out | apply below_alloc | apply pw_below_drewN | apply below_drew1 | refine below_set ?_ GE354.out) | exact HB.out)); done) | exact HG.out)
     rintro e w35 ⟨v371, rfl, ho0, hb⟩
     refine ⟨_, rfl, ?_⟩
     have n0_ := Aside0.mk (Kd.R_elder' (by (with_reducible repeat (first | apply Kd.R_alloc | apply Kd.R_drewN | apply Kd.R_drew)); exact HO341.out) (Kd.R_base ho0) hb)
     have n1_ := Aside0.mk (Kd.R_elder' (by (with_reducible repeat (first | apply Kd.R_alloc | apply Kd.R_drewN | apply Kd.R_drew)); exact HO352.out) (Kd.R_base ho0) hb)
     have n2_ := Aside0.mk (Kd.R_elder' (by (with_reducible repeat (first | apply Kd.R_alloc | apply Kd.R_drewN | apply Kd.R_drew)); exact HO361.out) (Kd.R_base ho0) hb)
     have n3_ := Aside0.mk (Kd.R_lower (Kd.R_new' (Kd.R_new' (Kd.R_new' ho0 (Kd.R_lt (by (with_reducible repeat (first | apply Kd.R_alloc | apply Kd.R_drewN | apply Kd.R_drew)); exact HO341.out))) (Kd.R_lt (by (with_reducible repeat (first | apply Kd.R_alloc | apply Kd.R_drewN | apply Kd.R_drew)); exact HO352.out))) (Kd.R_lt (by (with_reducible repeat (first | apply Kd.R_alloc | apply Kd.R_drewN | apply Kd.R_drew)); exact HO361.out))) (below_size (hb_ HB)))
     have n4_ := Aside0.mk (blk_below (bk_ BK354) hb)
     have n5_ := Aside0.mk (below_step (hb_ HB) hb)
     clear HO341
     clear HO352
     clear HO361
     clear BK354
     clear HB
     have HO341 := n0_
     have HO352 := n1_
     have HO361 := n2_
     have HO372 := n3_
     have BK354 := n4_
     have HB := n5_
     clear n0_ n1_ n2_ n3_ n4_ n5_
     (try clear hb)
     (try clear hb2)
     (try clear hk)
     (try clear hi)
     (try clear ho0)
     refine hK.out _ _ trivial (fun hHeld => ?_)
     clear hK K
     refine norm_ (a' := ?_) ?_ ?_
     rotate_left
     ·show Act.put _ (some 40) _ = _
      simp only [Act.put, la_, lb_, lc_, i64_w, i32_w]
      rfl
     refine pon_ 6 (some 34) d4x14 HT_.out ?_
     refine pon_ 7 (some 41) d4x16 HT_.out ?_
     refine pon_ 8 (some 42) d4x19 HT_.out ?_
     refine pon_ 9 (some 43) d4x21 HT_.out ?_
     refine one_ (i := 10) (N := some 9) d4x22 rfl rfl (one_of HT_.out (by kernel_rfl)) (by decide) (fun K hK => ?_)
     refine box_step ?hg (N := 9) ?hd (cs := #[.bool false, .bool false, .bool false, .bool false, .int .i64 0, .int .i64 0, .string (⟨#[]⟩ : ByteArray), .string (⟨#[]⟩ : ByteArray)]) (t := 23) ?hr ?_; (case hd => rfl); (case hg => rfl); (case hr => first | (go_simp; done) | (go_simp; rfl))
     intro gb374 hg w36 hbox hb
     have n0_ := Aside0.mk (Kd.R_below (by (with_reducible repeat (first | apply Kd.R_alloc | apply Kd.R_drewN | apply Kd.R_drew)); exact HO341.out) hb)
     have n1_ := Aside0.mk (Kd.R_below (by (with_reducible repeat (first | apply Kd.R_alloc | apply Kd.R_drewN | apply Kd.R_drew)); exact HO352.out) hb)
     have n2_ := Aside0.mk (Kd.R_below (by (with_reducible repeat (first | apply Kd.R_alloc | apply Kd.R_drewN | apply Kd.R_drew)); exact HO361.out) hb)
     have n3_ := Aside0.mk (Kd.R_below (by (with_reducible repeat (first | apply Kd.R_alloc | apply Kd.R_drewN | apply Kd.R_drew)); exact HO372.out) hb)
     have n4_ := Aside0.mk (blk_below (bk_ BK354) hb)
     have n5_ := Aside0.mk (below_step (hb_ HB) hb)
     have n6_ := Aside0.mk (hbox)
     have n7_ := Aside0.mk ((by rw [hg]; exact (below_size (hb_ HB)) : w.heap.size ≤ gb374))
     have n8_ := Aside0.mk ((by rw [hg]; exact (below_size (hb_ HB)) : w.heap.size ≤ gb374))
     have n9_ := Aside0.mk ((by rw [hg]; exact Nat.ne_of_lt (blk_lt (g := gb354) (o := .cells #[.bool t342, .bool t343, .bool t344, .bool t345, .int .i64 t346, .int .i64 t347, .string t348, .string t349] 23 (0, 0)) (bk_ BK354)) : gb354 ≠ gb374))
     have n10_ := Aside0.mk ((by rw [hg]; exact Nat.ne_of_gt (blk_lt (g := gb354) (o := .cells #[.bool t342, .bool t343, .bool t344, .bool t345, .int .i64 t346, .int .i64 t347, .string t348, .string t349] 23 (0, 0)) (bk_ BK354)) : gb374 ≠ gb354))
     clear HO341
     clear HO352
     clear HO361
     clear HO372
     clear BK354
     clear HB
     have HO341 := n0_
     have HO352 := n1_
     have HO361 := n2_
     have HO372 := n3_
     have BK354 := n4_
     have HB := n5_
     have BK374 := n6_
     have GW374 := n7_
     have GE374 := n8_
     have NB354_374 := n9_
     have NB374_354 := n10_
     clear n0_ n1_ n2_ n3_ n4_ n5_ n6_ n7_ n8_ n9_ n10_
     clear hb hbox hg
     refine hK.out _ _ trivial (fun hHeld => ?_)
     clear hK K
     refine norm_ (a' := ?_) ?_ ?_
     rotate_left
     ·show Act.put _ (some 9) _ = _
      simp only [Act.put, la_, lb_, lc_, i64_w, i32_w]
      rfl
     exact norm_ (by simp only [putAll, Act.put, la_, lb_, lc_]) (hCont (.slice Ao34 t359.length co34, v371, gb374) _ ⟨(by (with_reducible repeat (first | apply Kd.R_alloc | apply Kd.R_drewN | apply Kd.R_drew)); exact Kd.R_mono HO341.out (fun _ hk => ⟨hk.1.1, ⟨hk.1.2, hk.2⟩⟩)), (by (with_reducible repeat (first | apply Kd.R_alloc | apply Kd.R_drewN | apply Kd.R_drew)); exact Kd.R_mono HO352.out (fun _ hk => ⟨hk.1.1, ⟨hk.1.2, hk.2⟩⟩)), (by (with_reducible repeat (first | apply Kd.R_alloc | apply Kd.R_drewN | apply Kd.R_drew)); exact Kd.R_mono HO361.out (fun _ hk => ⟨hk.1.1.2, ⟨hk.1.2, hk.2⟩⟩)), (by (with_reducible repeat (first | apply Kd.R_alloc | apply Kd.R_drewN | apply Kd.R_drew)); exact Kd.R_mono HO372.out (fun _ hk => ⟨hk.1.1.2, ⟨hk.1.2, hk.2⟩⟩)), (bk_ BK354), (bk_ BK374), GW374.out, GE374.out, NB354_374.out, NB374_354.out, (hb_ HB)⟩)
    ·skip
     refine box_step ?hg (N := 9) ?hd (cs := #[.bool false, .bool false, .bool false, .bool false, .int .i64 0, .int .i64 0, .string (⟨#[]⟩ : ByteArray), .string (⟨#[]⟩ : ByteArray)]) (t := 23) ?hr ?_; (case hd => rfl); (case hg => rfl); (case hr => first | (go_simp; done) | (go_simp; rfl))
     intro gb374 hg w34 hbox hb
     have n0_ := Aside0.mk (Kd.R_below (by (with_reducible repeat (first | apply Kd.R_alloc | apply Kd.R_drewN | apply Kd.R_drew)); exact HO341.out) hb)
     have n1_ := Aside0.mk (Kd.R_below (by (with_reducible repeat (first | apply Kd.R_alloc | apply Kd.R_drewN | apply Kd.R_drew)); exact HO352.out) hb)
     have n2_ := Aside0.mk (Kd.R_below (by (with_reducible repeat (first | apply Kd.R_alloc | apply Kd.R_drewN | apply Kd.R_drew)); exact HO361.out) hb)
     have n3_ := Aside0.mk (blk_below (bk_ BK354) hb)
     have n4_ := Aside0.mk (below_step (hb_ HB) hb)
     have n5_ := Aside0.mk (hbox)
     have n6_ := Aside0.mk ((by rw [hg]; exact (below_size (hb_ HB)) : w.heap.size ≤ gb374))
     have n7_ := Aside0.mk ((by rw [hg]; exact (below_size (hb_ HB)) : w.heap.size ≤ gb374))
     have n8_ := Aside0.mk ((by rw [hg]; exact Nat.ne_of_lt (blk_lt (g := gb354) (o := .cells #[.bool t342, .bool t343, .bool t344, .bool t345, .int .i64 t346, .int .i64 t347, .string t348, .string t349] 23 (0, 0)) (bk_ BK354)) : gb354 ≠ gb374))
     have n9_ := Aside0.mk ((by rw [hg]; exact Nat.ne_of_gt (blk_lt (g := gb354) (o := .cells #[.bool t342, .bool t343, .bool t344, .bool t345, .int .i64 t346, .int .i64 t347, .string t348, .string t349] 23 (0, 0)) (bk_ BK354)) : gb374 ≠ gb354))
     clear HO341
     clear HO352
     clear HO361
     clear BK354
     clear HB
     have HO341 := n0_
     have HO352 := n1_
     have HO361 := n2_
     have BK354 := n3_
     have HB := n4_
     have BK374 := n5_
     have GW374 := n6_
     have GE374 := n7_
     have NB354_374 := n8_
     have NB374_354 := n9_
     clear n0_ n1_ n2_ n3_ n4_ n5_ n6_ n7_ n8_ n9_
     clear hb hbox hg
     obtain ⟨Ao35, co35, eo35⟩ := Kd.R_slice HO361.out
     (first | subst eo35 | (injection eo35 with f1_ f2_ f3_; have f4_ := f1_.symm; have f5_ := f3_.symm; clear f1_ f2_ f3_; subst f4_; subst f5_))
     refine hK.out _ _ trivial (fun hHeld => ?_)
     clear hK K
     refine norm_ (a' := ?_) ?_ ?_
     rotate_left
     ·show Act.put _ (some 9) _ = _
      simp only [Act.put, la_, lb_, lc_, i64_w, i32_w]
      rfl
     refine one_ (i := 5) (N := some 40) d4x13 rfl rfl (one_of HT_.out (by kernel_rfl)) (by decide) (fun K hK => ?_)
     refine goes_ Tryd.func11 (by kernel_rfl) rfl #[.agg #[.bool t331, .bool t332, .bool t333, .bool t334, .int .i64 t335, .int .i64 t336, .string t337, .string t338], .slice Ao35 t359.length co35] (by rfl) rfl rfl (by (try simp only [List.map_toArray, List.map_cons, List.map_nil]); first | done | rfl | (simp only [List.length_drop, List.length_take]; rfl)) ?_
     with_reducible refine (keys_Answer.calls t331 t332 t333 t334 t335 t336 t337 t338 _ _ t359 t362 t363 t364 t365 t366 t367 t368 t369 t370 t373 _ ?side1 ?side2 ?side3 A16.out).mono ?_
     (case side1 => repeat (first | exact (Kd.R_reads' HO361.out).2.2 | (with_reducible refine Kd.C_alloc ?_ _) | (with_reducible refine Kd.C_drewN ?_ _) | (with_reducible refine Kd.C_drew ?_)))
     (case side2 => exact (Kd.R_reads' HO361.out).2.1)
     (case side3 => first | ((refine Glob.keep HG.out ?_); (repeat (first | (with_reducible first | exact HB.out | apply below_alloc | apply pw_below_drewN | apply below_drew1 | refine below_set ?_ GE354.out | refine below_set ?_ GE374.out) | exact HB.out)); done) | exact HG.out)
     rintro e w36 ⟨v371, rfl, ho0, hb⟩
     refine ⟨_, rfl, ?_⟩
     have n0_ := Aside0.mk (Kd.R_elder' (by (with_reducible repeat (first | apply Kd.R_alloc | apply Kd.R_drewN | apply Kd.R_drew)); exact HO341.out) (Kd.R_base ho0) hb)
     have n1_ := Aside0.mk (Kd.R_elder' (by (with_reducible repeat (first | apply Kd.R_alloc | apply Kd.R_drewN | apply Kd.R_drew)); exact HO352.out) (Kd.R_base ho0) hb)
     have n2_ := Aside0.mk (Kd.R_elder' (by (with_reducible repeat (first | apply Kd.R_alloc | apply Kd.R_drewN | apply Kd.R_drew)); exact HO361.out) (Kd.R_base ho0) hb)
     have n3_ := Aside0.mk (Kd.R_lower (Kd.R_new' (Kd.R_new' (Kd.R_new' ho0 (Kd.R_lt (by (with_reducible repeat (first | apply Kd.R_alloc | apply Kd.R_drewN | apply Kd.R_drew)); exact HO341.out))) (Kd.R_lt (by (with_reducible repeat (first | apply Kd.R_alloc | apply Kd.R_drewN | apply Kd.R_drew)); exact HO352.out))) (Kd.R_lt (by (with_reducible repeat (first | apply Kd.R_alloc | apply Kd.R_drewN | apply Kd.R_drew)); exact HO361.out))) (below_size (hb_ HB)))
     have n4_ := Aside0.mk (blk_below (bk_ BK354) hb)
     have n5_ := Aside0.mk (blk_below (bk_ BK374) hb)
     have n6_ := Aside0.mk (below_step (hb_ HB) hb)
     clear HO341
     clear HO352
     clear HO361
     clear BK354
     clear BK374
     clear HB
     have HO341 := n0_
     have HO352 := n1_
     have HO361 := n2_
     have HO372 := n3_
     have BK354 := n4_
     have BK374 := n5_
     have HB := n6_
     clear n0_ n1_ n2_ n3_ n4_ n5_ n6_
     (try clear hb)
     (try clear hb2)
     (try clear hk)
     (try clear hi)
     (try clear ho0)
     refine hK.out _ _ trivial (fun hHeld => ?_)
     clear hK K
     refine norm_ (a' := ?_) ?_ ?_
     rotate_left
     ·show Act.put _ (some 40) _ = _
      simp only [Act.put, la_, lb_, lc_, i64_w, i32_w]
      rfl
     refine pon_ 6 (some 34) d4x15 HT_.out ?_
     refine pon_ 7 (some 41) d4x17 HT_.out ?_
     refine pon_ 8 (some 42) d4x20 HT_.out ?_
     refine pon_ 9 (some 43) d4x22 HT_.out ?_
     exact norm_ (by simp only [putAll, Act.put, la_, lb_, lc_]) (hCont (.slice Ao35 t359.length co35, v371, gb374) _ ⟨(by (with_reducible repeat (first | apply Kd.R_alloc | apply Kd.R_drewN | apply Kd.R_drew)); exact Kd.R_mono HO341.out (fun _ hk => ⟨hk.1.1, ⟨hk.1.2, hk.2⟩⟩)), (by (with_reducible repeat (first | apply Kd.R_alloc | apply Kd.R_drewN | apply Kd.R_drew)); exact Kd.R_mono HO352.out (fun _ hk => ⟨hk.1.1, ⟨hk.1.2, hk.2⟩⟩)), (by (with_reducible repeat (first | apply Kd.R_alloc | apply Kd.R_drewN | apply Kd.R_drew)); exact Kd.R_mono HO361.out (fun _ hk => ⟨hk.1.1.2, ⟨hk.1.2, hk.2⟩⟩)), (by (with_reducible repeat (first | apply Kd.R_alloc | apply Kd.R_drewN | apply Kd.R_drew)); exact Kd.R_mono HO372.out (fun _ hk => ⟨hk.1.1.2, ⟨hk.1.2, hk.2⟩⟩)), (bk_ BK354), (bk_ BK374), GW374.out, GE374.out, NB354_374.out, NB374_354.out, (hb_ HB)⟩)
   ·skip
    refine box_step ?hg (N := 9) ?hd (cs := #[.bool false, .bool false, .bool false, .bool false, .int .i64 0, .int .i64 0, .string (⟨#[]⟩ : ByteArray), .string (⟨#[]⟩ : ByteArray)]) (t := 23) ?hr ?_; (case hd => rfl); (case hg => rfl); (case hr => first | (go_simp; done) | (go_simp; rfl))
    intro gb374 hg w33 hbox hb
    have n0_ := Aside0.mk (Kd.R_below (by (with_reducible repeat (first | apply Kd.R_alloc | apply Kd.R_drewN | apply Kd.R_drew)); exact HO341.out) hb)
    have n1_ := Aside0.mk (Kd.R_below (by (with_reducible repeat (first | apply Kd.R_alloc | apply Kd.R_drewN | apply Kd.R_drew)); exact HO352.out) hb)
    have n2_ := Aside0.mk (blk_below (bk_ BK354) hb)
    have n3_ := Aside0.mk (below_step (hb_ HB) hb)
    have n4_ := Aside0.mk (hbox)
    have n5_ := Aside0.mk ((by rw [hg]; exact (below_size (hb_ HB)) : w.heap.size ≤ gb374))
    have n6_ := Aside0.mk ((by rw [hg]; exact (below_size (hb_ HB)) : w.heap.size ≤ gb374))
    have n7_ := Aside0.mk ((by rw [hg]; exact Nat.ne_of_lt (blk_lt (g := gb354) (o := .cells #[.bool t342, .bool t343, .bool t344, .bool t345, .int .i64 t346, .int .i64 t347, .string t348, .string t349] 23 (0, 0)) (bk_ BK354)) : gb354 ≠ gb374))
    have n8_ := Aside0.mk ((by rw [hg]; exact Nat.ne_of_gt (blk_lt (g := gb354) (o := .cells #[.bool t342, .bool t343, .bool t344, .bool t345, .int .i64 t346, .int .i64 t347, .string t348, .string t349] 23 (0, 0)) (bk_ BK354)) : gb374 ≠ gb354))
    clear HO341
    clear HO352
    clear BK354
    clear HB
    have HO341 := n0_
    have HO352 := n1_
    have BK354 := n2_
    have HB := n3_
    have BK374 := n4_
    have GW374 := n5_
    have GE374 := n6_
    have NB354_374 := n7_
    have NB374_354 := n8_
    clear n0_ n1_ n2_ n3_ n4_ n5_ n6_ n7_ n8_
    clear hb hbox hg
    refine hK.out _ _ trivial (fun hHeld => ?_)
    clear hK K
    refine norm_ (a' := ?_) ?_ ?_
    rotate_left
    ·show Act.put _ (some 9) _ = _
     simp only [Act.put, la_, lb_, lc_, i64_w, i32_w]
     rfl
    refine one_ (i := 4) (N := some 39) d4x11 rfl rfl (one_of HT_.out (by kernel_rfl)) (by decide) (fun K hK => ?_)
    refine goes_ Tryd.func10 (by kernel_rfl) rfl #[.slice A0 y355.length c0] (by rfl) rfl rfl (by (try simp only [List.map_toArray, List.map_cons, List.map_nil]); first | done | rfl | (simp only [List.length_drop, List.length_take]; rfl)) ?_
    with_reducible refine (headgatelaw21_few.calls _ _ y355 t359 _ ?side1 ?side2 A15.out).mono ?_
    (case side1 => repeat (first | exact (Kd.C_below HR358.out HB.out) | (with_reducible refine Kd.C_alloc ?_ _) | (with_reducible refine Kd.C_drewN ?_ _) | (with_reducible refine Kd.C_drew ?_)))
    (case side2 => exact HC358.out)
    rintro e w34 ⟨v360, rfl, ho0, hb⟩
    refine ⟨_, rfl, ?_⟩
    have n0_ := Aside0.mk (Kd.R_elder' (by (with_reducible repeat (first | apply Kd.R_alloc | apply Kd.R_drewN | apply Kd.R_drew)); exact HO341.out) (Kd.R_base ho0) hb)
    have n1_ := Aside0.mk (Kd.R_elder' (by (with_reducible repeat (first | apply Kd.R_alloc | apply Kd.R_drewN | apply Kd.R_drew)); exact HO352.out) (Kd.R_base ho0) hb)
    have n2_ := Aside0.mk (Kd.R_lower (Kd.R_new' (Kd.R_new' ho0 (Kd.R_lt (by (with_reducible repeat (first | apply Kd.R_alloc | apply Kd.R_drewN | apply Kd.R_drew)); exact HO341.out))) (Kd.R_lt (by (with_reducible repeat (first | apply Kd.R_alloc | apply Kd.R_drewN | apply Kd.R_drew)); exact HO352.out))) (below_size (hb_ HB)))
    have n3_ := Aside0.mk (blk_below (bk_ BK354) hb)
    have n4_ := Aside0.mk (blk_below (bk_ BK374) hb)
    have n5_ := Aside0.mk (below_step (hb_ HB) hb)
    clear HO341
    clear HO352
    clear BK354
    clear BK374
    clear HB
    have HO341 := n0_
    have HO352 := n1_
    have HO361 := n2_
    have BK354 := n3_
    have BK374 := n4_
    have HB := n5_
    clear n0_ n1_ n2_ n3_ n4_ n5_
    (try clear hb)
    (try clear hb2)
    (try clear hk)
    (try clear hi)
    (try clear ho0)
    obtain ⟨Ao35, co35, eo35⟩ := Kd.R_slice HO361.out
    (first | subst eo35 | (injection eo35 with f1_ f2_ f3_; have f4_ := f1_.symm; have f5_ := f3_.symm; clear f1_ f2_ f3_; subst f4_; subst f5_))
    refine hK.out _ _ trivial (fun hHeld => ?_)
    clear hK K
    refine norm_ (a' := ?_) ?_ ?_
    rotate_left
    ·show Act.put _ (some 39) _ = _
     simp only [Act.put, la_, lb_, lc_, i64_w, i32_w]
     rfl
    refine one_ (i := 5) (N := some 40) d4x13 rfl rfl (one_of HT_.out (by kernel_rfl)) (by decide) (fun K hK => ?_)
    refine goes_ Tryd.func11 (by kernel_rfl) rfl #[.agg #[.bool t331, .bool t332, .bool t333, .bool t334, .int .i64 t335, .int .i64 t336, .string t337, .string t338], .slice Ao35 t359.length co35] (by rfl) rfl rfl (by (try simp only [List.map_toArray, List.map_cons, List.map_nil]); first | done | rfl | (simp only [List.length_drop, List.length_take]; rfl)) ?_
    with_reducible refine (keys_Answer.calls t331 t332 t333 t334 t335 t336 t337 t338 _ _ t359 t362 t363 t364 t365 t366 t367 t368 t369 t370 t373 _ ?side1 ?side2 ?side3 A16.out).mono ?_
    (case side1 => repeat (first | exact (Kd.R_reads' HO361.out).2.2 | (with_reducible refine Kd.C_alloc ?_ _) | (with_reducible refine Kd.C_drewN ?_ _) | (with_reducible refine Kd.C_drew ?_)))
    (case side2 => exact (Kd.R_reads' HO361.out).2.1)
    (case side3 => first | ((refine Glob.keep HG.out ?_); (repeat (first | (with_reducible first | exact HB.out | apply below_alloc | apply pw_below_drewN | apply below_drew1 | refine below_set ?_ GE354.out | refine below_set ?_ GE374.out) | exact HB.out)); done) | exact HG.out)
    rintro e w36 ⟨v371, rfl, ho0, hb⟩
    refine ⟨_, rfl, ?_⟩
    have n0_ := Aside0.mk (Kd.R_elder' (by (with_reducible repeat (first | apply Kd.R_alloc | apply Kd.R_drewN | apply Kd.R_drew)); exact HO341.out) (Kd.R_base ho0) hb)
    have n1_ := Aside0.mk (Kd.R_elder' (by (with_reducible repeat (first | apply Kd.R_alloc | apply Kd.R_drewN | apply Kd.R_drew)); exact HO352.out) (Kd.R_base ho0) hb)
    have n2_ := Aside0.mk (Kd.R_elder' (by (with_reducible repeat (first | apply Kd.R_alloc | apply Kd.R_drewN | apply Kd.R_drew)); exact HO361.out) (Kd.R_base ho0) hb)
    have n3_ := Aside0.mk (Kd.R_lower (Kd.R_new' (Kd.R_new' (Kd.R_new' ho0 (Kd.R_lt (by (with_reducible repeat (first | apply Kd.R_alloc | apply Kd.R_drewN | apply Kd.R_drew)); exact HO341.out))) (Kd.R_lt (by (with_reducible repeat (first | apply Kd.R_alloc | apply Kd.R_drewN | apply Kd.R_drew)); exact HO352.out))) (Kd.R_lt (by (with_reducible repeat (first | apply Kd.R_alloc | apply Kd.R_drewN | apply Kd.R_drew)); exact HO361.out))) (below_size (hb_ HB)))
    have n4_ := Aside0.mk (blk_below (bk_ BK354) hb)
    have n5_ := Aside0.mk (blk_below (bk_ BK374) hb)
    have n6_ := Aside0.mk (below_step (hb_ HB) hb)
    clear HO341
    clear HO352
    clear HO361
    clear BK354
    clear BK374
    clear HB
    have HO341 := n0_
    have HO352 := n1_
    have HO361 := n2_
    have HO372 := n3_
    have BK354 := n4_
    have BK374 := n5_
    have HB := n6_
    clear n0_ n1_ n2_ n3_ n4_ n5_ n6_
    (try clear hb)
    (try clear hb2)
    (try clear hk)
    (try clear hi)
    (try clear ho0)
    refine hK.out _ _ trivial (fun hHeld => ?_)
    clear hK K
    refine norm_ (a' := ?_) ?_ ?_
    rotate_left
    ·show Act.put _ (some 40) _ = _
     simp only [Act.put, la_, lb_, lc_, i64_w, i32_w]
     rfl
    refine pon_ 6 (some 34) d4x15 HT_.out ?_
    refine pon_ 7 (some 41) d4x17 HT_.out ?_
    refine pon_ 8 (some 42) d4x20 HT_.out ?_
    refine pon_ 9 (some 43) d4x22 HT_.out ?_
    exact norm_ (by simp only [putAll, Act.put, la_, lb_, lc_]) (hCont (.slice Ao35 t359.length co35, v371, gb374) _ ⟨(by (with_reducible repeat (first | apply Kd.R_alloc | apply Kd.R_drewN | apply Kd.R_drew)); exact Kd.R_mono HO341.out (fun _ hk => ⟨hk.1.1, ⟨hk.1.2, hk.2⟩⟩)), (by (with_reducible repeat (first | apply Kd.R_alloc | apply Kd.R_drewN | apply Kd.R_drew)); exact Kd.R_mono HO352.out (fun _ hk => ⟨hk.1.1, ⟨hk.1.2, hk.2⟩⟩)), (by (with_reducible repeat (first | apply Kd.R_alloc | apply Kd.R_drewN | apply Kd.R_drew)); exact Kd.R_mono HO361.out (fun _ hk => ⟨hk.1.1.2, ⟨hk.1.2, hk.2⟩⟩)), (by (with_reducible repeat (first | apply Kd.R_alloc | apply Kd.R_drewN | apply Kd.R_drew)); exact Kd.R_mono HO372.out (fun _ hk => ⟨hk.1.1.2, ⟨hk.1.2, hk.2⟩⟩)), (bk_ BK354), (bk_ BK374), GW374.out, GE374.out, NB354_374.out, NB374_354.out, (hb_ HB)⟩)
  ·skip
   refine box_step ?hg (N := 9) ?hd (cs := #[.bool false, .bool false, .bool false, .bool false, .int .i64 0, .int .i64 0, .string (⟨#[]⟩ : ByteArray), .string (⟨#[]⟩ : ByteArray)]) (t := 23) ?hr ?_; (case hd => rfl); (case hg => rfl); (case hr => first | (go_simp; done) | (go_simp; rfl))
   intro gb374 hg w32 hbox hb
   have n0_ := Aside0.mk (Kd.R_below (by (with_reducible repeat (first | apply Kd.R_alloc | apply Kd.R_drewN | apply Kd.R_drew)); exact HO341.out) hb)
   have n1_ := Aside0.mk (Kd.R_below (by (with_reducible repeat (first | apply Kd.R_alloc | apply Kd.R_drewN | apply Kd.R_drew)); exact HO352.out) hb)
   have n2_ := Aside0.mk (blk_below (bk_ BK354) hb)
   have n3_ := Aside0.mk (below_step (hb_ HB) hb)
   have n4_ := Aside0.mk (hbox)
   have n5_ := Aside0.mk ((by rw [hg]; exact (below_size (hb_ HB)) : w.heap.size ≤ gb374))
   have n6_ := Aside0.mk ((by rw [hg]; exact (below_size (hb_ HB)) : w.heap.size ≤ gb374))
   have n7_ := Aside0.mk ((by rw [hg]; exact Nat.ne_of_lt (blk_lt (g := gb354) (o := .cells #[.bool t342, .bool t343, .bool t344, .bool t345, .int .i64 t346, .int .i64 t347, .string t348, .string t349] 23 (0, 0)) (bk_ BK354)) : gb354 ≠ gb374))
   have n8_ := Aside0.mk ((by rw [hg]; exact Nat.ne_of_gt (blk_lt (g := gb354) (o := .cells #[.bool t342, .bool t343, .bool t344, .bool t345, .int .i64 t346, .int .i64 t347, .string t348, .string t349] 23 (0, 0)) (bk_ BK354)) : gb374 ≠ gb354))
   clear HO341
   clear HO352
   clear BK354
   clear HB
   have HO341 := n0_
   have HO352 := n1_
   have BK354 := n2_
   have HB := n3_
   have BK374 := n4_
   have GW374 := n5_
   have GE374 := n6_
   have NB354_374 := n7_
   have NB374_354 := n8_
   clear n0_ n1_ n2_ n3_ n4_ n5_ n6_ n7_ n8_
   clear hb hbox hg
   refine hK.out _ _ trivial (fun hHeld => ?_)
   clear hK K
   refine norm_ (a' := ?_) ?_ ?_
   rotate_left
   ·show Act.put _ (some 9) _ = _
    simp only [Act.put, la_, lb_, lc_, i64_w, i32_w]
    rfl
   refine one_ (i := 0) (N := some 35) d4x9 rfl rfl (one_of HT_.out (by kernel_rfl)) (by decide) (fun K hK => ?_)
   refine goes_ Tryd.func16 (by kernel_rfl) rfl #[] (by rfl) rfl rfl (by (try simp only [List.map_toArray, List.map_cons, List.map_nil]); first | done | rfl | (simp only [List.length_drop, List.length_take]; rfl)) ?_
   with_reducible refine (keys_First.calls  t331 t332 t333 t334 t335 t336 t337 t338 _ A11.out).mono ?_
   rintro e w33 ⟨rfl, hb⟩
   refine ⟨_, rfl, ?_⟩
   have n0_ := Aside0.mk (Kd.R_below (by (with_reducible repeat (first | apply Kd.R_alloc | apply Kd.R_drewN | apply Kd.R_drew)); exact HO341.out) hb)
   have n1_ := Aside0.mk (Kd.R_below (by (with_reducible repeat (first | apply Kd.R_alloc | apply Kd.R_drewN | apply Kd.R_drew)); exact HO352.out) hb)
   have n2_ := Aside0.mk (blk_below (bk_ BK354) hb)
   have n3_ := Aside0.mk (blk_below (bk_ BK374) hb)
   have n4_ := Aside0.mk (below_step (hb_ HB) hb)
   clear HO341
   clear HO352
   clear BK354
   clear BK374
   clear HB
   have HO341 := n0_
   have HO352 := n1_
   have BK354 := n2_
   have BK374 := n3_
   have HB := n4_
   clear n0_ n1_ n2_ n3_ n4_
   (try clear hb)
   (try clear hb2)
   (try clear hk)
   (try clear hi)
   refine hK.out _ _ trivial (fun hHeld => ?_)
   clear hK K
   refine norm_ (a' := ?_) ?_ ?_
   rotate_left
   ·show Act.put _ (some 35) _ = _
    simp only [Act.put, la_, lb_, lc_, i64_w, i32_w]
    rfl
   refine one_ (i := 4) (N := some 39) d4x11 rfl rfl (one_of HT_.out (by kernel_rfl)) (by decide) (fun K hK => ?_)
   refine goes_ Tryd.func10 (by kernel_rfl) rfl #[.slice A0 y355.length c0] (by rfl) rfl rfl (by (try simp only [List.map_toArray, List.map_cons, List.map_nil]); first | done | rfl | (simp only [List.length_drop, List.length_take]; rfl)) ?_
   with_reducible refine (headgatelaw21_few.calls _ _ y355 t359 _ ?side1 ?side2 A15.out).mono ?_
   (case side1 => repeat (first | exact (Kd.C_below HR358.out HB.out) | (with_reducible refine Kd.C_alloc ?_ _) | (with_reducible refine Kd.C_drewN ?_ _) | (with_reducible refine Kd.C_drew ?_)))
   (case side2 => exact HC358.out)
   rintro e w34 ⟨v360, rfl, ho0, hb⟩
   refine ⟨_, rfl, ?_⟩
   have n0_ := Aside0.mk (Kd.R_elder' (by (with_reducible repeat (first | apply Kd.R_alloc | apply Kd.R_drewN | apply Kd.R_drew)); exact HO341.out) (Kd.R_base ho0) hb)
   have n1_ := Aside0.mk (Kd.R_elder' (by (with_reducible repeat (first | apply Kd.R_alloc | apply Kd.R_drewN | apply Kd.R_drew)); exact HO352.out) (Kd.R_base ho0) hb)
   have n2_ := Aside0.mk (Kd.R_lower (Kd.R_new' (Kd.R_new' ho0 (Kd.R_lt (by (with_reducible repeat (first | apply Kd.R_alloc | apply Kd.R_drewN | apply Kd.R_drew)); exact HO341.out))) (Kd.R_lt (by (with_reducible repeat (first | apply Kd.R_alloc | apply Kd.R_drewN | apply Kd.R_drew)); exact HO352.out))) (below_size (hb_ HB)))
   have n3_ := Aside0.mk (blk_below (bk_ BK354) hb)
   have n4_ := Aside0.mk (blk_below (bk_ BK374) hb)
   have n5_ := Aside0.mk (below_step (hb_ HB) hb)
   clear HO341
   clear HO352
   clear BK354
   clear BK374
   clear HB
   have HO341 := n0_
   have HO352 := n1_
   have HO361 := n2_
   have BK354 := n3_
   have BK374 := n4_
   have HB := n5_
   clear n0_ n1_ n2_ n3_ n4_ n5_
   (try clear hb)
   (try clear hb2)
   (try clear hk)
   (try clear hi)
   (try clear ho0)
   obtain ⟨Ao35, co35, eo35⟩ := Kd.R_slice HO361.out
   (first | subst eo35 | (injection eo35 with f1_ f2_ f3_; have f4_ := f1_.symm; have f5_ := f3_.symm; clear f1_ f2_ f3_; subst f4_; subst f5_))
   refine hK.out _ _ trivial (fun hHeld => ?_)
   clear hK K
   refine norm_ (a' := ?_) ?_ ?_
   rotate_left
   ·show Act.put _ (some 39) _ = _
    simp only [Act.put, la_, lb_, lc_, i64_w, i32_w]
    rfl
   refine one_ (i := 5) (N := some 40) d4x13 rfl rfl (one_of HT_.out (by kernel_rfl)) (by decide) (fun K hK => ?_)
   refine goes_ Tryd.func11 (by kernel_rfl) rfl #[.agg #[.bool t331, .bool t332, .bool t333, .bool t334, .int .i64 t335, .int .i64 t336, .string t337, .string t338], .slice Ao35 t359.length co35] (by rfl) rfl rfl (by (try simp only [List.map_toArray, List.map_cons, List.map_nil]); first | done | rfl | (simp only [List.length_drop, List.length_take]; rfl)) ?_
   with_reducible refine (keys_Answer.calls t331 t332 t333 t334 t335 t336 t337 t338 _ _ t359 t362 t363 t364 t365 t366 t367 t368 t369 t370 t373 _ ?side1 ?side2 ?side3 A16.out).mono ?_
   (case side1 => repeat (first | exact (Kd.R_reads' HO361.out).2.2 | (with_reducible refine Kd.C_alloc ?_ _) | (with_reducible refine Kd.C_drewN ?_ _) | (with_reducible refine Kd.C_drew ?_)))
   (case side2 => exact (Kd.R_reads' HO361.out).2.1)
   (case side3 => first | ((refine Glob.keep HG.out ?_); (repeat (first | (with_reducible first | exact HB.out | apply below_alloc | apply pw_below_drewN | apply below_drew1 | refine below_set ?_ GE354.out | refine below_set ?_ GE374.out) | exact HB.out)); done) | exact HG.out)
   rintro e w36 ⟨v371, rfl, ho0, hb⟩
   refine ⟨_, rfl, ?_⟩
   have n0_ := Aside0.mk (Kd.R_elder' (by (with_reducible repeat (first | apply Kd.R_alloc | apply Kd.R_drewN | apply Kd.R_drew)); exact HO341.out) (Kd.R_base ho0) hb)
   have n1_ := Aside0.mk (Kd.R_elder' (by (with_reducible repeat (first | apply Kd.R_alloc | apply Kd.R_drewN | apply Kd.R_drew)); exact HO352.out) (Kd.R_base ho0) hb)
   have n2_ := Aside0.mk (Kd.R_elder' (by (with_reducible repeat (first | apply Kd.R_alloc | apply Kd.R_drewN | apply Kd.R_drew)); exact HO361.out) (Kd.R_base ho0) hb)
   have n3_ := Aside0.mk (Kd.R_lower (Kd.R_new' (Kd.R_new' (Kd.R_new' ho0 (Kd.R_lt (by (with_reducible repeat (first | apply Kd.R_alloc | apply Kd.R_drewN | apply Kd.R_drew)); exact HO341.out))) (Kd.R_lt (by (with_reducible repeat (first | apply Kd.R_alloc | apply Kd.R_drewN | apply Kd.R_drew)); exact HO352.out))) (Kd.R_lt (by (with_reducible repeat (first | apply Kd.R_alloc | apply Kd.R_drewN | apply Kd.R_drew)); exact HO361.out))) (below_size (hb_ HB)))
   have n4_ := Aside0.mk (blk_below (bk_ BK354) hb)
   have n5_ := Aside0.mk (blk_below (bk_ BK374) hb)
   have n6_ := Aside0.mk (below_step (hb_ HB) hb)
   clear HO341
   clear HO352
   clear HO361
   clear BK354
   clear BK374
   clear HB
   have HO341 := n0_
   have HO352 := n1_
   have HO361 := n2_
   have HO372 := n3_
   have BK354 := n4_
   have BK374 := n5_
   have HB := n6_
   clear n0_ n1_ n2_ n3_ n4_ n5_ n6_
   (try clear hb)
   (try clear hb2)
   (try clear hk)
   (try clear hi)
   (try clear ho0)
   refine hK.out _ _ trivial (fun hHeld => ?_)
   clear hK K
   refine norm_ (a' := ?_) ?_ ?_
   rotate_left
   ·show Act.put _ (some 40) _ = _
    simp only [Act.put, la_, lb_, lc_, i64_w, i32_w]
    rfl
   refine pon_ 6 (some 34) d4x15 HT_.out ?_
   refine pon_ 7 (some 41) d4x17 HT_.out ?_
   refine pon_ 8 (some 42) d4x20 HT_.out ?_
   refine pon_ 9 (some 43) d4x22 HT_.out ?_
   exact norm_ (by simp only [putAll, Act.put, la_, lb_, lc_]) (hCont (.slice Ao35 t359.length co35, v371, gb374) _ ⟨(by (with_reducible repeat (first | apply Kd.R_alloc | apply Kd.R_drewN | apply Kd.R_drew)); exact Kd.R_mono HO341.out (fun _ hk => ⟨hk.1.1, ⟨hk.1.2, hk.2⟩⟩)), (by (with_reducible repeat (first | apply Kd.R_alloc | apply Kd.R_drewN | apply Kd.R_drew)); exact Kd.R_mono HO352.out (fun _ hk => ⟨hk.1.1, ⟨hk.1.2, hk.2⟩⟩)), (by (with_reducible repeat (first | apply Kd.R_alloc | apply Kd.R_drewN | apply Kd.R_drew)); exact Kd.R_mono HO361.out (fun _ hk => ⟨hk.1.1.2, ⟨hk.1.2, hk.2⟩⟩)), (by (with_reducible repeat (first | apply Kd.R_alloc | apply Kd.R_drewN | apply Kd.R_drew)); exact Kd.R_mono HO372.out (fun _ hk => ⟨hk.1.1.2, ⟨hk.1.2, hk.2⟩⟩)), (bk_ BK354), (bk_ BK374), GW374.out, GE374.out, NB354_374.out, NB374_354.out, (hb_ HB)⟩)
 rintro ⟨v360, v371, gb374⟩ w37 ⟨h0_, h1_, h2_, h3_, h4_, h5_, h6_, h7_, h8_, h9_, h10_⟩
 have n0_ : Aside0 (Kd.R k45 45 w37 w.heap.size (fun k_ => some k_ ≠ (v351 : Value).ownBlock ∧ some k_ ≠ (v360 : Value).ownBlock ∧ some k_ ≠ (v371 : Value).ownBlock) (.slice Ao25 t339.length co25) t339) := ⟨h0_⟩
 have n1_ : Aside0 (Kd.R k45 45 w37 w.heap.size (fun k_ => some k_ ≠ (.slice Ao25 t339.length co25 : Value).ownBlock ∧ some k_ ≠ (v360 : Value).ownBlock ∧ some k_ ≠ (v371 : Value).ownBlock) v351 t350) := ⟨h1_⟩
 have n2_ : Aside0 (Kd.R k45 45 w37 w.heap.size (fun k_ => some k_ ≠ (.slice Ao25 t339.length co25 : Value).ownBlock ∧ some k_ ≠ (v351 : Value).ownBlock ∧ some k_ ≠ (v371 : Value).ownBlock) v360 t359) := ⟨h2_⟩
 have n3_ : Aside0 (Kd.R k45 45 w37 w.heap.size (fun k_ => some k_ ≠ (.slice Ao25 t339.length co25 : Value).ownBlock ∧ some k_ ≠ (v351 : Value).ownBlock ∧ some k_ ≠ (v360 : Value).ownBlock) v371 t370) := ⟨h3_⟩
 have n4_ : Aside0 (w37.heap[gb354]? = some (.cells #[.bool t342, .bool t343, .bool t344, .bool t345, .int .i64 t346, .int .i64 t347, .string t348, .string t349] 23 (0, 0))) := ⟨h4_⟩
 have n5_ : Aside0 (w37.heap[gb374]? = some (.cells #[.bool false, .bool false, .bool false, .bool false, .int .i64 0, .int .i64 0, .string (⟨#[]⟩ : ByteArray), .string (⟨#[]⟩ : ByteArray)] 23 (0, 0))) := ⟨h5_⟩
 have n6_ : Aside0 (w.heap.size ≤ gb374) := ⟨h6_⟩
 have n7_ : Aside0 (w.heap.size ≤ gb374) := ⟨h7_⟩
 have n8_ : Aside0 (gb354 ≠ gb374) := ⟨h8_⟩
 have n9_ : Aside0 (gb374 ≠ gb354) := ⟨h9_⟩
 have n10_ : Aside0 (Below w.heap.size w w37) := ⟨h10_⟩
 clear HO341
 clear HO352
 clear BK354
 clear HB
 clear h0_ h1_ h2_ h3_ h4_ h5_ h6_ h7_ h8_ h9_ h10_
 have HO341 := n0_
 have HO352 := n1_
 have HO361 := n2_
 have HO372 := n3_
 have BK354 := n4_
 have BK374 := n5_
 have GW374 := n6_
 have GE374 := n7_
 have NB354_374 := n8_
 have NB374_354 := n9_
 have HB := n10_
 clear n0_ n1_ n2_ n3_ n4_ n5_ n6_ n7_ n8_ n9_ n10_
 have hHeld := trivial
 refine norm_ (a' := ?_) ?_ ?_
 rotate_left
 ·simp only [putAll, Act.put, la_, lb_, lc_]
  rfl
 refine one_ (i := 11) (N := none) d4x23 rfl rfl (one_of HT_.out (by kernel_rfl)) (by decide) (fun K hK => ?_)
 have hs38 : w37.cell? ⟨gb374, 0, none⟩ = some (.bool false) := (blk_cell BK374.out 0).trans rfl
 have hfs38 := blk_frozen BK374.out 0
 have hns38_0 := NB354_374.out
 have hms38_0 := NB374_354.out
 have hs39 : w37.cell? ⟨gb374, 1, none⟩ = some (.bool false) := (blk_cell BK374.out 1).trans rfl
 have hfs39 := blk_frozen BK374.out 1
 have hns39_0 := NB354_374.out
 have hms39_0 := NB374_354.out
 have hs40 : w37.cell? ⟨gb374, 2, none⟩ = some (.bool false) := (blk_cell BK374.out 2).trans rfl
 have hfs40 := blk_frozen BK374.out 2
 have hns40_0 := NB354_374.out
 have hms40_0 := NB374_354.out
 have hs41 : w37.cell? ⟨gb374, 3, none⟩ = some (.bool false) := (blk_cell BK374.out 3).trans rfl
 have hfs41 := blk_frozen BK374.out 3
 have hns41_0 := NB354_374.out
 have hms41_0 := NB374_354.out
 have hs42 : w37.cell? ⟨gb374, 4, none⟩ = some (.int .i64 0) := (blk_cell BK374.out 4).trans rfl
 have hfs42 := blk_frozen BK374.out 4
 have hns42_0 := NB354_374.out
 have hms42_0 := NB374_354.out
 have hs43 : w37.cell? ⟨gb374, 5, none⟩ = some (.int .i64 0) := (blk_cell BK374.out 5).trans rfl
 have hfs43 := blk_frozen BK374.out 5
 have hns43_0 := NB354_374.out
 have hms43_0 := NB374_354.out
 have hs44 : w37.cell? ⟨gb374, 6, none⟩ = some (.string (⟨#[]⟩ : ByteArray)) := (blk_cell BK374.out 6).trans rfl
 have hfs44 := blk_frozen BK374.out 6
 have hns44_0 := NB354_374.out
 have hms44_0 := NB374_354.out
 have hs45 : w37.cell? ⟨gb374, 7, none⟩ = some (.string (⟨#[]⟩ : ByteArray)) := (blk_cell BK374.out 7).trans rfl
 have hfs45 := blk_frozen BK374.out 7
 have hns45_0 := NB354_374.out
 have hms45_0 := NB374_354.out
 refine skip_ (w1 := ?_) (by rfl) rfl ?_ ?_
 rotate_left
 ·go_simp
  rfl
 refine hK.out _ _ trivial (fun hHeld => ?_)
 clear hK K
 refine pon_ 12 (some 10) d4x24 HT_.out ?_
 refine pon_ 13 (some 11) d4x25 HT_.out ?_
 refine done_ (done_of HT_.out (by kernel_rfl)) ?_
 try go_wp2
 have n0_ : Aside0 (Kd.R k45 45 ((((((((w37.setCell ⟨gb374, 0, none⟩ (.bool t362)).setCell ⟨gb374, 1, none⟩ (.bool t363)).setCell ⟨gb374, 2, none⟩ (.bool t364)).setCell ⟨gb374, 3, none⟩ (.bool t365)).setCell ⟨gb374, 4, none⟩ (.int .i64 t366)).setCell ⟨gb374, 5, none⟩ (.int .i64 t367)).setCell ⟨gb374, 6, none⟩ (.string t368)).setCell ⟨gb374, 7, none⟩ (.string t369)) w.heap.size (fun k_ => some k_ ≠ (v351 : Value).ownBlock ∧ some k_ ≠ (v360 : Value).ownBlock ∧ some k_ ≠ (v371 : Value).ownBlock) (.slice Ao25 t339.length co25) t339) := ⟨by (with_reducible repeat (first | apply Kd.R_alloc | apply Kd.R_drewN | apply Kd.R_drew)); exact Kd.R_mono (Kd.R_far (p := ⟨gb374, 7, none⟩) (Kd.R_far (p := ⟨gb374, 6, none⟩) (Kd.R_far (p := ⟨gb374, 5, none⟩) (Kd.R_far (p := ⟨gb374, 4, none⟩) (Kd.R_far (p := ⟨gb374, 3, none⟩) (Kd.R_far (p := ⟨gb374, 2, none⟩) (Kd.R_far (p := ⟨gb374, 1, none⟩) (Kd.R_far (p := ⟨gb374, 0, none⟩) (Kd.R_types HO341.out BK374.out (by decide)) (fun _ hk => hk.2) (.bool t362)) (fun _ hk => hk.2) (.bool t363)) (fun _ hk => hk.2) (.bool t364)) (fun _ hk => hk.2) (.bool t365)) (fun _ hk => hk.2) (.int .i64 t366)) (fun _ hk => hk.2) (.int .i64 t367)) (fun _ hk => hk.2) (.string t368)) (fun _ hk => hk.2) (.string t369)) (fun _ hk => ⟨hk.1.1, ⟨hk.1.2.1, hk.1.2.2⟩⟩)⟩
 have n1_ : Aside0 (Kd.R k45 45 ((((((((w37.setCell ⟨gb374, 0, none⟩ (.bool t362)).setCell ⟨gb374, 1, none⟩ (.bool t363)).setCell ⟨gb374, 2, none⟩ (.bool t364)).setCell ⟨gb374, 3, none⟩ (.bool t365)).setCell ⟨gb374, 4, none⟩ (.int .i64 t366)).setCell ⟨gb374, 5, none⟩ (.int .i64 t367)).setCell ⟨gb374, 6, none⟩ (.string t368)).setCell ⟨gb374, 7, none⟩ (.string t369)) w.heap.size (fun k_ => some k_ ≠ (.slice Ao25 t339.length co25 : Value).ownBlock ∧ some k_ ≠ (v360 : Value).ownBlock ∧ some k_ ≠ (v371 : Value).ownBlock) v351 t350) := ⟨by (with_reducible repeat (first | apply Kd.R_alloc | apply Kd.R_drewN | apply Kd.R_drew)); exact Kd.R_mono (Kd.R_far (p := ⟨gb374, 7, none⟩) (Kd.R_far (p := ⟨gb374, 6, none⟩) (Kd.R_far (p := ⟨gb374, 5, none⟩) (Kd.R_far (p := ⟨gb374, 4, none⟩) (Kd.R_far (p := ⟨gb374, 3, none⟩) (Kd.R_far (p := ⟨gb374, 2, none⟩) (Kd.R_far (p := ⟨gb374, 1, none⟩) (Kd.R_far (p := ⟨gb374, 0, none⟩) (Kd.R_types HO352.out BK374.out (by decide)) (fun _ hk => hk.2) (.bool t362)) (fun _ hk => hk.2) (.bool t363)) (fun _ hk => hk.2) (.bool t364)) (fun _ hk => hk.2) (.bool t365)) (fun _ hk => hk.2) (.int .i64 t366)) (fun _ hk => hk.2) (.int .i64 t367)) (fun _ hk => hk.2) (.string t368)) (fun _ hk => hk.2) (.string t369)) (fun _ hk => ⟨hk.1.1, ⟨hk.1.2.1, hk.1.2.2⟩⟩)⟩
 have n2_ : Aside0 (Kd.R k45 45 ((((((((w37.setCell ⟨gb374, 0, none⟩ (.bool t362)).setCell ⟨gb374, 1, none⟩ (.bool t363)).setCell ⟨gb374, 2, none⟩ (.bool t364)).setCell ⟨gb374, 3, none⟩ (.bool t365)).setCell ⟨gb374, 4, none⟩ (.int .i64 t366)).setCell ⟨gb374, 5, none⟩ (.int .i64 t367)).setCell ⟨gb374, 6, none⟩ (.string t368)).setCell ⟨gb374, 7, none⟩ (.string t369)) w.heap.size (fun k_ => some k_ ≠ (.slice Ao25 t339.length co25 : Value).ownBlock ∧ some k_ ≠ (v351 : Value).ownBlock ∧ some k_ ≠ (v371 : Value).ownBlock) v360 t359) := ⟨by (with_reducible repeat (first | apply Kd.R_alloc | apply Kd.R_drewN | apply Kd.R_drew)); exact Kd.R_mono (Kd.R_far (p := ⟨gb374, 7, none⟩) (Kd.R_far (p := ⟨gb374, 6, none⟩) (Kd.R_far (p := ⟨gb374, 5, none⟩) (Kd.R_far (p := ⟨gb374, 4, none⟩) (Kd.R_far (p := ⟨gb374, 3, none⟩) (Kd.R_far (p := ⟨gb374, 2, none⟩) (Kd.R_far (p := ⟨gb374, 1, none⟩) (Kd.R_far (p := ⟨gb374, 0, none⟩) (Kd.R_types HO361.out BK374.out (by decide)) (fun _ hk => hk.2) (.bool t362)) (fun _ hk => hk.2) (.bool t363)) (fun _ hk => hk.2) (.bool t364)) (fun _ hk => hk.2) (.bool t365)) (fun _ hk => hk.2) (.int .i64 t366)) (fun _ hk => hk.2) (.int .i64 t367)) (fun _ hk => hk.2) (.string t368)) (fun _ hk => hk.2) (.string t369)) (fun _ hk => ⟨hk.1.1, ⟨hk.1.2.1, hk.1.2.2⟩⟩)⟩
 have n3_ : Aside0 (Kd.R k45 45 ((((((((w37.setCell ⟨gb374, 0, none⟩ (.bool t362)).setCell ⟨gb374, 1, none⟩ (.bool t363)).setCell ⟨gb374, 2, none⟩ (.bool t364)).setCell ⟨gb374, 3, none⟩ (.bool t365)).setCell ⟨gb374, 4, none⟩ (.int .i64 t366)).setCell ⟨gb374, 5, none⟩ (.int .i64 t367)).setCell ⟨gb374, 6, none⟩ (.string t368)).setCell ⟨gb374, 7, none⟩ (.string t369)) w.heap.size (fun k_ => some k_ ≠ (.slice Ao25 t339.length co25 : Value).ownBlock ∧ some k_ ≠ (v351 : Value).ownBlock ∧ some k_ ≠ (v360 : Value).ownBlock) v371 t370) := ⟨by (with_reducible repeat (first | apply Kd.R_alloc | apply Kd.R_drewN | apply Kd.R_drew)); exact Kd.R_mono (Kd.R_far (p := ⟨gb374, 7, none⟩) (Kd.R_far (p := ⟨gb374, 6, none⟩) (Kd.R_far (p := ⟨gb374, 5, none⟩) (Kd.R_far (p := ⟨gb374, 4, none⟩) (Kd.R_far (p := ⟨gb374, 3, none⟩) (Kd.R_far (p := ⟨gb374, 2, none⟩) (Kd.R_far (p := ⟨gb374, 1, none⟩) (Kd.R_far (p := ⟨gb374, 0, none⟩) (Kd.R_types HO372.out BK374.out (by decide)) (fun _ hk => hk.2) (.bool t362)) (fun _ hk => hk.2) (.bool t363)) (fun _ hk => hk.2) (.bool t364)) (fun _ hk => hk.2) (.bool t365)) (fun _ hk => hk.2) (.int .i64 t366)) (fun _ hk => hk.2) (.int .i64 t367)) (fun _ hk => hk.2) (.string t368)) (fun _ hk => hk.2) (.string t369)) (fun _ hk => ⟨hk.1.1, ⟨hk.1.2.1, hk.1.2.2⟩⟩)⟩
 have n4_ : Aside0 (((((((((w37.setCell ⟨gb374, 0, none⟩ (.bool t362)).setCell ⟨gb374, 1, none⟩ (.bool t363)).setCell ⟨gb374, 2, none⟩ (.bool t364)).setCell ⟨gb374, 3, none⟩ (.bool t365)).setCell ⟨gb374, 4, none⟩ (.int .i64 t366)).setCell ⟨gb374, 5, none⟩ (.int .i64 t367)).setCell ⟨gb374, 6, none⟩ (.string t368)).setCell ⟨gb374, 7, none⟩ (.string t369)).heap[gb354]? = some (.cells #[.bool t342, .bool t343, .bool t344, .bool t345, .int .i64 t346, .int .i64 t347, .string t348, .string t349] 23 (0, 0))) := ⟨by (with_reducible repeat (first | refine blk_drewN ?_ _ | refine blk_drew ?_ | refine blk_alloc ?_ _ | refine blk_far ?_ NB354_374.out _)); exact BK354.out⟩
 have n5_ : Aside0 (((((((((w37.setCell ⟨gb374, 0, none⟩ (.bool t362)).setCell ⟨gb374, 1, none⟩ (.bool t363)).setCell ⟨gb374, 2, none⟩ (.bool t364)).setCell ⟨gb374, 3, none⟩ (.bool t365)).setCell ⟨gb374, 4, none⟩ (.int .i64 t366)).setCell ⟨gb374, 5, none⟩ (.int .i64 t367)).setCell ⟨gb374, 6, none⟩ (.string t368)).setCell ⟨gb374, 7, none⟩ (.string t369)).heap[gb374]? = some (.cells #[.bool t362, .bool t363, .bool t364, .bool t365, .int .i64 t366, .int .i64 t367, .string t368, .string t369] 23 (0, 0))) := ⟨by (with_reducible repeat (first | refine blk_drewN ?_ _ | refine blk_drew ?_ | refine blk_alloc ?_ _)); refine blk_put (cs := #[.bool t362, .bool t363, .bool t364, .bool t365, .int .i64 t366, .int .i64 t367, .string t368, .string (⟨#[]⟩ : ByteArray)]) ?_ 7 _ rfl; (with_reducible repeat (first | refine blk_drewN ?_ _ | refine blk_drew ?_ | refine blk_alloc ?_ _)); refine blk_put (cs := #[.bool t362, .bool t363, .bool t364, .bool t365, .int .i64 t366, .int .i64 t367, .string (⟨#[]⟩ : ByteArray), .string (⟨#[]⟩ : ByteArray)]) ?_ 6 _ rfl; (with_reducible repeat (first | refine blk_drewN ?_ _ | refine blk_drew ?_ | refine blk_alloc ?_ _)); refine blk_put (cs := #[.bool t362, .bool t363, .bool t364, .bool t365, .int .i64 t366, .int .i64 0, .string (⟨#[]⟩ : ByteArray), .string (⟨#[]⟩ : ByteArray)]) ?_ 5 _ rfl; (with_reducible repeat (first | refine blk_drewN ?_ _ | refine blk_drew ?_ | refine blk_alloc ?_ _)); refine blk_put (cs := #[.bool t362, .bool t363, .bool t364, .bool t365, .int .i64 0, .int .i64 0, .string (⟨#[]⟩ : ByteArray), .string (⟨#[]⟩ : ByteArray)]) ?_ 4 _ rfl; (with_reducible repeat (first | refine blk_drewN ?_ _ | refine blk_drew ?_ | refine blk_alloc ?_ _)); refine blk_put (cs := #[.bool t362, .bool t363, .bool t364, .bool false, .int .i64 0, .int .i64 0, .string (⟨#[]⟩ : ByteArray), .string (⟨#[]⟩ : ByteArray)]) ?_ 3 _ rfl; (with_reducible repeat (first | refine blk_drewN ?_ _ | refine blk_drew ?_ | refine blk_alloc ?_ _)); refine blk_put (cs := #[.bool t362, .bool t363, .bool false, .bool false, .int .i64 0, .int .i64 0, .string (⟨#[]⟩ : ByteArray), .string (⟨#[]⟩ : ByteArray)]) ?_ 2 _ rfl; (with_reducible repeat (first | refine blk_drewN ?_ _ | refine blk_drew ?_ | refine blk_alloc ?_ _)); refine blk_put (cs := #[.bool t362, .bool false, .bool false, .bool false, .int .i64 0, .int .i64 0, .string (⟨#[]⟩ : ByteArray), .string (⟨#[]⟩ : ByteArray)]) ?_ 1 _ rfl; (with_reducible repeat (first | refine blk_drewN ?_ _ | refine blk_drew ?_ | refine blk_alloc ?_ _)); refine blk_put (cs := #[.bool false, .bool false, .bool false, .bool false, .int .i64 0, .int .i64 0, .string (⟨#[]⟩ : ByteArray), .string (⟨#[]⟩ : ByteArray)]) ?_ 0 _ rfl; (with_reducible repeat (first | refine blk_drewN ?_ _ | refine blk_drew ?_ | refine blk_alloc ?_ _)); exact BK374.out⟩
 have n6_ : Aside0 (Below w.heap.size w ((((((((w37.setCell ⟨gb374, 0, none⟩ (.bool t362)).setCell ⟨gb374, 1, none⟩ (.bool t363)).setCell ⟨gb374, 2, none⟩ (.bool t364)).setCell ⟨gb374, 3, none⟩ (.bool t365)).setCell ⟨gb374, 4, none⟩ (.int .i64 t366)).setCell ⟨gb374, 5, none⟩ (.int .i64 t367)).setCell ⟨gb374, 6, none⟩ (.string t368)).setCell ⟨gb374, 7, none⟩ (.string t369))) := ⟨hb_ HB⟩
 (try clear HO341)
 (try clear HO352)
 (try clear HO361)
 (try clear HO372)
 (try clear BK354)
 (try clear BK374)
 (try clear HB)
 generalize ((((((((w37.setCell ⟨gb374, 0, none⟩ (.bool t362)).setCell ⟨gb374, 1, none⟩ (.bool t363)).setCell ⟨gb374, 2, none⟩ (.bool t364)).setCell ⟨gb374, 3, none⟩ (.bool t365)).setCell ⟨gb374, 4, none⟩ (.int .i64 t366)).setCell ⟨gb374, 5, none⟩ (.int .i64 t367)).setCell ⟨gb374, 6, none⟩ (.string t368)).setCell ⟨gb374, 7, none⟩ (.string t369)) = w46 at n0_ n1_ n2_ n3_ n4_ n5_ n6_ ⊢
 have HO341 := n0_
 have HO352 := n1_
 have HO361 := n2_
 have HO372 := n3_
 have BK354 := n4_
 have BK374 := n5_
 have HB := n6_
 clear n0_ n1_ n2_ n3_ n4_ n5_ n6_
 have n0_ := Aside0.mk (Kd.R_drew HO341.out)
 have n1_ := Aside0.mk (Kd.R_drew HO352.out)
 have n2_ := Aside0.mk (Kd.R_drew HO361.out)
 have n3_ := Aside0.mk (Kd.R_drew HO372.out)
 have n4_ := Aside0.mk (blk_drew BK354.out)
 have n5_ := Aside0.mk (blk_drew BK374.out)
 have n6_ := Aside0.mk (below_drew1 HB.out)
 clear HO341
 clear HO352
 clear HO361
 clear HO372
 clear BK354
 clear BK374
 clear HB
 have HO341 := n0_
 have HO352 := n1_
 have HO361 := n2_
 have HO372 := n3_
 have BK354 := n4_
 have BK374 := n5_
 have HB := n6_
 clear n0_ n1_ n2_ n3_ n4_ n5_ n6_
 have q48 : ((ji12) : Int) ≤ ((l0.length : Int) : Int) := of_decide_eq_true (by first | (with_reducible assumption) | assumption)
 obtain ⟨i048, hi048, _, hsz48, _⟩ := info_parts info45
 have hroom48 : l0.length ≤ c0 := HC0.out
 have hC48 : Kd.C k45 _ A0 l0.length l0 := HR0.out
 have q048 : (0 : Int) ≤ ((ji12) : Int) := of_decide_eq_true (by first | (with_reducible assumption) | assumption)
 have hcut48 := cut_from (P := Tryd.prog) 24 45 .i64 Tryd.underlying24 hi048 2 hsz48 A0 l0.length c0 (ji12) q048 q48
 have hr48 := Kd.C_drop (m := ((ji12) : Int).toNat) (c := c0) hC48 (by omega) hroom48
 obtain ⟨A48, hA48⟩ : ∃ A1, A1 = (if c0 = ((ji12) : Int).toNat then A0 else (A0 : Option Addr).map (·.add (((ji12) : Int).toNat * 2))) := ⟨_, rfl⟩
 obtain ⟨c48, hc48⟩ : ∃ c1, c1 = c0 - ((ji12) : Int).toNat := ⟨_, rfl⟩
 have hy48 : y376.length = l0.length - ((ji12) : Int).toNat := (by rw [Ny376.out, List.length_drop] <;> omega)
 rw [show (l0).drop ((ji12) : Int).toNat = y376 from Ny376.out.symm] at hr48
 replace hr48 : Kd.C k45 _ A48 y376.length y376 := (by rw [hA48]; exact hr48)
 rw [← hy48, ← hA48, ← hc48] at hcut48
 have HR379 := Aside0.mk hr48
 have HC379 := Aside0.mk (show y376.length ≤ c48 from by rw [hy48, hc48]; exact Nat.sub_le_sub_right hroom48 _)
 clear hr48 hC48 hroom48 hi048 hsz48 hc48
 have KY48 := Aside0.mk hy48
 have KA48 := Aside0.mk hA48
 clear hy48 hA48
 replace q48 := eq_true q48
 refine start_ (n := 14) (S := fun w' => w'.cell? ⟨gb374, 0, none⟩ = some (.bool t362) ∧ w'.cell? ⟨gb374, 1, none⟩ = some (.bool t363) ∧ w'.cell? ⟨gb374, 2, none⟩ = some (.bool t364) ∧ w'.cell? ⟨gb374, 3, none⟩ = some (.bool t365) ∧ w'.cell? ⟨gb374, 4, none⟩ = some (.int .i64 t366) ∧ w'.cell? ⟨gb374, 5, none⟩ = some (.int .i64 t367) ∧ w'.cell? ⟨gb374, 6, none⟩ = some (.string t368) ∧ w'.cell? ⟨gb374, 7, none⟩ = some (.string t369)) (ds := []) d4x0 (by kernel_rfl) rfl rfl ⟨(blk_cell BK374.out 0).trans rfl, (blk_cell BK374.out 1).trans rfl, (blk_cell BK374.out 2).trans rfl, (blk_cell BK374.out 3).trans rfl, (blk_cell BK374.out 4).trans rfl, (blk_cell BK374.out 5).trans rfl, (blk_cell BK374.out 6).trans rfl, (blk_cell BK374.out 7).trans rfl⟩ (fun hHeld => ?_); refine with_tabW headgatelaw21_KeysSteps.tab8 headgatelaw21_KeysSteps.bits8 (fun HT_ HW_ => ?_)
 generalize w46.drew = w47 at HO341 HO352 HO361 HO372 BK354 BK374 HB HR379 hHeld ⊢
 refine pon_ 1 (some 58) d4x1 HT_.out ?_
 refine pon_ 2 (some 59) d4x2 HT_.out ?_
 refine pon_ 3 (some 60) d4x3 HT_.out ?_
 refine ptk_ 0 (some 57) d4x8 HT_.out HW_.out hHeld ?_
 refine join_ (σ := Value × Value × Nat) 3 d4x22 (fun s_ => [(61, s_.1), (62, .tuple #[.agg #[.bool t383, .bool t384, .bool t385, .bool t386, .int .i64 t387, .int .i64 t388, .string t389, .string t390], s_.2.1, .int .i64 t394]), (12, .pointer (some ⟨s_.2.2, 0, none⟩)), (56, .tuple #[.agg #[.bool t383, .bool t384, .bool t385, .bool t386, .int .i64 t387, .int .i64 t388, .string t389, .string t390], s_.2.1, .int .i64 t394]), (63, .agg #[.bool t383, .bool t384, .bool t385, .bool t386, .int .i64 t387, .int .i64 t388, .string t389, .string t390]), (64, s_.2.1), (65, .int .i64 t394)]) (fun s_ w' => (w'.cell? ⟨gb374, 0, none⟩ = some (.bool t362) ∧ w'.cell? ⟨gb374, 1, none⟩ = some (.bool t363) ∧ w'.cell? ⟨gb374, 2, none⟩ = some (.bool t364) ∧ w'.cell? ⟨gb374, 3, none⟩ = some (.bool t365) ∧ w'.cell? ⟨gb374, 4, none⟩ = some (.int .i64 t366) ∧ w'.cell? ⟨gb374, 5, none⟩ = some (.int .i64 t367) ∧ w'.cell? ⟨gb374, 6, none⟩ = some (.string t368) ∧ w'.cell? ⟨gb374, 7, none⟩ = some (.string t369)) ∧ (Kd.R k45 45 w' w.heap.size (fun k_ => some k_ ≠ (v351 : Value).ownBlock ∧ some k_ ≠ (v360 : Value).ownBlock ∧ some k_ ≠ (v371 : Value).ownBlock ∧ some k_ ≠ (s_.1 : Value).ownBlock ∧ some k_ ≠ (s_.2.1 : Value).ownBlock) (.slice Ao25 t339.length co25) t339) ∧ (Kd.R k45 45 w' w.heap.size (fun k_ => some k_ ≠ (.slice Ao25 t339.length co25 : Value).ownBlock ∧ some k_ ≠ (v360 : Value).ownBlock ∧ some k_ ≠ (v371 : Value).ownBlock ∧ some k_ ≠ (s_.1 : Value).ownBlock ∧ some k_ ≠ (s_.2.1 : Value).ownBlock) v351 t350) ∧ (Kd.R k45 45 w' w.heap.size (fun k_ => some k_ ≠ (.slice Ao25 t339.length co25 : Value).ownBlock ∧ some k_ ≠ (v351 : Value).ownBlock ∧ some k_ ≠ (v371 : Value).ownBlock ∧ some k_ ≠ (s_.1 : Value).ownBlock ∧ some k_ ≠ (s_.2.1 : Value).ownBlock) v360 t359) ∧ (Kd.R k45 45 w' w.heap.size (fun k_ => some k_ ≠ (.slice Ao25 t339.length co25 : Value).ownBlock ∧ some k_ ≠ (v351 : Value).ownBlock ∧ some k_ ≠ (v360 : Value).ownBlock ∧ some k_ ≠ (s_.1 : Value).ownBlock ∧ some k_ ≠ (s_.2.1 : Value).ownBlock) v371 t370) ∧ (Kd.R k45 45 w' w.heap.size (fun k_ => some k_ ≠ (.slice Ao25 t339.length co25 : Value).ownBlock ∧ some k_ ≠ (v351 : Value).ownBlock ∧ some k_ ≠ (v360 : Value).ownBlock ∧ some k_ ≠ (v371 : Value).ownBlock ∧ some k_ ≠ (s_.2.1 : Value).ownBlock) s_.1 t380) ∧ (Kd.R k45 45 w' w.heap.size (fun k_ => some k_ ≠ (.slice Ao25 t339.length co25 : Value).ownBlock ∧ some k_ ≠ (v351 : Value).ownBlock ∧ some k_ ≠ (v360 : Value).ownBlock ∧ some k_ ≠ (v371 : Value).ownBlock ∧ some k_ ≠ (s_.1 : Value).ownBlock) s_.2.1 t391) ∧ (w'.heap[gb354]? = some (.cells #[.bool t342, .bool t343, .bool t344, .bool t345, .int .i64 t346, .int .i64 t347, .string t348, .string t349] 23 (0, 0))) ∧ (w'.heap[gb374]? = some (.cells #[.bool t362, .bool t363, .bool t364, .bool t365, .int .i64 t366, .int .i64 t367, .string t368, .string t369] 23 (0, 0))) ∧ (w'.heap[s_.2.2]? = some (.cells #[.bool false, .bool false, .bool false, .bool false, .int .i64 0, .int .i64 0, .string (⟨#[]⟩ : ByteArray), .string (⟨#[]⟩ : ByteArray)] 23 (0, 0))) ∧ (w.heap.size ≤ s_.2.2) ∧ (w.heap.size ≤ s_.2.2) ∧ (gb354 ≠ s_.2.2) ∧ (s_.2.2 ≠ gb354) ∧ (gb374 ≠ s_.2.2) ∧ (s_.2.2 ≠ gb374) ∧ (Below w.heap.size w w')) ?_ ?_
 rotate_left
 ·intro hCont
  refine two_ (i := 4) (j := 10) (Ni := some 61) (Nj := some 12) d4x10 d4x9 rfl rfl rfl rfl (two_of HT_.out (by kernel_rfl)) (by decide) (by decide) (fun K hK => ?_) (fun K hK => ?_)
  ·skip
   refine goes_ Tryd.func10 (by kernel_rfl) rfl #[.slice A48 y376.length c48] (by rfl) rfl rfl (by (try simp only [List.map_toArray, List.map_cons, List.map_nil]); first | done | rfl | (simp only [List.length_drop, List.length_take]; rfl)) ?_
   with_reducible refine (headgatelaw21_few.calls _ _ y376 t380 _ ?side1 ?side2 A20.out).mono ?_
   (case side1 => repeat (first | exact (Kd.C_below HR379.out HB.out) | (with_reducible refine Kd.C_alloc ?_ _) | (with_reducible refine Kd.C_drewN ?_ _) | (with_reducible refine Kd.C_drew ?_)))
   (case side2 => exact HC379.out)
   rintro e w49 ⟨v381, rfl, ho0, hb⟩
   refine ⟨_, rfl, ?_⟩
   have n0_ := Aside0.mk (Kd.R_elder' (by (with_reducible repeat (first | apply Kd.R_alloc | apply Kd.R_drewN | apply Kd.R_drew)); exact HO341.out) (Kd.R_base ho0) hb)
   have n1_ := Aside0.mk (Kd.R_elder' (by (with_reducible repeat (first | apply Kd.R_alloc | apply Kd.R_drewN | apply Kd.R_drew)); exact HO352.out) (Kd.R_base ho0) hb)
   have n2_ := Aside0.mk (Kd.R_elder' (by (with_reducible repeat (first | apply Kd.R_alloc | apply Kd.R_drewN | apply Kd.R_drew)); exact HO361.out) (Kd.R_base ho0) hb)
   have n3_ := Aside0.mk (Kd.R_elder' (by (with_reducible repeat (first | apply Kd.R_alloc | apply Kd.R_drewN | apply Kd.R_drew)); exact HO372.out) (Kd.R_base ho0) hb)
   have n4_ := Aside0.mk (Kd.R_lower (Kd.R_new' (Kd.R_new' (Kd.R_new' (Kd.R_new' ho0 (Kd.R_lt (by (with_reducible repeat (first | apply Kd.R_alloc | apply Kd.R_drewN | apply Kd.R_drew)); exact HO341.out))) (Kd.R_lt (by (with_reducible repeat (first | apply Kd.R_alloc | apply Kd.R_drewN | apply Kd.R_drew)); exact HO352.out))) (Kd.R_lt (by (with_reducible repeat (first | apply Kd.R_alloc | apply Kd.R_drewN | apply Kd.R_drew)); exact HO361.out))) (Kd.R_lt (by (with_reducible repeat (first | apply Kd.R_alloc | apply Kd.R_drewN | apply Kd.R_drew)); exact HO372.out))) (below_size (hb_ HB)))
   have n5_ := Aside0.mk (blk_below (bk_ BK354) hb)
   have n6_ := Aside0.mk (blk_below (bk_ BK374) hb)
   have n7_ := Aside0.mk (below_step (hb_ HB) hb)
   clear HO341
   clear HO352
   clear HO361
   clear HO372
   clear BK354
   clear BK374
   clear HB
   have HO341 := n0_
   have HO352 := n1_
   have HO361 := n2_
   have HO372 := n3_
   have HO382 := n4_
   have BK354 := n5_
   have BK374 := n6_
   have HB := n7_
   clear n0_ n1_ n2_ n3_ n4_ n5_ n6_ n7_
   (try clear hb)
   (try clear hb2)
   (try clear hk)
   (try clear hi)
   (try clear ho0)
   obtain ⟨Ao50, co50, eo50⟩ := Kd.R_slice HO382.out
   (first | subst eo50 | (injection eo50 with f1_ f2_ f3_; have f4_ := f1_.symm; have f5_ := f3_.symm; clear f1_ f2_ f3_; subst f4_; subst f5_))
   refine hK.out _ _ ⟨(blk_cell BK374.out 0).trans rfl, (blk_cell BK374.out 1).trans rfl, (blk_cell BK374.out 2).trans rfl, (blk_cell BK374.out 3).trans rfl, (blk_cell BK374.out 4).trans rfl, (blk_cell BK374.out 5).trans rfl, (blk_cell BK374.out 6).trans rfl, (blk_cell BK374.out 7).trans rfl⟩ (fun hHeld => ?_)
   clear hK K
   refine norm_ (a' := ?_) ?_ ?_
   rotate_left
   ·show Act.put _ (some 61) _ = _
    simp only [Act.put, la_, lb_, lc_, i64_w, i32_w]
    rfl
   refine two_ (i := 5) (j := 10) (Ni := some 62) (Nj := some 12) d4x12 d4x11 rfl rfl rfl rfl (two_of HT_.out (by kernel_rfl)) (by decide) (by decide) (fun K hK => ?_) (fun K hK => ?_)
   ·skip
    refine goes_ Tryd.func11 (by kernel_rfl) rfl #[.agg #[.bool t362, .bool t363, .bool t364, .bool t365, .int .i64 t366, .int .i64 t367, .string t368, .string t369], .slice Ao50 t380.length co50] (by rfl) rfl rfl (by (try simp only [List.map_toArray, List.map_cons, List.map_nil]); first | done | rfl | (simp only [List.length_drop, List.length_take]; rfl)) ?_
    with_reducible refine (keys_Answer.calls t362 t363 t364 t365 t366 t367 t368 t369 _ _ t380 t383 t384 t385 t386 t387 t388 t389 t390 t391 t394 _ ?side1 ?side2 ?side3 A21.out).mono ?_
    (case side1 => repeat (first | exact (Kd.R_reads' HO382.out).2.2 | (with_reducible refine Kd.C_alloc ?_ _) | (with_reducible refine Kd.C_drewN ?_ _) | (with_reducible refine Kd.C_drew ?_)))
    (case side2 => exact (Kd.R_reads' HO382.out).2.1)
    (case side3 => first | ((refine Glob.keep HG.out ?_); (repeat (first | (with_reducible first | exact HB.out | apply below_alloc | apply pw_below_drewN | apply below_drew1 | refine below_set ?_ GE354.out | refine below_set ?_ GE374.out) | exact HB.out)); done) | exact HG.out)
    rintro e w51 ⟨v392, rfl, ho0, hb⟩
    refine ⟨_, rfl, ?_⟩
    have n0_ := Aside0.mk (Kd.R_elder' (by (with_reducible repeat (first | apply Kd.R_alloc | apply Kd.R_drewN | apply Kd.R_drew)); exact HO341.out) (Kd.R_base ho0) hb)
    have n1_ := Aside0.mk (Kd.R_elder' (by (with_reducible repeat (first | apply Kd.R_alloc | apply Kd.R_drewN | apply Kd.R_drew)); exact HO352.out) (Kd.R_base ho0) hb)
    have n2_ := Aside0.mk (Kd.R_elder' (by (with_reducible repeat (first | apply Kd.R_alloc | apply Kd.R_drewN | apply Kd.R_drew)); exact HO361.out) (Kd.R_base ho0) hb)
    have n3_ := Aside0.mk (Kd.R_elder' (by (with_reducible repeat (first | apply Kd.R_alloc | apply Kd.R_drewN | apply Kd.R_drew)); exact HO372.out) (Kd.R_base ho0) hb)
    have n4_ := Aside0.mk (Kd.R_elder' (by (with_reducible repeat (first | apply Kd.R_alloc | apply Kd.R_drewN | apply Kd.R_drew)); exact HO382.out) (Kd.R_base ho0) hb)
    have n5_ := Aside0.mk (Kd.R_lower (Kd.R_new' (Kd.R_new' (Kd.R_new' (Kd.R_new' (Kd.R_new' ho0 (Kd.R_lt (by (with_reducible repeat (first | apply Kd.R_alloc | apply Kd.R_drewN | apply Kd.R_drew)); exact HO341.out))) (Kd.R_lt (by (with_reducible repeat (first | apply Kd.R_alloc | apply Kd.R_drewN | apply Kd.R_drew)); exact HO352.out))) (Kd.R_lt (by (with_reducible repeat (first | apply Kd.R_alloc | apply Kd.R_drewN | apply Kd.R_drew)); exact HO361.out))) (Kd.R_lt (by (with_reducible repeat (first | apply Kd.R_alloc | apply Kd.R_drewN | apply Kd.R_drew)); exact HO372.out))) (Kd.R_lt (by (with_reducible repeat (first | apply Kd.R_alloc | apply Kd.R_drewN | apply Kd.R_drew)); exact HO382.out))) (below_size (hb_ HB)))
    have n6_ := Aside0.mk (blk_below (bk_ BK354) hb)
    have n7_ := Aside0.mk (blk_below (bk_ BK374) hb)
    have n8_ := Aside0.mk (below_step (hb_ HB) hb)
    clear HO341
    clear HO352
    clear HO361
    clear HO372
    clear HO382
    clear BK354
    clear BK374
    clear HB
    have HO341 := n0_
    have HO352 := n1_
    have HO361 := n2_
    have HO372 := n3_
    have HO382 := n4_
    have HO393 := n5_
    have BK354 := n6_
    have BK374 := n7_
    have HB := n8_
    clear n0_ n1_ n2_ n3_ n4_ n5_ n6_ n7_ n8_
    (try clear hb)
    (try clear hb2)
    (try clear hk)
    (try clear hi)
    (try clear ho0)
    refine hK.out _ _ ⟨(blk_cell BK374.out 0).trans rfl, (blk_cell BK374.out 1).trans rfl, (blk_cell BK374.out 2).trans rfl, (blk_cell BK374.out 3).trans rfl, (blk_cell BK374.out 4).trans rfl, (blk_cell BK374.out 5).trans rfl, (blk_cell BK374.out 6).trans rfl, (blk_cell BK374.out 7).trans rfl⟩ (fun hHeld => ?_)
    clear hK K
    refine norm_ (a' := ?_) ?_ ?_
    rotate_left
    ·show Act.put _ (some 62) _ = _
     simp only [Act.put, la_, lb_, lc_, i64_w, i32_w]
     rfl
    refine pon_ 6 (some 56) d4x14 HT_.out ?_
    refine pon_ 7 (some 63) d4x16 HT_.out ?_
    refine pon_ 8 (some 64) d4x19 HT_.out ?_
    refine pon_ 9 (some 65) d4x21 HT_.out ?_
    refine one_ (i := 10) (N := some 12) d4x22 rfl rfl (one_of HT_.out (by kernel_rfl)) (by decide) (fun K hK => ?_)
    refine box_step ?hg (N := 12) ?hd (cs := #[.bool false, .bool false, .bool false, .bool false, .int .i64 0, .int .i64 0, .string (⟨#[]⟩ : ByteArray), .string (⟨#[]⟩ : ByteArray)]) (t := 23) ?hr ?_; (case hd => rfl); (case hg => rfl); (case hr => first | (go_simp; done) | (go_simp; rfl))
    intro gb395 hg w52 hbox hb
    have n0_ := Aside0.mk (Kd.R_below (by (with_reducible repeat (first | apply Kd.R_alloc | apply Kd.R_drewN | apply Kd.R_drew)); exact HO341.out) hb)
    have n1_ := Aside0.mk (Kd.R_below (by (with_reducible repeat (first | apply Kd.R_alloc | apply Kd.R_drewN | apply Kd.R_drew)); exact HO352.out) hb)
    have n2_ := Aside0.mk (Kd.R_below (by (with_reducible repeat (first | apply Kd.R_alloc | apply Kd.R_drewN | apply Kd.R_drew)); exact HO361.out) hb)
    have n3_ := Aside0.mk (Kd.R_below (by (with_reducible repeat (first | apply Kd.R_alloc | apply Kd.R_drewN | apply Kd.R_drew)); exact HO372.out) hb)
    have n4_ := Aside0.mk (Kd.R_below (by (with_reducible repeat (first | apply Kd.R_alloc | apply Kd.R_drewN | apply Kd.R_drew)); exact HO382.out) hb)
    have n5_ := Aside0.mk (Kd.R_below (by (with_reducible repeat (first | apply Kd.R_alloc | apply Kd.R_drewN | apply Kd.R_drew)); exact HO393.out) hb)
    have n6_ := Aside0.mk (blk_below (bk_ BK354) hb)
    have n7_ := Aside0.mk (blk_below (bk_ BK374) hb)
    have n8_ := Aside0.mk (below_step (hb_ HB) hb)
    have n9_ := Aside0.mk (hbox)
    have n10_ := Aside0.mk ((by rw [hg]; exact (below_size (hb_ HB)) : w.heap.size ≤ gb395))
    have n11_ := Aside0.mk ((by rw [hg]; exact (below_size (hb_ HB)) : w.heap.size ≤ gb395))
    have n12_ := Aside0.mk ((by rw [hg]; exact Nat.ne_of_lt (blk_lt (g := gb354) (o := .cells #[.bool t342, .bool t343, .bool t344, .bool t345, .int .i64 t346, .int .i64 t347, .string t348, .string t349] 23 (0, 0)) (bk_ BK354)) : gb354 ≠ gb395))
    have n13_ := Aside0.mk ((by rw [hg]; exact Nat.ne_of_gt (blk_lt (g := gb354) (o := .cells #[.bool t342, .bool t343, .bool t344, .bool t345, .int .i64 t346, .int .i64 t347, .string t348, .string t349] 23 (0, 0)) (bk_ BK354)) : gb395 ≠ gb354))
    have n14_ := Aside0.mk ((by rw [hg]; exact Nat.ne_of_lt (blk_lt (g := gb374) (o := .cells #[.bool t362, .bool t363, .bool t364, .bool t365, .int .i64 t366, .int .i64 t367, .string t368, .string t369] 23 (0, 0)) (bk_ BK374)) : gb374 ≠ gb395))
    have n15_ := Aside0.mk ((by rw [hg]; exact Nat.ne_of_gt (blk_lt (g := gb374) (o := .cells #[.bool t362, .bool t363, .bool t364, .bool t365, .int .i64 t366, .int .i64 t367, .string t368, .string t369] 23 (0, 0)) (bk_ BK374)) : gb395 ≠ gb374))
    clear HO341
    clear HO352
    clear HO361
    clear HO372
    clear HO382
    clear HO393
    clear BK354
    clear BK374
    clear HB
    have HO341 := n0_
    have HO352 := n1_
    have HO361 := n2_
    have HO372 := n3_
    have HO382 := n4_
    have HO393 := n5_
    have BK354 := n6_
    have BK374 := n7_
    have HB := n8_
    have BK395 := n9_
    have GW395 := n10_
    have GE395 := n11_
    have NB354_395 := n12_
    have NB395_354 := n13_
    have NB374_395 := n14_
    have NB395_374 := n15_
    clear n0_ n1_ n2_ n3_ n4_ n5_ n6_ n7_ n8_ n9_ n10_ n11_ n12_ n13_ n14_ n15_
    clear hb hbox hg
    refine hK.out _ _ ⟨(blk_cell BK374.out 0).trans rfl, (blk_cell BK374.out 1).trans rfl, (blk_cell BK374.out 2).trans rfl, (blk_cell BK374.out 3).trans rfl, (blk_cell BK374.out 4).trans rfl, (blk_cell BK374.out 5).trans rfl, (blk_cell BK374.out 6).trans rfl, (blk_cell BK374.out 7).trans rfl⟩ (fun hHeld => ?_)
    clear hK K
    refine norm_ (a' := ?_) ?_ ?_
    rotate_left
    ·show Act.put _ (some 12) _ = _
     simp only [Act.put, la_, lb_, lc_, i64_w, i32_w]
     rfl
    exact norm_ (by simp only [putAll, Act.put, la_, lb_, lc_]) (hCont (.slice Ao50 t380.length co50, v392, gb395) _ ⟨hHeld, (by (with_reducible repeat (first | apply Kd.R_alloc | apply Kd.R_drewN | apply Kd.R_drew)); exact Kd.R_mono HO341.out (fun _ hk => ⟨hk.1.1.1, ⟨hk.1.1.2.1, ⟨hk.1.1.2.2, ⟨hk.1.2, hk.2⟩⟩⟩⟩)), (by (with_reducible repeat (first | apply Kd.R_alloc | apply Kd.R_drewN | apply Kd.R_drew)); exact Kd.R_mono HO352.out (fun _ hk => ⟨hk.1.1.1, ⟨hk.1.1.2.1, ⟨hk.1.1.2.2, ⟨hk.1.2, hk.2⟩⟩⟩⟩)), (by (with_reducible repeat (first | apply Kd.R_alloc | apply Kd.R_drewN | apply Kd.R_drew)); exact Kd.R_mono HO361.out (fun _ hk => ⟨hk.1.1.1, ⟨hk.1.1.2.1, ⟨hk.1.1.2.2, ⟨hk.1.2, hk.2⟩⟩⟩⟩)), (by (with_reducible repeat (first | apply Kd.R_alloc | apply Kd.R_drewN | apply Kd.R_drew)); exact Kd.R_mono HO372.out (fun _ hk => ⟨hk.1.1.1, ⟨hk.1.1.2.1, ⟨hk.1.1.2.2, ⟨hk.1.2, hk.2⟩⟩⟩⟩)), (by (with_reducible repeat (first | apply Kd.R_alloc | apply Kd.R_drewN | apply Kd.R_drew)); exact Kd.R_mono HO382.out (fun _ hk => ⟨hk.1.1.1.1.2, ⟨hk.1.1.1.2, ⟨hk.1.1.2, ⟨hk.1.2, hk.2⟩⟩⟩⟩)), (by (with_reducible repeat (first | apply Kd.R_alloc | apply Kd.R_drewN | apply Kd.R_drew)); exact Kd.R_mono HO393.out (fun _ hk => ⟨hk.1.1.1.1.2, ⟨hk.1.1.1.2, ⟨hk.1.1.2, ⟨hk.1.2, hk.2⟩⟩⟩⟩)), (bk_ BK354), (bk_ BK374), (bk_ BK395), GW395.out, GE395.out, NB354_395.out, NB395_354.out, NB374_395.out, NB395_374.out, (hb_ HB)⟩)
   ·skip
    refine box_step ?hg (N := 12) ?hd (cs := #[.bool false, .bool false, .bool false, .bool false, .int .i64 0, .int .i64 0, .string (⟨#[]⟩ : ByteArray), .string (⟨#[]⟩ : ByteArray)]) (t := 23) ?hr ?_; (case hd => rfl); (case hg => rfl); (case hr => first | (go_simp; done) | (go_simp; rfl))
    intro gb395 hg w50 hbox hb
    have n0_ := Aside0.mk (Kd.R_below (by (with_reducible repeat (first | apply Kd.R_alloc | apply Kd.R_drewN | apply Kd.R_drew)); exact HO341.out) hb)
    have n1_ := Aside0.mk (Kd.R_below (by (with_reducible repeat (first | apply Kd.R_alloc | apply Kd.R_drewN | apply Kd.R_drew)); exact HO352.out) hb)
    have n2_ := Aside0.mk (Kd.R_below (by (with_reducible repeat (first | apply Kd.R_alloc | apply Kd.R_drewN | apply Kd.R_drew)); exact HO361.out) hb)
    have n3_ := Aside0.mk (Kd.R_below (by (with_reducible repeat (first | apply Kd.R_alloc | apply Kd.R_drewN | apply Kd.R_drew)); exact HO372.out) hb)
    have n4_ := Aside0.mk (Kd.R_below (by (with_reducible repeat (first | apply Kd.R_alloc | apply Kd.R_drewN | apply Kd.R_drew)); exact HO382.out) hb)
    have n5_ := Aside0.mk (blk_below (bk_ BK354) hb)
    have n6_ := Aside0.mk (blk_below (bk_ BK374) hb)
    have n7_ := Aside0.mk (below_step (hb_ HB) hb)
    have n8_ := Aside0.mk (hbox)
    have n9_ := Aside0.mk ((by rw [hg]; exact (below_size (hb_ HB)) : w.heap.size ≤ gb395))
    have n10_ := Aside0.mk ((by rw [hg]; exact (below_size (hb_ HB)) : w.heap.size ≤ gb395))
    have n11_ := Aside0.mk ((by rw [hg]; exact Nat.ne_of_lt (blk_lt (g := gb354) (o := .cells #[.bool t342, .bool t343, .bool t344, .bool t345, .int .i64 t346, .int .i64 t347, .string t348, .string t349] 23 (0, 0)) (bk_ BK354)) : gb354 ≠ gb395))
    have n12_ := Aside0.mk ((by rw [hg]; exact Nat.ne_of_gt (blk_lt (g := gb354) (o := .cells #[.bool t342, .bool t343, .bool t344, .bool t345, .int .i64 t346, .int .i64 t347, .string t348, .string t349] 23 (0, 0)) (bk_ BK354)) : gb395 ≠ gb354))
    have n13_ := Aside0.mk ((by rw [hg]; exact Nat.ne_of_lt (blk_lt (g := gb374) (o := .cells #[.bool t362, .bool t363, .bool t364, .bool t365, .int .i64 t366, .int .i64 t367, .string t368, .string t369] 23 (0, 0)) (bk_ BK374)) : gb374 ≠ gb395))
    have n14_ := Aside0.mk ((by rw [hg]; exact Nat.ne_of_gt (blk_lt (g := gb374) (o := .cells #[.bool t362, .bool t363, .bool t364, .bool t365, .int .i64 t366, .int .i64 t367, .string t368, .string t369] 23 (0, 0)) (bk_ BK374)) : gb395 ≠ gb374))
    clear HO341
    clear HO352
    clear HO361
    clear HO372
    clear HO382
    clear BK354
    clear BK374
    clear HB
    have HO341 := n0_
    have HO352 := n1_
    have HO361 := n2_
    have HO372 := n3_
    have HO382 := n4_
    have BK354 := n5_
    have BK374 := n6_
    have HB := n7_
    have BK395 := n8_
    have GW395 := n9_
    have GE395 := n10_
    have NB354_395 := n11_
    have NB395_354 := n12_
    have NB374_395 := n13_
    have NB395_374 := n14_
    clear n0_ n1_ n2_ n3_ n4_ n5_ n6_ n7_ n8_ n9_ n10_ n11_ n12_ n13_ n14_
    clear hb hbox hg
    obtain ⟨Ao51, co51, eo51⟩ := Kd.R_slice HO382.out
    (first | subst eo51 | (injection eo51 with f1_ f2_ f3_; have f4_ := f1_.symm; have f5_ := f3_.symm; clear f1_ f2_ f3_; subst f4_; subst f5_))
    refine hK.out _ _ ⟨(blk_cell BK374.out 0).trans rfl, (blk_cell BK374.out 1).trans rfl, (blk_cell BK374.out 2).trans rfl, (blk_cell BK374.out 3).trans rfl, (blk_cell BK374.out 4).trans rfl, (blk_cell BK374.out 5).trans rfl, (blk_cell BK374.out 6).trans rfl, (blk_cell BK374.out 7).trans rfl⟩ (fun hHeld => ?_)
    clear hK K
    refine norm_ (a' := ?_) ?_ ?_
    rotate_left
    ·show Act.put _ (some 12) _ = _
     simp only [Act.put, la_, lb_, lc_, i64_w, i32_w]
     rfl
    refine one_ (i := 5) (N := some 62) d4x13 rfl rfl (one_of HT_.out (by kernel_rfl)) (by decide) (fun K hK => ?_)
    refine goes_ Tryd.func11 (by kernel_rfl) rfl #[.agg #[.bool t362, .bool t363, .bool t364, .bool t365, .int .i64 t366, .int .i64 t367, .string t368, .string t369], .slice Ao51 t380.length co51] (by rfl) rfl rfl (by (try simp only [List.map_toArray, List.map_cons, List.map_nil]); first | done | rfl | (simp only [List.length_drop, List.length_take]; rfl)) ?_
    with_reducible refine (keys_Answer.calls t362 t363 t364 t365 t366 t367 t368 t369 _ _ t380 t383 t384 t385 t386 t387 t388 t389 t390 t391 t394 _ ?side1 ?side2 ?side3 A21.out).mono ?_
    (case side1 => repeat (first | exact (Kd.R_reads' HO382.out).2.2 | (with_reducible refine Kd.C_alloc ?_ _) | (with_reducible refine Kd.C_drewN ?_ _) | (with_reducible refine Kd.C_drew ?_)))
    (case side2 => exact (Kd.R_reads' HO382.out).2.1)
    (case side3 => first | ((refine Glob.keep HG.out ?_); (repeat (first | (with_reducible first | exact HB.out | apply below_alloc | apply pw_below_drewN | apply below_drew1 | refine below_set ?_ GE354.out | refine below_set ?_ GE374.out | refine below_set ?_ GE395.out) | exact HB.out)); done) | exact HG.out)
    rintro e w52 ⟨v392, rfl, ho0, hb⟩
    refine ⟨_, rfl, ?_⟩
    have n0_ := Aside0.mk (Kd.R_elder' (by (with_reducible repeat (first | apply Kd.R_alloc | apply Kd.R_drewN | apply Kd.R_drew)); exact HO341.out) (Kd.R_base ho0) hb)
    have n1_ := Aside0.mk (Kd.R_elder' (by (with_reducible repeat (first | apply Kd.R_alloc | apply Kd.R_drewN | apply Kd.R_drew)); exact HO352.out) (Kd.R_base ho0) hb)
    have n2_ := Aside0.mk (Kd.R_elder' (by (with_reducible repeat (first | apply Kd.R_alloc | apply Kd.R_drewN | apply Kd.R_drew)); exact HO361.out) (Kd.R_base ho0) hb)
    have n3_ := Aside0.mk (Kd.R_elder' (by (with_reducible repeat (first | apply Kd.R_alloc | apply Kd.R_drewN | apply Kd.R_drew)); exact HO372.out) (Kd.R_base ho0) hb)
    have n4_ := Aside0.mk (Kd.R_elder' (by (with_reducible repeat (first | apply Kd.R_alloc | apply Kd.R_drewN | apply Kd.R_drew)); exact HO382.out) (Kd.R_base ho0) hb)
    have n5_ := Aside0.mk (Kd.R_lower (Kd.R_new' (Kd.R_new' (Kd.R_new' (Kd.R_new' (Kd.R_new' ho0 (Kd.R_lt (by (with_reducible repeat (first | apply Kd.R_alloc | apply Kd.R_drewN | apply Kd.R_drew)); exact HO341.out))) (Kd.R_lt (by (with_reducible repeat (first | apply Kd.R_alloc | apply Kd.R_drewN | apply Kd.R_drew)); exact HO352.out))) (Kd.R_lt (by (with_reducible repeat (first | apply Kd.R_alloc | apply Kd.R_drewN | apply Kd.R_drew)); exact HO361.out))) (Kd.R_lt (by (with_reducible repeat (first | apply Kd.R_alloc | apply Kd.R_drewN | apply Kd.R_drew)); exact HO372.out))) (Kd.R_lt (by (with_reducible repeat (first | apply Kd.R_alloc | apply Kd.R_drewN | apply Kd.R_drew)); exact HO382.out))) (below_size (hb_ HB)))
    have n6_ := Aside0.mk (blk_below (bk_ BK354) hb)
    have n7_ := Aside0.mk (blk_below (bk_ BK374) hb)
    have n8_ := Aside0.mk (blk_below (bk_ BK395) hb)
    have n9_ := Aside0.mk (below_step (hb_ HB) hb)
    clear HO341
    clear HO352
    clear HO361
    clear HO372
    clear HO382
    clear BK354
    clear BK374
    clear BK395
    clear HB
    have HO341 := n0_
    have HO352 := n1_
    have HO361 := n2_
    have HO372 := n3_
    have HO382 := n4_
    have HO393 := n5_
    have BK354 := n6_
    have BK374 := n7_
    have BK395 := n8_
    have HB := n9_
    clear n0_ n1_ n2_ n3_ n4_ n5_ n6_ n7_ n8_ n9_
    (try clear hb)
    (try clear hb2)
    (try clear hk)
    (try clear hi)
    (try clear ho0)
    refine hK.out _ _ ⟨(blk_cell BK374.out 0).trans rfl, (blk_cell BK374.out 1).trans rfl, (blk_cell BK374.out 2).trans rfl, (blk_cell BK374.out 3).trans rfl, (blk_cell BK374.out 4).trans rfl, (blk_cell BK374.out 5).trans rfl, (blk_cell BK374.out 6).trans rfl, (blk_cell BK374.out 7).trans rfl⟩ (fun hHeld => ?_)
    clear hK K
    refine norm_ (a' := ?_) ?_ ?_
    rotate_left
    ·show Act.put _ (some 62) _ = _
     simp only [Act.put, la_, lb_, lc_, i64_w, i32_w]
     rfl
    refine pon_ 6 (some 56) d4x15 HT_.out ?_
    refine pon_ 7 (some 63) d4x17 HT_.out ?_
    refine pon_ 8 (some 64) d4x20 HT_.out ?_
    refine pon_ 9 (some 65) d4x22 HT_.out ?_
    exact norm_ (by simp only [putAll, Act.put, la_, lb_, lc_]) (hCont (.slice Ao51 t380.length co51, v392, gb395) _ ⟨hHeld, (by (with_reducible repeat (first | apply Kd.R_alloc | apply Kd.R_drewN | apply Kd.R_drew)); exact Kd.R_mono HO341.out (fun _ hk => ⟨hk.1.1.1, ⟨hk.1.1.2.1, ⟨hk.1.1.2.2, ⟨hk.1.2, hk.2⟩⟩⟩⟩)), (by (with_reducible repeat (first | apply Kd.R_alloc | apply Kd.R_drewN | apply Kd.R_drew)); exact Kd.R_mono HO352.out (fun _ hk => ⟨hk.1.1.1, ⟨hk.1.1.2.1, ⟨hk.1.1.2.2, ⟨hk.1.2, hk.2⟩⟩⟩⟩)), (by (with_reducible repeat (first | apply Kd.R_alloc | apply Kd.R_drewN | apply Kd.R_drew)); exact Kd.R_mono HO361.out (fun _ hk => ⟨hk.1.1.1, ⟨hk.1.1.2.1, ⟨hk.1.1.2.2, ⟨hk.1.2, hk.2⟩⟩⟩⟩)), (by (with_reducible repeat (first | apply Kd.R_alloc | apply Kd.R_drewN | apply Kd.R_drew)); exact Kd.R_mono HO372.out (fun _ hk => ⟨hk.1.1.1, ⟨hk.1.1.2.1, ⟨hk.1.1.2.2, ⟨hk.1.2, hk.2⟩⟩⟩⟩)), (by (with_reducible repeat (first | apply Kd.R_alloc | apply Kd.R_drewN | apply Kd.R_drew)); exact Kd.R_mono HO382.out (fun _ hk => ⟨hk.1.1.1.1.2, ⟨hk.1.1.1.2, ⟨hk.1.1.2, ⟨hk.1.2, hk.2⟩⟩⟩⟩)), (by (with_reducible repeat (first | apply Kd.R_alloc | apply Kd.R_drewN | apply Kd.R_drew)); exact Kd.R_mono HO393.out (fun _ hk => ⟨hk.1.1.1.1.2, ⟨hk.1.1.1.2, ⟨hk.1.1.2, ⟨hk.1.2, hk.2⟩⟩⟩⟩)), (bk_ BK354), (bk_ BK374), (bk_ BK395), GW395.out, GE395.out, NB354_395.out, NB395_354.out, NB374_395.out, NB395_374.out, (hb_ HB)⟩)
  ·skip
   refine box_step ?hg (N := 12) ?hd (cs := #[.bool false, .bool false, .bool false, .bool false, .int .i64 0, .int .i64 0, .string (⟨#[]⟩ : ByteArray), .string (⟨#[]⟩ : ByteArray)]) (t := 23) ?hr ?_; (case hd => rfl); (case hg => rfl); (case hr => first | (go_simp; done) | (go_simp; rfl))
   intro gb395 hg w49 hbox hb
   have n0_ := Aside0.mk (Kd.R_below (by (with_reducible repeat (first | apply Kd.R_alloc | apply Kd.R_drewN | apply Kd.R_drew)); exact HO341.out) hb)
   have n1_ := Aside0.mk (Kd.R_below (by (with_reducible repeat (first | apply Kd.R_alloc | apply Kd.R_drewN | apply Kd.R_drew)); exact HO352.out) hb)
   have n2_ := Aside0.mk (Kd.R_below (by (with_reducible repeat (first | apply Kd.R_alloc | apply Kd.R_drewN | apply Kd.R_drew)); exact HO361.out) hb)
   have n3_ := Aside0.mk (Kd.R_below (by (with_reducible repeat (first | apply Kd.R_alloc | apply Kd.R_drewN | apply Kd.R_drew)); exact HO372.out) hb)
   have n4_ := Aside0.mk (blk_below (bk_ BK354) hb)
   have n5_ := Aside0.mk (blk_below (bk_ BK374) hb)
   have n6_ := Aside0.mk (below_step (hb_ HB) hb)
   have n7_ := Aside0.mk (hbox)
   have n8_ := Aside0.mk ((by rw [hg]; exact (below_size (hb_ HB)) : w.heap.size ≤ gb395))
   have n9_ := Aside0.mk ((by rw [hg]; exact (below_size (hb_ HB)) : w.heap.size ≤ gb395))
   have n10_ := Aside0.mk ((by rw [hg]; exact Nat.ne_of_lt (blk_lt (g := gb354) (o := .cells #[.bool t342, .bool t343, .bool t344, .bool t345, .int .i64 t346, .int .i64 t347, .string t348, .string t349] 23 (0, 0)) (bk_ BK354)) : gb354 ≠ gb395))
   have n11_ := Aside0.mk ((by rw [hg]; exact Nat.ne_of_gt (blk_lt (g := gb354) (o := .cells #[.bool t342, .bool t343, .bool t344, .bool t345, .int .i64 t346, .int .i64 t347, .string t348, .string t349] 23 (0, 0)) (bk_ BK354)) : gb395 ≠ gb354))
   have n12_ := Aside0.mk ((by rw [hg]; exact Nat.ne_of_lt (blk_lt (g := gb374) (o := .cells #[.bool t362, .bool t363, .bool t364, .bool t365, .int .i64 t366, .int .i64 t367, .string t368, .string t369] 23 (0, 0)) (bk_ BK374)) : gb374 ≠ gb395))
   have n13_ := Aside0.mk ((by rw [hg]; exact Nat.ne_of_gt (blk_lt (g := gb374) (o := .cells #[.bool t362, .bool t363, .bool t364, .bool t365, .int .i64 t366, .int .i64 t367, .string t368, .string t369] 23 (0, 0)) (bk_ BK374)) : gb395 ≠ gb374))
   clear HO341
   clear HO352
   clear HO361
   clear HO372
   clear BK354
   clear BK374
   clear HB
   have HO341 := n0_
   have HO352 := n1_
   have HO361 := n2_
   have HO372 := n3_
   have BK354 := n4_
   have BK374 := n5_
   have HB := n6_
   have BK395 := n7_
   have GW395 := n8_
   have GE395 := n9_
   have NB354_395 := n10_
   have NB395_354 := n11_
   have NB374_395 := n12_
   have NB395_374 := n13_
   clear n0_ n1_ n2_ n3_ n4_ n5_ n6_ n7_ n8_ n9_ n10_ n11_ n12_ n13_
   clear hb hbox hg
   refine hK.out _ _ ⟨(blk_cell BK374.out 0).trans rfl, (blk_cell BK374.out 1).trans rfl, (blk_cell BK374.out 2).trans rfl, (blk_cell BK374.out 3).trans rfl, (blk_cell BK374.out 4).trans rfl, (blk_cell BK374.out 5).trans rfl, (blk_cell BK374.out 6).trans rfl, (blk_cell BK374.out 7).trans rfl⟩ (fun hHeld => ?_)
   clear hK K
   refine norm_ (a' := ?_) ?_ ?_
   rotate_left
   ·show Act.put _ (some 12) _ = _
    simp only [Act.put, la_, lb_, lc_, i64_w, i32_w]
    rfl
   refine one_ (i := 4) (N := some 61) d4x11 rfl rfl (one_of HT_.out (by kernel_rfl)) (by decide) (fun K hK => ?_)
   refine goes_ Tryd.func10 (by kernel_rfl) rfl #[.slice A48 y376.length c48] (by rfl) rfl rfl (by (try simp only [List.map_toArray, List.map_cons, List.map_nil]); first | done | rfl | (simp only [List.length_drop, List.length_take]; rfl)) ?_
   with_reducible refine (headgatelaw21_few.calls _ _ y376 t380 _ ?side1 ?side2 A20.out).mono ?_
   (case side1 => repeat (first | exact (Kd.C_below HR379.out HB.out) | (with_reducible refine Kd.C_alloc ?_ _) | (with_reducible refine Kd.C_drewN ?_ _) | (with_reducible refine Kd.C_drew ?_)))
   (case side2 => exact HC379.out)
   rintro e w50 ⟨v381, rfl, ho0, hb⟩
   refine ⟨_, rfl, ?_⟩
   have n0_ := Aside0.mk (Kd.R_elder' (by (with_reducible repeat (first | apply Kd.R_alloc | apply Kd.R_drewN | apply Kd.R_drew)); exact HO341.out) (Kd.R_base ho0) hb)
   have n1_ := Aside0.mk (Kd.R_elder' (by (with_reducible repeat (first | apply Kd.R_alloc | apply Kd.R_drewN | apply Kd.R_drew)); exact HO352.out) (Kd.R_base ho0) hb)
   have n2_ := Aside0.mk (Kd.R_elder' (by (with_reducible repeat (first | apply Kd.R_alloc | apply Kd.R_drewN | apply Kd.R_drew)); exact HO361.out) (Kd.R_base ho0) hb)
   have n3_ := Aside0.mk (Kd.R_elder' (by (with_reducible repeat (first | apply Kd.R_alloc | apply Kd.R_drewN | apply Kd.R_drew)); exact HO372.out) (Kd.R_base ho0) hb)
   have n4_ := Aside0.mk (Kd.R_lower (Kd.R_new' (Kd.R_new' (Kd.R_new' (Kd.R_new' ho0 (Kd.R_lt (by (with_reducible repeat (first | apply Kd.R_alloc | apply Kd.R_drewN | apply Kd.R_drew)); exact HO341.out))) (Kd.R_lt (by (with_reducible repeat (first | apply Kd.R_alloc | apply Kd.R_drewN | apply Kd.R_drew)); exact HO352.out))) (Kd.R_lt (by (with_reducible repeat (first | apply Kd.R_alloc | apply Kd.R_drewN | apply Kd.R_drew)); exact HO361.out))) (Kd.R_lt (by (with_reducible repeat (first | apply Kd.R_alloc | apply Kd.R_drewN | apply Kd.R_drew)); exact HO372.out))) (below_size (hb_ HB)))
   have n5_ := Aside0.mk (blk_below (bk_ BK354) hb)
   have n6_ := Aside0.mk (blk_below (bk_ BK374) hb)
   have n7_ := Aside0.mk (blk_below (bk_ BK395) hb)
   have n8_ := Aside0.mk (below_step (hb_ HB) hb)
   clear HO341
   clear HO352
   clear HO361
   clear HO372
   clear BK354
   clear BK374
   clear BK395
   clear HB
   have HO341 := n0_
   have HO352 := n1_
   have HO361 := n2_
   have HO372 := n3_
   have HO382 := n4_
   have BK354 := n5_
   have BK374 := n6_
   have BK395 := n7_
   have HB := n8_
   clear n0_ n1_ n2_ n3_ n4_ n5_ n6_ n7_ n8_
   (try clear hb)
   (try clear hb2)
   (try clear hk)
   (try clear hi)
   (try clear ho0)
   obtain ⟨Ao51, co51, eo51⟩ := Kd.R_slice HO382.out
   (first | subst eo51 | (injection eo51 with f1_ f2_ f3_; have f4_ := f1_.symm; have f5_ := f3_.symm; clear f1_ f2_ f3_; subst f4_; subst f5_))
   refine hK.out _ _ ⟨(blk_cell BK374.out 0).trans rfl, (blk_cell BK374.out 1).trans rfl, (blk_cell BK374.out 2).trans rfl, (blk_cell BK374.out 3).trans rfl, (blk_cell BK374.out 4).trans rfl, (blk_cell BK374.out 5).trans rfl, (blk_cell BK374.out 6).trans rfl, (blk_cell BK374.out 7).trans rfl⟩ (fun hHeld => ?_)
   clear hK K
   refine norm_ (a' := ?_) ?_ ?_
   rotate_left
   ·show Act.put _ (some 61) _ = _
    simp only [Act.put, la_, lb_, lc_, i64_w, i32_w]
    rfl
   refine one_ (i := 5) (N := some 62) d4x13 rfl rfl (one_of HT_.out (by kernel_rfl)) (by decide) (fun K hK => ?_)
   refine goes_ Tryd.func11 (by kernel_rfl) rfl #[.agg #[.bool t362, .bool t363, .bool t364, .bool t365, .int .i64 t366, .int .i64 t367, .string t368, .string t369], .slice Ao51 t380.length co51] (by rfl) rfl rfl (by (try simp only [List.map_toArray, List.map_cons, List.map_nil]); first | done | rfl | (simp only [List.length_drop, List.length_take]; rfl)) ?_
   with_reducible refine (keys_Answer.calls t362 t363 t364 t365 t366 t367 t368 t369 _ _ t380 t383 t384 t385 t386 t387 t388 t389 t390 t391 t394 _ ?side1 ?side2 ?side3 A21.out).mono ?_
   (case side1 => repeat (first | exact (Kd.R_reads' HO382.out).2.2 | (with_reducible refine Kd.C_alloc ?_ _) | (with_reducible refine Kd.C_drewN ?_ _) | (with_reducible refine Kd.C_drew ?_)))
   (case side2 => exact (Kd.R_reads' HO382.out).2.1)
   (case side3 => first | ((refine Glob.keep HG.out ?_); (repeat (first | (with_reducible first | exact HB.out | apply below_alloc | apply pw_below_drewN | apply below_drew1 | refine below_set ?_ GE354.out | refine below_set ?_ GE374.out | refine below_set ?_ GE395.out) | exact HB.out)); done) | exact HG.out)
   rintro e w52 ⟨v392, rfl, ho0, hb⟩
   refine ⟨_, rfl, ?_⟩
   have n0_ := Aside0.mk (Kd.R_elder' (by (with_reducible repeat (first | apply Kd.R_alloc | apply Kd.R_drewN | apply Kd.R_drew)); exact HO341.out) (Kd.R_base ho0) hb)
   have n1_ := Aside0.mk (Kd.R_elder' (by (with_reducible repeat (first | apply Kd.R_alloc | apply Kd.R_drewN | apply Kd.R_drew)); exact HO352.out) (Kd.R_base ho0) hb)
   have n2_ := Aside0.mk (Kd.R_elder' (by (with_reducible repeat (first | apply Kd.R_alloc | apply Kd.R_drewN | apply Kd.R_drew)); exact HO361.out) (Kd.R_base ho0) hb)
   have n3_ := Aside0.mk (Kd.R_elder' (by (with_reducible repeat (first | apply Kd.R_alloc | apply Kd.R_drewN | apply Kd.R_drew)); exact HO372.out) (Kd.R_base ho0) hb)
   have n4_ := Aside0.mk (Kd.R_elder' (by (with_reducible repeat (first | apply Kd.R_alloc | apply Kd.R_drewN | apply Kd.R_drew)); exact HO382.out) (Kd.R_base ho0) hb)
   have n5_ := Aside0.mk (Kd.R_lower (Kd.R_new' (Kd.R_new' (Kd.R_new' (Kd.R_new' (Kd.R_new' ho0 (Kd.R_lt (by (with_reducible repeat (first | apply Kd.R_alloc | apply Kd.R_drewN | apply Kd.R_drew)); exact HO341.out))) (Kd.R_lt (by (with_reducible repeat (first | apply Kd.R_alloc | apply Kd.R_drewN | apply Kd.R_drew)); exact HO352.out))) (Kd.R_lt (by (with_reducible repeat (first | apply Kd.R_alloc | apply Kd.R_drewN | apply Kd.R_drew)); exact HO361.out))) (Kd.R_lt (by (with_reducible repeat (first | apply Kd.R_alloc | apply Kd.R_drewN | apply Kd.R_drew)); exact HO372.out))) (Kd.R_lt (by (with_reducible repeat (first | apply Kd.R_alloc | apply Kd.R_drewN | apply Kd.R_drew)); exact HO382.out))) (below_size (hb_ HB)))
   have n6_ := Aside0.mk (blk_below (bk_ BK354) hb)
   have n7_ := Aside0.mk (blk_below (bk_ BK374) hb)
   have n8_ := Aside0.mk (blk_below (bk_ BK395) hb)
   have n9_ := Aside0.mk (below_step (hb_ HB) hb)
   clear HO341
   clear HO352
   clear HO361
   clear HO372
   clear HO382
   clear BK354
   clear BK374
   clear BK395
   clear HB
   have HO341 := n0_
   have HO352 := n1_
   have HO361 := n2_
   have HO372 := n3_
   have HO382 := n4_
   have HO393 := n5_
   have BK354 := n6_
   have BK374 := n7_
   have BK395 := n8_
   have HB := n9_
   clear n0_ n1_ n2_ n3_ n4_ n5_ n6_ n7_ n8_ n9_
   (try clear hb)
   (try clear hb2)
   (try clear hk)
   (try clear hi)
   (try clear ho0)
   refine hK.out _ _ ⟨(blk_cell BK374.out 0).trans rfl, (blk_cell BK374.out 1).trans rfl, (blk_cell BK374.out 2).trans rfl, (blk_cell BK374.out 3).trans rfl, (blk_cell BK374.out 4).trans rfl, (blk_cell BK374.out 5).trans rfl, (blk_cell BK374.out 6).trans rfl, (blk_cell BK374.out 7).trans rfl⟩ (fun hHeld => ?_)
   clear hK K
   refine norm_ (a' := ?_) ?_ ?_
   rotate_left
   ·show Act.put _ (some 62) _ = _
    simp only [Act.put, la_, lb_, lc_, i64_w, i32_w]
    rfl
   refine pon_ 6 (some 56) d4x15 HT_.out ?_
   refine pon_ 7 (some 63) d4x17 HT_.out ?_
   refine pon_ 8 (some 64) d4x20 HT_.out ?_
   refine pon_ 9 (some 65) d4x22 HT_.out ?_
   exact norm_ (by simp only [putAll, Act.put, la_, lb_, lc_]) (hCont (.slice Ao51 t380.length co51, v392, gb395) _ ⟨hHeld, (by (with_reducible repeat (first | apply Kd.R_alloc | apply Kd.R_drewN | apply Kd.R_drew)); exact Kd.R_mono HO341.out (fun _ hk => ⟨hk.1.1.1, ⟨hk.1.1.2.1, ⟨hk.1.1.2.2, ⟨hk.1.2, hk.2⟩⟩⟩⟩)), (by (with_reducible repeat (first | apply Kd.R_alloc | apply Kd.R_drewN | apply Kd.R_drew)); exact Kd.R_mono HO352.out (fun _ hk => ⟨hk.1.1.1, ⟨hk.1.1.2.1, ⟨hk.1.1.2.2, ⟨hk.1.2, hk.2⟩⟩⟩⟩)), (by (with_reducible repeat (first | apply Kd.R_alloc | apply Kd.R_drewN | apply Kd.R_drew)); exact Kd.R_mono HO361.out (fun _ hk => ⟨hk.1.1.1, ⟨hk.1.1.2.1, ⟨hk.1.1.2.2, ⟨hk.1.2, hk.2⟩⟩⟩⟩)), (by (with_reducible repeat (first | apply Kd.R_alloc | apply Kd.R_drewN | apply Kd.R_drew)); exact Kd.R_mono HO372.out (fun _ hk => ⟨hk.1.1.1, ⟨hk.1.1.2.1, ⟨hk.1.1.2.2, ⟨hk.1.2, hk.2⟩⟩⟩⟩)), (by (with_reducible repeat (first | apply Kd.R_alloc | apply Kd.R_drewN | apply Kd.R_drew)); exact Kd.R_mono HO382.out (fun _ hk => ⟨hk.1.1.1.1.2, ⟨hk.1.1.1.2, ⟨hk.1.1.2, ⟨hk.1.2, hk.2⟩⟩⟩⟩)), (by (with_reducible repeat (first | apply Kd.R_alloc | apply Kd.R_drewN | apply Kd.R_drew)); exact Kd.R_mono HO393.out (fun _ hk => ⟨hk.1.1.1.1.2, ⟨hk.1.1.1.2, ⟨hk.1.1.2, ⟨hk.1.2, hk.2⟩⟩⟩⟩)), (bk_ BK354), (bk_ BK374), (bk_ BK395), GW395.out, GE395.out, NB354_395.out, NB395_354.out, NB374_395.out, NB395_374.out, (hb_ HB)⟩)
 rintro ⟨v381, v392, gb395⟩ w53 ⟨hS_, h0_, h1_, h2_, h3_, h4_, h5_, h6_, h7_, h8_, h9_, h10_, h11_, h12_, h13_, h14_, h15_⟩
 have n0_ : Aside0 (Kd.R k45 45 w53 w.heap.size (fun k_ => some k_ ≠ (v351 : Value).ownBlock ∧ some k_ ≠ (v360 : Value).ownBlock ∧ some k_ ≠ (v371 : Value).ownBlock ∧ some k_ ≠ (v381 : Value).ownBlock ∧ some k_ ≠ (v392 : Value).ownBlock) (.slice Ao25 t339.length co25) t339) := ⟨h0_⟩
 have n1_ : Aside0 (Kd.R k45 45 w53 w.heap.size (fun k_ => some k_ ≠ (.slice Ao25 t339.length co25 : Value).ownBlock ∧ some k_ ≠ (v360 : Value).ownBlock ∧ some k_ ≠ (v371 : Value).ownBlock ∧ some k_ ≠ (v381 : Value).ownBlock ∧ some k_ ≠ (v392 : Value).ownBlock) v351 t350) := ⟨h1_⟩
 have n2_ : Aside0 (Kd.R k45 45 w53 w.heap.size (fun k_ => some k_ ≠ (.slice Ao25 t339.length co25 : Value).ownBlock ∧ some k_ ≠ (v351 : Value).ownBlock ∧ some k_ ≠ (v371 : Value).ownBlock ∧ some k_ ≠ (v381 : Value).ownBlock ∧ some k_ ≠ (v392 : Value).ownBlock) v360 t359) := ⟨h2_⟩
 have n3_ : Aside0 (Kd.R k45 45 w53 w.heap.size (fun k_ => some k_ ≠ (.slice Ao25 t339.length co25 : Value).ownBlock ∧ some k_ ≠ (v351 : Value).ownBlock ∧ some k_ ≠ (v360 : Value).ownBlock ∧ some k_ ≠ (v381 : Value).ownBlock ∧ some k_ ≠ (v392 : Value).ownBlock) v371 t370) := ⟨h3_⟩
 have n4_ : Aside0 (Kd.R k45 45 w53 w.heap.size (fun k_ => some k_ ≠ (.slice Ao25 t339.length co25 : Value).ownBlock ∧ some k_ ≠ (v351 : Value).ownBlock ∧ some k_ ≠ (v360 : Value).ownBlock ∧ some k_ ≠ (v371 : Value).ownBlock ∧ some k_ ≠ (v392 : Value).ownBlock) v381 t380) := ⟨h4_⟩
 have n5_ : Aside0 (Kd.R k45 45 w53 w.heap.size (fun k_ => some k_ ≠ (.slice Ao25 t339.length co25 : Value).ownBlock ∧ some k_ ≠ (v351 : Value).ownBlock ∧ some k_ ≠ (v360 : Value).ownBlock ∧ some k_ ≠ (v371 : Value).ownBlock ∧ some k_ ≠ (v381 : Value).ownBlock) v392 t391) := ⟨h5_⟩
 have n6_ : Aside0 (w53.heap[gb354]? = some (.cells #[.bool t342, .bool t343, .bool t344, .bool t345, .int .i64 t346, .int .i64 t347, .string t348, .string t349] 23 (0, 0))) := ⟨h6_⟩
 have n7_ : Aside0 (w53.heap[gb374]? = some (.cells #[.bool t362, .bool t363, .bool t364, .bool t365, .int .i64 t366, .int .i64 t367, .string t368, .string t369] 23 (0, 0))) := ⟨h7_⟩
 have n8_ : Aside0 (w53.heap[gb395]? = some (.cells #[.bool false, .bool false, .bool false, .bool false, .int .i64 0, .int .i64 0, .string (⟨#[]⟩ : ByteArray), .string (⟨#[]⟩ : ByteArray)] 23 (0, 0))) := ⟨h8_⟩
 have n9_ : Aside0 (w.heap.size ≤ gb395) := ⟨h9_⟩
 have n10_ : Aside0 (w.heap.size ≤ gb395) := ⟨h10_⟩
 have n11_ : Aside0 (gb354 ≠ gb395) := ⟨h11_⟩
 have n12_ : Aside0 (gb395 ≠ gb354) := ⟨h12_⟩
 have n13_ : Aside0 (gb374 ≠ gb395) := ⟨h13_⟩
 have n14_ : Aside0 (gb395 ≠ gb374) := ⟨h14_⟩
 have n15_ : Aside0 (Below w.heap.size w w53) := ⟨h15_⟩
 clear HO341
 clear HO352
 clear HO361
 clear HO372
 clear BK354
 clear BK374
 clear HB
 clear h0_ h1_ h2_ h3_ h4_ h5_ h6_ h7_ h8_ h9_ h10_ h11_ h12_ h13_ h14_ h15_
 have HO341 := n0_
 have HO352 := n1_
 have HO361 := n2_
 have HO372 := n3_
 have HO382 := n4_
 have HO393 := n5_
 have BK354 := n6_
 have BK374 := n7_
 have BK395 := n8_
 have GW395 := n9_
 have GE395 := n10_
 have NB354_395 := n11_
 have NB395_354 := n12_
 have NB374_395 := n13_
 have NB395_374 := n14_
 have HB := n15_
 clear n0_ n1_ n2_ n3_ n4_ n5_ n6_ n7_ n8_ n9_ n10_ n11_ n12_ n13_ n14_ n15_
 have hHeld : w53.cell? ⟨gb374, 0, none⟩ = some (.bool t362) ∧ w53.cell? ⟨gb374, 1, none⟩ = some (.bool t363) ∧ w53.cell? ⟨gb374, 2, none⟩ = some (.bool t364) ∧ w53.cell? ⟨gb374, 3, none⟩ = some (.bool t365) ∧ w53.cell? ⟨gb374, 4, none⟩ = some (.int .i64 t366) ∧ w53.cell? ⟨gb374, 5, none⟩ = some (.int .i64 t367) ∧ w53.cell? ⟨gb374, 6, none⟩ = some (.string t368) ∧ w53.cell? ⟨gb374, 7, none⟩ = some (.string t369) := hS_
 refine norm_ (a' := ?_) ?_ ?_
 rotate_left
 ·simp only [putAll, Act.put, la_, lb_, lc_]
  rfl
 refine one_ (i := 11) (N := none) d4x23 rfl rfl (one_of HT_.out (by kernel_rfl)) (by decide) (fun K hK => ?_)
 have hs54 : w53.cell? ⟨gb395, 0, none⟩ = some (.bool false) := (blk_cell BK395.out 0).trans rfl
 have hfs54 := blk_frozen BK395.out 0
 have hns54_0 := NB354_395.out
 have hns54_1 := NB374_395.out
 have hms54_0 := NB395_354.out
 have hms54_1 := NB395_374.out
 have hs55 : w53.cell? ⟨gb395, 1, none⟩ = some (.bool false) := (blk_cell BK395.out 1).trans rfl
 have hfs55 := blk_frozen BK395.out 1
 have hns55_0 := NB354_395.out
 have hns55_1 := NB374_395.out
 have hms55_0 := NB395_354.out
 have hms55_1 := NB395_374.out
 have hs56 : w53.cell? ⟨gb395, 2, none⟩ = some (.bool false) := (blk_cell BK395.out 2).trans rfl
 have hfs56 := blk_frozen BK395.out 2
 have hns56_0 := NB354_395.out
 have hns56_1 := NB374_395.out
 have hms56_0 := NB395_354.out
 have hms56_1 := NB395_374.out
 have hs57 : w53.cell? ⟨gb395, 3, none⟩ = some (.bool false) := (blk_cell BK395.out 3).trans rfl
 have hfs57 := blk_frozen BK395.out 3
 have hns57_0 := NB354_395.out
 have hns57_1 := NB374_395.out
 have hms57_0 := NB395_354.out
 have hms57_1 := NB395_374.out
 have hs58 : w53.cell? ⟨gb395, 4, none⟩ = some (.int .i64 0) := (blk_cell BK395.out 4).trans rfl
 have hfs58 := blk_frozen BK395.out 4
 have hns58_0 := NB354_395.out
 have hns58_1 := NB374_395.out
 have hms58_0 := NB395_354.out
 have hms58_1 := NB395_374.out
 have hs59 : w53.cell? ⟨gb395, 5, none⟩ = some (.int .i64 0) := (blk_cell BK395.out 5).trans rfl
 have hfs59 := blk_frozen BK395.out 5
 have hns59_0 := NB354_395.out
 have hns59_1 := NB374_395.out
 have hms59_0 := NB395_354.out
 have hms59_1 := NB395_374.out
 have hs60 : w53.cell? ⟨gb395, 6, none⟩ = some (.string (⟨#[]⟩ : ByteArray)) := (blk_cell BK395.out 6).trans rfl
 have hfs60 := blk_frozen BK395.out 6
 have hns60_0 := NB354_395.out
 have hns60_1 := NB374_395.out
 have hms60_0 := NB395_354.out
 have hms60_1 := NB395_374.out
 have hs61 : w53.cell? ⟨gb395, 7, none⟩ = some (.string (⟨#[]⟩ : ByteArray)) := (blk_cell BK395.out 7).trans rfl
 have hfs61 := blk_frozen BK395.out 7
 have hns61_0 := NB354_395.out
 have hns61_1 := NB374_395.out
 have hms61_0 := NB395_354.out
 have hms61_1 := NB395_374.out
 refine skip_ (w1 := ?_) (by rfl) rfl ?_ ?_
 rotate_left
 ·go_simp
  rfl
 refine hK.out _ _ ⟨((cell_far (p := ⟨gb395, _, none⟩) NB374_395.out _).trans (((cell_far (p := ⟨gb395, _, none⟩) NB374_395.out _).trans (((cell_far (p := ⟨gb395, _, none⟩) NB374_395.out _).trans (((cell_far (p := ⟨gb395, _, none⟩) NB374_395.out _).trans (((cell_far (p := ⟨gb395, _, none⟩) NB374_395.out _).trans (((cell_far (p := ⟨gb395, _, none⟩) NB374_395.out _).trans (((cell_far (p := ⟨gb395, _, none⟩) NB374_395.out _).trans (((cell_far (p := ⟨gb395, _, none⟩) NB374_395.out _).trans (hHeld.1)))))))))))))))), ((cell_far (p := ⟨gb395, _, none⟩) NB374_395.out _).trans (((cell_far (p := ⟨gb395, _, none⟩) NB374_395.out _).trans (((cell_far (p := ⟨gb395, _, none⟩) NB374_395.out _).trans (((cell_far (p := ⟨gb395, _, none⟩) NB374_395.out _).trans (((cell_far (p := ⟨gb395, _, none⟩) NB374_395.out _).trans (((cell_far (p := ⟨gb395, _, none⟩) NB374_395.out _).trans (((cell_far (p := ⟨gb395, _, none⟩) NB374_395.out _).trans (((cell_far (p := ⟨gb395, _, none⟩) NB374_395.out _).trans (hHeld.2.1)))))))))))))))), ((cell_far (p := ⟨gb395, _, none⟩) NB374_395.out _).trans (((cell_far (p := ⟨gb395, _, none⟩) NB374_395.out _).trans (((cell_far (p := ⟨gb395, _, none⟩) NB374_395.out _).trans (((cell_far (p := ⟨gb395, _, none⟩) NB374_395.out _).trans (((cell_far (p := ⟨gb395, _, none⟩) NB374_395.out _).trans (((cell_far (p := ⟨gb395, _, none⟩) NB374_395.out _).trans (((cell_far (p := ⟨gb395, _, none⟩) NB374_395.out _).trans (((cell_far (p := ⟨gb395, _, none⟩) NB374_395.out _).trans (hHeld.2.2.1)))))))))))))))), ((cell_far (p := ⟨gb395, _, none⟩) NB374_395.out _).trans (((cell_far (p := ⟨gb395, _, none⟩) NB374_395.out _).trans (((cell_far (p := ⟨gb395, _, none⟩) NB374_395.out _).trans (((cell_far (p := ⟨gb395, _, none⟩) NB374_395.out _).trans (((cell_far (p := ⟨gb395, _, none⟩) NB374_395.out _).trans (((cell_far (p := ⟨gb395, _, none⟩) NB374_395.out _).trans (((cell_far (p := ⟨gb395, _, none⟩) NB374_395.out _).trans (((cell_far (p := ⟨gb395, _, none⟩) NB374_395.out _).trans (hHeld.2.2.2.1)))))))))))))))), ((cell_far (p := ⟨gb395, _, none⟩) NB374_395.out _).trans (((cell_far (p := ⟨gb395, _, none⟩) NB374_395.out _).trans (((cell_far (p := ⟨gb395, _, none⟩) NB374_395.out _).trans (((cell_far (p := ⟨gb395, _, none⟩) NB374_395.out _).trans (((cell_far (p := ⟨gb395, _, none⟩) NB374_395.out _).trans (((cell_far (p := ⟨gb395, _, none⟩) NB374_395.out _).trans (((cell_far (p := ⟨gb395, _, none⟩) NB374_395.out _).trans (((cell_far (p := ⟨gb395, _, none⟩) NB374_395.out _).trans (hHeld.2.2.2.2.1)))))))))))))))), ((cell_far (p := ⟨gb395, _, none⟩) NB374_395.out _).trans (((cell_far (p := ⟨gb395, _, none⟩) NB374_395.out _).trans (((cell_far (p := ⟨gb395, _, none⟩) NB374_395.out _).trans (((cell_far (p := ⟨gb395, _, none⟩) NB374_395.out _).trans (((cell_far (p := ⟨gb395, _, none⟩) NB374_395.out _).trans (((cell_far (p := ⟨gb395, _, none⟩) NB374_395.out _).trans (((cell_far (p := ⟨gb395, _, none⟩) NB374_395.out _).trans (((cell_far (p := ⟨gb395, _, none⟩) NB374_395.out _).trans (hHeld.2.2.2.2.2.1)))))))))))))))), ((cell_far (p := ⟨gb395, _, none⟩) NB374_395.out _).trans (((cell_far (p := ⟨gb395, _, none⟩) NB374_395.out _).trans (((cell_far (p := ⟨gb395, _, none⟩) NB374_395.out _).trans (((cell_far (p := ⟨gb395, _, none⟩) NB374_395.out _).trans (((cell_far (p := ⟨gb395, _, none⟩) NB374_395.out _).trans (((cell_far (p := ⟨gb395, _, none⟩) NB374_395.out _).trans (((cell_far (p := ⟨gb395, _, none⟩) NB374_395.out _).trans (((cell_far (p := ⟨gb395, _, none⟩) NB374_395.out _).trans (hHeld.2.2.2.2.2.2.1)))))))))))))))), ((cell_far (p := ⟨gb395, _, none⟩) NB374_395.out _).trans (((cell_far (p := ⟨gb395, _, none⟩) NB374_395.out _).trans (((cell_far (p := ⟨gb395, _, none⟩) NB374_395.out _).trans (((cell_far (p := ⟨gb395, _, none⟩) NB374_395.out _).trans (((cell_far (p := ⟨gb395, _, none⟩) NB374_395.out _).trans (((cell_far (p := ⟨gb395, _, none⟩) NB374_395.out _).trans (((cell_far (p := ⟨gb395, _, none⟩) NB374_395.out _).trans (((cell_far (p := ⟨gb395, _, none⟩) NB374_395.out _).trans (hHeld.2.2.2.2.2.2.2))))))))))))))))⟩ (fun hHeld => ?_)
 clear hK K
 refine pon_ 12 (some 13) d4x24 HT_.out ?_
 refine pon_ 13 (some 14) d4x25 HT_.out ?_
 refine done_ (done_of HT_.out (by kernel_rfl)) ?_
 go_upto_region 9 with (fail)
 go_cut [79] (fun v79 wc => ∃ (kq : Nat) (x79_21 : Bool), v79 = .bool x79_21 ∧ Aside0 (headgatelaw21_KeysSteps.j0 kq t350 t370 t391 x79_21 t342 t343 t344 t345 t346 t347 t348 t349 = some r) ∧ Aside0 (kq ≤ k) ∧ Aside0 (Kd.R k45 45 wc w.heap.size (fun k_ => some k_ ≠ (v371 : Value).ownBlock ∧ some k_ ≠ (v392 : Value).ownBlock) v351 t350) ∧ Aside0 (Kd.R k45 45 wc w.heap.size (fun k_ => some k_ ≠ (v351 : Value).ownBlock ∧ some k_ ≠ (v392 : Value).ownBlock) v371 t370) ∧ Aside0 (Kd.R k45 45 wc w.heap.size (fun k_ => some k_ ≠ (v351 : Value).ownBlock ∧ some k_ ≠ (v371 : Value).ownBlock) v392 t391) ∧ Aside0 (wc.heap[gb354]? = some (.cells #[.bool t342, .bool t343, .bool t344, .bool t345, .int .i64 t346, .int .i64 t347, .string t348, .string t349] 23 (0, 0))) ∧ Aside0 (wc.heap[gb374]? = some (.cells #[.bool t362, .bool t363, .bool t364, .bool t365, .int .i64 t366, .int .i64 t367, .string t368, .string t369] 23 (0, 0))) ∧ Aside0 (wc.heap[gb395]? = some (.cells #[.bool t383, .bool t384, .bool t385, .bool t386, .int .i64 t387, .int .i64 t388, .string t389, .string t390] 23 (0, 0))) ∧ Aside0 (Below w.heap.size w wc))
 case first =>
  have H := HC22.out
  clear HC22
  refine neg_first (p := (t373 = 0)) (fun c62 => ?_) (fun c62 => ?_)
  ·rw [if_neg c62] at H
   have c62b0 : (t373 == 0) = false := beq_eq_false_iff_ne.mpr c62
   have c62b1 : (t373 != 0) = true := bne_iff_ne.mpr c62
   (first | rw [c62b0] | (simp only [i64_w, i32_w]; rw [c62b0]) | skip)
   have H' := Aside0.mk H
   clear H
   try go_wp2
   have n0_ : Aside0 (Kd.R k45 45 ((((((((w53.setCell ⟨gb395, 0, none⟩ (.bool t383)).setCell ⟨gb395, 1, none⟩ (.bool t384)).setCell ⟨gb395, 2, none⟩ (.bool t385)).setCell ⟨gb395, 3, none⟩ (.bool t386)).setCell ⟨gb395, 4, none⟩ (.int .i64 t387)).setCell ⟨gb395, 5, none⟩ (.int .i64 t388)).setCell ⟨gb395, 6, none⟩ (.string t389)).setCell ⟨gb395, 7, none⟩ (.string t390)) w.heap.size (fun k_ => some k_ ≠ (v351 : Value).ownBlock ∧ some k_ ≠ (v360 : Value).ownBlock ∧ some k_ ≠ (v371 : Value).ownBlock ∧ some k_ ≠ (v381 : Value).ownBlock ∧ some k_ ≠ (v392 : Value).ownBlock) (.slice Ao25 t339.length co25) t339) := ⟨by (with_reducible repeat (first | apply Kd.R_alloc | apply Kd.R_drewN | apply Kd.R_drew)); exact Kd.R_mono (Kd.R_far (p := ⟨gb395, 7, none⟩) (Kd.R_far (p := ⟨gb395, 6, none⟩) (Kd.R_far (p := ⟨gb395, 5, none⟩) (Kd.R_far (p := ⟨gb395, 4, none⟩) (Kd.R_far (p := ⟨gb395, 3, none⟩) (Kd.R_far (p := ⟨gb395, 2, none⟩) (Kd.R_far (p := ⟨gb395, 1, none⟩) (Kd.R_far (p := ⟨gb395, 0, none⟩) (Kd.R_types HO341.out BK395.out (by decide)) (fun _ hk => hk.2) (.bool t383)) (fun _ hk => hk.2) (.bool t384)) (fun _ hk => hk.2) (.bool t385)) (fun _ hk => hk.2) (.bool t386)) (fun _ hk => hk.2) (.int .i64 t387)) (fun _ hk => hk.2) (.int .i64 t388)) (fun _ hk => hk.2) (.string t389)) (fun _ hk => hk.2) (.string t390)) (fun _ hk => ⟨hk.1.1, ⟨hk.1.2.1, ⟨hk.1.2.2.1, ⟨hk.1.2.2.2.1, hk.1.2.2.2.2⟩⟩⟩⟩)⟩
   have n1_ : Aside0 (Kd.R k45 45 ((((((((w53.setCell ⟨gb395, 0, none⟩ (.bool t383)).setCell ⟨gb395, 1, none⟩ (.bool t384)).setCell ⟨gb395, 2, none⟩ (.bool t385)).setCell ⟨gb395, 3, none⟩ (.bool t386)).setCell ⟨gb395, 4, none⟩ (.int .i64 t387)).setCell ⟨gb395, 5, none⟩ (.int .i64 t388)).setCell ⟨gb395, 6, none⟩ (.string t389)).setCell ⟨gb395, 7, none⟩ (.string t390)) w.heap.size (fun k_ => some k_ ≠ (.slice Ao25 t339.length co25 : Value).ownBlock ∧ some k_ ≠ (v360 : Value).ownBlock ∧ some k_ ≠ (v371 : Value).ownBlock ∧ some k_ ≠ (v381 : Value).ownBlock ∧ some k_ ≠ (v392 : Value).ownBlock) v351 t350) := ⟨by (with_reducible repeat (first | apply Kd.R_alloc | apply Kd.R_drewN | apply Kd.R_drew)); exact Kd.R_mono (Kd.R_far (p := ⟨gb395, 7, none⟩) (Kd.R_far (p := ⟨gb395, 6, none⟩) (Kd.R_far (p := ⟨gb395, 5, none⟩) (Kd.R_far (p := ⟨gb395, 4, none⟩) (Kd.R_far (p := ⟨gb395, 3, none⟩) (Kd.R_far (p := ⟨gb395, 2, none⟩) (Kd.R_far (p := ⟨gb395, 1, none⟩) (Kd.R_far (p := ⟨gb395, 0, none⟩) (Kd.R_types HO352.out BK395.out (by decide)) (fun _ hk => hk.2) (.bool t383)) (fun _ hk => hk.2) (.bool t384)) (fun _ hk => hk.2) (.bool t385)) (fun _ hk => hk.2) (.bool t386)) (fun _ hk => hk.2) (.int .i64 t387)) (fun _ hk => hk.2) (.int .i64 t388)) (fun _ hk => hk.2) (.string t389)) (fun _ hk => hk.2) (.string t390)) (fun _ hk => ⟨hk.1.1, ⟨hk.1.2.1, ⟨hk.1.2.2.1, ⟨hk.1.2.2.2.1, hk.1.2.2.2.2⟩⟩⟩⟩)⟩
   have n2_ : Aside0 (Kd.R k45 45 ((((((((w53.setCell ⟨gb395, 0, none⟩ (.bool t383)).setCell ⟨gb395, 1, none⟩ (.bool t384)).setCell ⟨gb395, 2, none⟩ (.bool t385)).setCell ⟨gb395, 3, none⟩ (.bool t386)).setCell ⟨gb395, 4, none⟩ (.int .i64 t387)).setCell ⟨gb395, 5, none⟩ (.int .i64 t388)).setCell ⟨gb395, 6, none⟩ (.string t389)).setCell ⟨gb395, 7, none⟩ (.string t390)) w.heap.size (fun k_ => some k_ ≠ (.slice Ao25 t339.length co25 : Value).ownBlock ∧ some k_ ≠ (v351 : Value).ownBlock ∧ some k_ ≠ (v371 : Value).ownBlock ∧ some k_ ≠ (v381 : Value).ownBlock ∧ some k_ ≠ (v392 : Value).ownBlock) v360 t359) := ⟨by (with_reducible repeat (first | apply Kd.R_alloc | apply Kd.R_drewN | apply Kd.R_drew)); exact Kd.R_mono (Kd.R_far (p := ⟨gb395, 7, none⟩) (Kd.R_far (p := ⟨gb395, 6, none⟩) (Kd.R_far (p := ⟨gb395, 5, none⟩) (Kd.R_far (p := ⟨gb395, 4, none⟩) (Kd.R_far (p := ⟨gb395, 3, none⟩) (Kd.R_far (p := ⟨gb395, 2, none⟩) (Kd.R_far (p := ⟨gb395, 1, none⟩) (Kd.R_far (p := ⟨gb395, 0, none⟩) (Kd.R_types HO361.out BK395.out (by decide)) (fun _ hk => hk.2) (.bool t383)) (fun _ hk => hk.2) (.bool t384)) (fun _ hk => hk.2) (.bool t385)) (fun _ hk => hk.2) (.bool t386)) (fun _ hk => hk.2) (.int .i64 t387)) (fun _ hk => hk.2) (.int .i64 t388)) (fun _ hk => hk.2) (.string t389)) (fun _ hk => hk.2) (.string t390)) (fun _ hk => ⟨hk.1.1, ⟨hk.1.2.1, ⟨hk.1.2.2.1, ⟨hk.1.2.2.2.1, hk.1.2.2.2.2⟩⟩⟩⟩)⟩
   have n3_ : Aside0 (Kd.R k45 45 ((((((((w53.setCell ⟨gb395, 0, none⟩ (.bool t383)).setCell ⟨gb395, 1, none⟩ (.bool t384)).setCell ⟨gb395, 2, none⟩ (.bool t385)).setCell ⟨gb395, 3, none⟩ (.bool t386)).setCell ⟨gb395, 4, none⟩ (.int .i64 t387)).setCell ⟨gb395, 5, none⟩ (.int .i64 t388)).setCell ⟨gb395, 6, none⟩ (.string t389)).setCell ⟨gb395, 7, none⟩ (.string t390)) w.heap.size (fun k_ => some k_ ≠ (.slice Ao25 t339.length co25 : Value).ownBlock ∧ some k_ ≠ (v351 : Value).ownBlock ∧ some k_ ≠ (v360 : Value).ownBlock ∧ some k_ ≠ (v381 : Value).ownBlock ∧ some k_ ≠ (v392 : Value).ownBlock) v371 t370) := ⟨by (with_reducible repeat (first | apply Kd.R_alloc | apply Kd.R_drewN | apply Kd.R_drew)); exact Kd.R_mono (Kd.R_far (p := ⟨gb395, 7, none⟩) (Kd.R_far (p := ⟨gb395, 6, none⟩) (Kd.R_far (p := ⟨gb395, 5, none⟩) (Kd.R_far (p := ⟨gb395, 4, none⟩) (Kd.R_far (p := ⟨gb395, 3, none⟩) (Kd.R_far (p := ⟨gb395, 2, none⟩) (Kd.R_far (p := ⟨gb395, 1, none⟩) (Kd.R_far (p := ⟨gb395, 0, none⟩) (Kd.R_types HO372.out BK395.out (by decide)) (fun _ hk => hk.2) (.bool t383)) (fun _ hk => hk.2) (.bool t384)) (fun _ hk => hk.2) (.bool t385)) (fun _ hk => hk.2) (.bool t386)) (fun _ hk => hk.2) (.int .i64 t387)) (fun _ hk => hk.2) (.int .i64 t388)) (fun _ hk => hk.2) (.string t389)) (fun _ hk => hk.2) (.string t390)) (fun _ hk => ⟨hk.1.1, ⟨hk.1.2.1, ⟨hk.1.2.2.1, ⟨hk.1.2.2.2.1, hk.1.2.2.2.2⟩⟩⟩⟩)⟩
   have n4_ : Aside0 (Kd.R k45 45 ((((((((w53.setCell ⟨gb395, 0, none⟩ (.bool t383)).setCell ⟨gb395, 1, none⟩ (.bool t384)).setCell ⟨gb395, 2, none⟩ (.bool t385)).setCell ⟨gb395, 3, none⟩ (.bool t386)).setCell ⟨gb395, 4, none⟩ (.int .i64 t387)).setCell ⟨gb395, 5, none⟩ (.int .i64 t388)).setCell ⟨gb395, 6, none⟩ (.string t389)).setCell ⟨gb395, 7, none⟩ (.string t390)) w.heap.size (fun k_ => some k_ ≠ (.slice Ao25 t339.length co25 : Value).ownBlock ∧ some k_ ≠ (v351 : Value).ownBlock ∧ some k_ ≠ (v360 : Value).ownBlock ∧ some k_ ≠ (v371 : Value).ownBlock ∧ some k_ ≠ (v392 : Value).ownBlock) v381 t380) := ⟨by (with_reducible repeat (first | apply Kd.R_alloc | apply Kd.R_drewN | apply Kd.R_drew)); exact Kd.R_mono (Kd.R_far (p := ⟨gb395, 7, none⟩) (Kd.R_far (p := ⟨gb395, 6, none⟩) (Kd.R_far (p := ⟨gb395, 5, none⟩) (Kd.R_far (p := ⟨gb395, 4, none⟩) (Kd.R_far (p := ⟨gb395, 3, none⟩) (Kd.R_far (p := ⟨gb395, 2, none⟩) (Kd.R_far (p := ⟨gb395, 1, none⟩) (Kd.R_far (p := ⟨gb395, 0, none⟩) (Kd.R_types HO382.out BK395.out (by decide)) (fun _ hk => hk.2) (.bool t383)) (fun _ hk => hk.2) (.bool t384)) (fun _ hk => hk.2) (.bool t385)) (fun _ hk => hk.2) (.bool t386)) (fun _ hk => hk.2) (.int .i64 t387)) (fun _ hk => hk.2) (.int .i64 t388)) (fun _ hk => hk.2) (.string t389)) (fun _ hk => hk.2) (.string t390)) (fun _ hk => ⟨hk.1.1, ⟨hk.1.2.1, ⟨hk.1.2.2.1, ⟨hk.1.2.2.2.1, hk.1.2.2.2.2⟩⟩⟩⟩)⟩
   have n5_ : Aside0 (Kd.R k45 45 ((((((((w53.setCell ⟨gb395, 0, none⟩ (.bool t383)).setCell ⟨gb395, 1, none⟩ (.bool t384)).setCell ⟨gb395, 2, none⟩ (.bool t385)).setCell ⟨gb395, 3, none⟩ (.bool t386)).setCell ⟨gb395, 4, none⟩ (.int .i64 t387)).setCell ⟨gb395, 5, none⟩ (.int .i64 t388)).setCell ⟨gb395, 6, none⟩ (.string t389)).setCell ⟨gb395, 7, none⟩ (.string t390)) w.heap.size (fun k_ => some k_ ≠ (.slice Ao25 t339.length co25 : Value).ownBlock ∧ some k_ ≠ (v351 : Value).ownBlock ∧ some k_ ≠ (v360 : Value).ownBlock ∧ some k_ ≠ (v371 : Value).ownBlock ∧ some k_ ≠ (v381 : Value).ownBlock) v392 t391) := ⟨by (with_reducible repeat (first | apply Kd.R_alloc | apply Kd.R_drewN | apply Kd.R_drew)); exact Kd.R_mono (Kd.R_far (p := ⟨gb395, 7, none⟩) (Kd.R_far (p := ⟨gb395, 6, none⟩) (Kd.R_far (p := ⟨gb395, 5, none⟩) (Kd.R_far (p := ⟨gb395, 4, none⟩) (Kd.R_far (p := ⟨gb395, 3, none⟩) (Kd.R_far (p := ⟨gb395, 2, none⟩) (Kd.R_far (p := ⟨gb395, 1, none⟩) (Kd.R_far (p := ⟨gb395, 0, none⟩) (Kd.R_types HO393.out BK395.out (by decide)) (fun _ hk => hk.2) (.bool t383)) (fun _ hk => hk.2) (.bool t384)) (fun _ hk => hk.2) (.bool t385)) (fun _ hk => hk.2) (.bool t386)) (fun _ hk => hk.2) (.int .i64 t387)) (fun _ hk => hk.2) (.int .i64 t388)) (fun _ hk => hk.2) (.string t389)) (fun _ hk => hk.2) (.string t390)) (fun _ hk => ⟨hk.1.1, ⟨hk.1.2.1, ⟨hk.1.2.2.1, ⟨hk.1.2.2.2.1, hk.1.2.2.2.2⟩⟩⟩⟩)⟩
   have n6_ : Aside0 (((((((((w53.setCell ⟨gb395, 0, none⟩ (.bool t383)).setCell ⟨gb395, 1, none⟩ (.bool t384)).setCell ⟨gb395, 2, none⟩ (.bool t385)).setCell ⟨gb395, 3, none⟩ (.bool t386)).setCell ⟨gb395, 4, none⟩ (.int .i64 t387)).setCell ⟨gb395, 5, none⟩ (.int .i64 t388)).setCell ⟨gb395, 6, none⟩ (.string t389)).setCell ⟨gb395, 7, none⟩ (.string t390)).heap[gb354]? = some (.cells #[.bool t342, .bool t343, .bool t344, .bool t345, .int .i64 t346, .int .i64 t347, .string t348, .string t349] 23 (0, 0))) := ⟨by (with_reducible repeat (first | refine blk_drewN ?_ _ | refine blk_drew ?_ | refine blk_alloc ?_ _ | refine blk_far ?_ NB354_395.out _)); exact BK354.out⟩
   have n7_ : Aside0 (((((((((w53.setCell ⟨gb395, 0, none⟩ (.bool t383)).setCell ⟨gb395, 1, none⟩ (.bool t384)).setCell ⟨gb395, 2, none⟩ (.bool t385)).setCell ⟨gb395, 3, none⟩ (.bool t386)).setCell ⟨gb395, 4, none⟩ (.int .i64 t387)).setCell ⟨gb395, 5, none⟩ (.int .i64 t388)).setCell ⟨gb395, 6, none⟩ (.string t389)).setCell ⟨gb395, 7, none⟩ (.string t390)).heap[gb374]? = some (.cells #[.bool t362, .bool t363, .bool t364, .bool t365, .int .i64 t366, .int .i64 t367, .string t368, .string t369] 23 (0, 0))) := ⟨by (with_reducible repeat (first | refine blk_drewN ?_ _ | refine blk_drew ?_ | refine blk_alloc ?_ _ | refine blk_far ?_ NB374_395.out _)); exact BK374.out⟩
   have n8_ : Aside0 (((((((((w53.setCell ⟨gb395, 0, none⟩ (.bool t383)).setCell ⟨gb395, 1, none⟩ (.bool t384)).setCell ⟨gb395, 2, none⟩ (.bool t385)).setCell ⟨gb395, 3, none⟩ (.bool t386)).setCell ⟨gb395, 4, none⟩ (.int .i64 t387)).setCell ⟨gb395, 5, none⟩ (.int .i64 t388)).setCell ⟨gb395, 6, none⟩ (.string t389)).setCell ⟨gb395, 7, none⟩ (.string t390)).heap[gb395]? = some (.cells #[.bool t383, .bool t384, .bool t385, .bool t386, .int .i64 t387, .int .i64 t388, .string t389, .string t390] 23 (0, 0))) := ⟨by (with_reducible repeat (first | refine blk_drewN ?_ _ | refine blk_drew ?_ | refine blk_alloc ?_ _)); refine blk_put (cs := #[.bool t383, .bool t384, .bool t385, .bool t386, .int .i64 t387, .int .i64 t388, .string t389, .string (⟨#[]⟩ : ByteArray)]) ?_ 7 _ rfl; (with_reducible repeat (first | refine blk_drewN ?_ _ | refine blk_drew ?_ | refine blk_alloc ?_ _)); refine blk_put (cs := #[.bool t383, .bool t384, .bool t385, .bool t386, .int .i64 t387, .int .i64 t388, .string (⟨#[]⟩ : ByteArray), .string (⟨#[]⟩ : ByteArray)]) ?_ 6 _ rfl; (with_reducible repeat (first | refine blk_drewN ?_ _ | refine blk_drew ?_ | refine blk_alloc ?_ _)); refine blk_put (cs := #[.bool t383, .bool t384, .bool t385, .bool t386, .int .i64 t387, .int .i64 0, .string (⟨#[]⟩ : ByteArray), .string (⟨#[]⟩ : ByteArray)]) ?_ 5 _ rfl; (with_reducible repeat (first | refine blk_drewN ?_ _ | refine blk_drew ?_ | refine blk_alloc ?_ _)); refine blk_put (cs := #[.bool t383, .bool t384, .bool t385, .bool t386, .int .i64 0, .int .i64 0, .string (⟨#[]⟩ : ByteArray), .string (⟨#[]⟩ : ByteArray)]) ?_ 4 _ rfl; (with_reducible repeat (first | refine blk_drewN ?_ _ | refine blk_drew ?_ | refine blk_alloc ?_ _)); refine blk_put (cs := #[.bool t383, .bool t384, .bool t385, .bool false, .int .i64 0, .int .i64 0, .string (⟨#[]⟩ : ByteArray), .string (⟨#[]⟩ : ByteArray)]) ?_ 3 _ rfl; (with_reducible repeat (first | refine blk_drewN ?_ _ | refine blk_drew ?_ | refine blk_alloc ?_ _)); refine blk_put (cs := #[.bool t383, .bool t384, .bool false, .bool false, .int .i64 0, .int .i64 0, .string (⟨#[]⟩ : ByteArray), .string (⟨#[]⟩ : ByteArray)]) ?_ 2 _ rfl; (with_reducible repeat (first | refine blk_drewN ?_ _ | refine blk_drew ?_ | refine blk_alloc ?_ _)); refine blk_put (cs := #[.bool t383, .bool false, .bool false, .bool false, .int .i64 0, .int .i64 0, .string (⟨#[]⟩ : ByteArray), .string (⟨#[]⟩ : ByteArray)]) ?_ 1 _ rfl; (with_reducible repeat (first | refine blk_drewN ?_ _ | refine blk_drew ?_ | refine blk_alloc ?_ _)); refine blk_put (cs := #[.bool false, .bool false, .bool false, .bool false, .int .i64 0, .int .i64 0, .string (⟨#[]⟩ : ByteArray), .string (⟨#[]⟩ : ByteArray)]) ?_ 0 _ rfl; (with_reducible repeat (first | refine blk_drewN ?_ _ | refine blk_drew ?_ | refine blk_alloc ?_ _)); exact BK395.out⟩
   have n9_ : Aside0 (Below w.heap.size w ((((((((w53.setCell ⟨gb395, 0, none⟩ (.bool t383)).setCell ⟨gb395, 1, none⟩ (.bool t384)).setCell ⟨gb395, 2, none⟩ (.bool t385)).setCell ⟨gb395, 3, none⟩ (.bool t386)).setCell ⟨gb395, 4, none⟩ (.int .i64 t387)).setCell ⟨gb395, 5, none⟩ (.int .i64 t388)).setCell ⟨gb395, 6, none⟩ (.string t389)).setCell ⟨gb395, 7, none⟩ (.string t390))) := ⟨hb_ HB⟩
   (try clear HO341)
   (try clear HO352)
   (try clear HO361)
   (try clear HO372)
   (try clear HO382)
   (try clear HO393)
   (try clear BK354)
   (try clear BK374)
   (try clear BK395)
   (try clear HB)
   generalize ((((((((w53.setCell ⟨gb395, 0, none⟩ (.bool t383)).setCell ⟨gb395, 1, none⟩ (.bool t384)).setCell ⟨gb395, 2, none⟩ (.bool t385)).setCell ⟨gb395, 3, none⟩ (.bool t386)).setCell ⟨gb395, 4, none⟩ (.int .i64 t387)).setCell ⟨gb395, 5, none⟩ (.int .i64 t388)).setCell ⟨gb395, 6, none⟩ (.string t389)).setCell ⟨gb395, 7, none⟩ (.string t390)) = w74 at n0_ n1_ n2_ n3_ n4_ n5_ n6_ n7_ n8_ n9_ ⊢
   have HO341 := n0_
   have HO352 := n1_
   have HO361 := n2_
   have HO372 := n3_
   have HO382 := n4_
   have HO393 := n5_
   have BK354 := n6_
   have BK374 := n7_
   have BK395 := n8_
   have HB := n9_
   clear n0_ n1_ n2_ n3_ n4_ n5_ n6_ n7_ n8_ n9_
   have n0_ := Aside0.mk (Kd.R_drew HO341.out)
   have n1_ := Aside0.mk (Kd.R_drew HO352.out)
   have n2_ := Aside0.mk (Kd.R_drew HO361.out)
   have n3_ := Aside0.mk (Kd.R_drew HO372.out)
   have n4_ := Aside0.mk (Kd.R_drew HO382.out)
   have n5_ := Aside0.mk (Kd.R_drew HO393.out)
   have n6_ := Aside0.mk (blk_drew BK354.out)
   have n7_ := Aside0.mk (blk_drew BK374.out)
   have n8_ := Aside0.mk (blk_drew BK395.out)
   have n9_ := Aside0.mk (below_drew1 HB.out)
   clear HO341
   clear HO352
   clear HO361
   clear HO372
   clear HO382
   clear HO393
   clear BK354
   clear BK374
   clear BK395
   clear HB
   have HO341 := n0_
   have HO352 := n1_
   have HO361 := n2_
   have HO372 := n3_
   have HO382 := n4_
   have HO393 := n5_
   have BK354 := n6_
   have BK374 := n7_
   have BK395 := n8_
   have HB := n9_
   clear n0_ n1_ n2_ n3_ n4_ n5_ n6_ n7_ n8_ n9_
   refine start_ (n := 14) (S := fun w' => True) (ds := []) d4x0 (by kernel_rfl) rfl rfl trivial (fun hHeld => ?_); refine with_tabW headgatelaw21_KeysSteps.tab9 headgatelaw21_KeysSteps.bits9 (fun HT_ HW_ => ?_)
   generalize w74.drew = w75 at HO341 HO352 HO361 HO372 HO382 HO393 BK354 BK374 BK395 HB hHeld ⊢
   refine pon_ 0 (some 66) d4x5 HT_.out ?_
   refine pon_ 1 (some 67) d4x6 HT_.out ?_
   refine pon_ 2 (some 68) d4x7 HT_.out ?_
   refine pof_ 3 (some 69) d4x8 HT_.out ?_
   refine pof_ 4 (some 70) d4x10 HT_.out ?_
   refine pon_ 5 (some 71) d4x12 HT_.out ?_
   refine pon_ 6 (some 72) d4x14 HT_.out ?_
   refine pof_ 7 (some 73) d4x16 HT_.out ?_
   refine pof_ 8 (some 74) d4x19 HT_.out ?_
   refine pof_ 9 (some 75) d4x21 HT_.out ?_
   refine pof_ 10 (some 76) d4x22 HT_.out ?_
   refine pof_ 11 (some 77) d4x23 HT_.out ?_
   refine pof_ 12 (some 78) d4x24 HT_.out ?_
   refine pon_ 13 (some 79) d4x25 HT_.out ?_
   refine done_ (done_of HT_.out (by kernel_rfl)) ?_
   try go_wp2
   go_meet
   case rel => exact ⟨_, (true), (by first | rfl | (simp; done) | (simp [*]; done)), H', ⟨by first | omega | exact Nat.le_refl _⟩, ⟨by (with_reducible repeat (first | apply Kd.R_alloc | apply Kd.R_drewN | apply Kd.R_drew)); exact Kd.R_mono HO352.out (fun _ hk => ⟨hk.2.2.1, hk.2.2.2.2⟩)⟩, ⟨by (with_reducible repeat (first | apply Kd.R_alloc | apply Kd.R_drewN | apply Kd.R_drew)); exact Kd.R_mono HO372.out (fun _ hk => ⟨hk.2.1, hk.2.2.2.2⟩)⟩, ⟨by (with_reducible repeat (first | apply Kd.R_alloc | apply Kd.R_drewN | apply Kd.R_drew)); exact Kd.R_mono HO393.out (fun _ hk => ⟨hk.2.1, hk.2.2.2.1⟩)⟩, ⟨bk_ BK354⟩, ⟨bk_ BK374⟩, ⟨bk_ BK395⟩, ⟨hb_ HB⟩⟩
  rw [if_pos c62] at H
  have c62b0 : (t373 == 0) = true := beq_iff_eq.mpr c62
  have c62b1 : (t373 != 0) = false := bne_eq_false_iff_eq.mpr c62
  clear c62
  (first | rw [c62b0] | (simp only [i64_w, i32_w]; rw [c62b0]) | skip)
  refine neg_first (p := (t394 = 0)) (fun c63 => ?_) (fun c63 => ?_)
  ·rw [if_neg c63] at H
   have c63b0 : (t394 == 0) = false := beq_eq_false_iff_ne.mpr c63
   have c63b1 : (t394 != 0) = true := bne_iff_ne.mpr c63
   have H' := Aside0.mk H
   clear H
   try go_wp2
   have n0_ : Aside0 (Kd.R k45 45 ((((((((w53.setCell ⟨gb395, 0, none⟩ (.bool t383)).setCell ⟨gb395, 1, none⟩ (.bool t384)).setCell ⟨gb395, 2, none⟩ (.bool t385)).setCell ⟨gb395, 3, none⟩ (.bool t386)).setCell ⟨gb395, 4, none⟩ (.int .i64 t387)).setCell ⟨gb395, 5, none⟩ (.int .i64 t388)).setCell ⟨gb395, 6, none⟩ (.string t389)).setCell ⟨gb395, 7, none⟩ (.string t390)) w.heap.size (fun k_ => some k_ ≠ (v351 : Value).ownBlock ∧ some k_ ≠ (v360 : Value).ownBlock ∧ some k_ ≠ (v371 : Value).ownBlock ∧ some k_ ≠ (v381 : Value).ownBlock ∧ some k_ ≠ (v392 : Value).ownBlock) (.slice Ao25 t339.length co25) t339) := ⟨by (with_reducible repeat (first | apply Kd.R_alloc | apply Kd.R_drewN | apply Kd.R_drew)); exact Kd.R_mono (Kd.R_far (p := ⟨gb395, 7, none⟩) (Kd.R_far (p := ⟨gb395, 6, none⟩) (Kd.R_far (p := ⟨gb395, 5, none⟩) (Kd.R_far (p := ⟨gb395, 4, none⟩) (Kd.R_far (p := ⟨gb395, 3, none⟩) (Kd.R_far (p := ⟨gb395, 2, none⟩) (Kd.R_far (p := ⟨gb395, 1, none⟩) (Kd.R_far (p := ⟨gb395, 0, none⟩) (Kd.R_types HO341.out BK395.out (by decide)) (fun _ hk => hk.2) (.bool t383)) (fun _ hk => hk.2) (.bool t384)) (fun _ hk => hk.2) (.bool t385)) (fun _ hk => hk.2) (.bool t386)) (fun _ hk => hk.2) (.int .i64 t387)) (fun _ hk => hk.2) (.int .i64 t388)) (fun _ hk => hk.2) (.string t389)) (fun _ hk => hk.2) (.string t390)) (fun _ hk => ⟨hk.1.1, ⟨hk.1.2.1, ⟨hk.1.2.2.1, ⟨hk.1.2.2.2.1, hk.1.2.2.2.2⟩⟩⟩⟩)⟩
   have n1_ : Aside0 (Kd.R k45 45 ((((((((w53.setCell ⟨gb395, 0, none⟩ (.bool t383)).setCell ⟨gb395, 1, none⟩ (.bool t384)).setCell ⟨gb395, 2, none⟩ (.bool t385)).setCell ⟨gb395, 3, none⟩ (.bool t386)).setCell ⟨gb395, 4, none⟩ (.int .i64 t387)).setCell ⟨gb395, 5, none⟩ (.int .i64 t388)).setCell ⟨gb395, 6, none⟩ (.string t389)).setCell ⟨gb395, 7, none⟩ (.string t390)) w.heap.size (fun k_ => some k_ ≠ (.slice Ao25 t339.length co25 : Value).ownBlock ∧ some k_ ≠ (v360 : Value).ownBlock ∧ some k_ ≠ (v371 : Value).ownBlock ∧ some k_ ≠ (v381 : Value).ownBlock ∧ some k_ ≠ (v392 : Value).ownBlock) v351 t350) := ⟨by (with_reducible repeat (first | apply Kd.R_alloc | apply Kd.R_drewN | apply Kd.R_drew)); exact Kd.R_mono (Kd.R_far (p := ⟨gb395, 7, none⟩) (Kd.R_far (p := ⟨gb395, 6, none⟩) (Kd.R_far (p := ⟨gb395, 5, none⟩) (Kd.R_far (p := ⟨gb395, 4, none⟩) (Kd.R_far (p := ⟨gb395, 3, none⟩) (Kd.R_far (p := ⟨gb395, 2, none⟩) (Kd.R_far (p := ⟨gb395, 1, none⟩) (Kd.R_far (p := ⟨gb395, 0, none⟩) (Kd.R_types HO352.out BK395.out (by decide)) (fun _ hk => hk.2) (.bool t383)) (fun _ hk => hk.2) (.bool t384)) (fun _ hk => hk.2) (.bool t385)) (fun _ hk => hk.2) (.bool t386)) (fun _ hk => hk.2) (.int .i64 t387)) (fun _ hk => hk.2) (.int .i64 t388)) (fun _ hk => hk.2) (.string t389)) (fun _ hk => hk.2) (.string t390)) (fun _ hk => ⟨hk.1.1, ⟨hk.1.2.1, ⟨hk.1.2.2.1, ⟨hk.1.2.2.2.1, hk.1.2.2.2.2⟩⟩⟩⟩)⟩
   have n2_ : Aside0 (Kd.R k45 45 ((((((((w53.setCell ⟨gb395, 0, none⟩ (.bool t383)).setCell ⟨gb395, 1, none⟩ (.bool t384)).setCell ⟨gb395, 2, none⟩ (.bool t385)).setCell ⟨gb395, 3, none⟩ (.bool t386)).setCell ⟨gb395, 4, none⟩ (.int .i64 t387)).setCell ⟨gb395, 5, none⟩ (.int .i64 t388)).setCell ⟨gb395, 6, none⟩ (.string t389)).setCell ⟨gb395, 7, none⟩ (.string t390)) w.heap.size (fun k_ => some k_ ≠ (.slice Ao25 t339.length co25 : Value).ownBlock ∧ some k_ ≠ (v351 : Value).ownBlock ∧ some k_ ≠ (v371 : Value).ownBlock ∧ some k_ ≠ (v381 : Value).ownBlock ∧ some k_ ≠ (v392 : Value).ownBlock) v360 t359) := ⟨by (with_reducible repeat (first | apply Kd.R_alloc | apply Kd.R_drewN | apply Kd.R_drew)); exact Kd.R_mono (Kd.R_far (p := ⟨gb395, 7, none⟩) (Kd.R_far (p := ⟨gb395, 6, none⟩) (Kd.R_far (p := ⟨gb395, 5, none⟩) (Kd.R_far (p := ⟨gb395, 4, none⟩) (Kd.R_far (p := ⟨gb395, 3, none⟩) (Kd.R_far (p := ⟨gb395, 2, none⟩) (Kd.R_far (p := ⟨gb395, 1, none⟩) (Kd.R_far (p := ⟨gb395, 0, none⟩) (Kd.R_types HO361.out BK395.out (by decide)) (fun _ hk => hk.2) (.bool t383)) (fun _ hk => hk.2) (.bool t384)) (fun _ hk => hk.2) (.bool t385)) (fun _ hk => hk.2) (.bool t386)) (fun _ hk => hk.2) (.int .i64 t387)) (fun _ hk => hk.2) (.int .i64 t388)) (fun _ hk => hk.2) (.string t389)) (fun _ hk => hk.2) (.string t390)) (fun _ hk => ⟨hk.1.1, ⟨hk.1.2.1, ⟨hk.1.2.2.1, ⟨hk.1.2.2.2.1, hk.1.2.2.2.2⟩⟩⟩⟩)⟩
   have n3_ : Aside0 (Kd.R k45 45 ((((((((w53.setCell ⟨gb395, 0, none⟩ (.bool t383)).setCell ⟨gb395, 1, none⟩ (.bool t384)).setCell ⟨gb395, 2, none⟩ (.bool t385)).setCell ⟨gb395, 3, none⟩ (.bool t386)).setCell ⟨gb395, 4, none⟩ (.int .i64 t387)).setCell ⟨gb395, 5, none⟩ (.int .i64 t388)).setCell ⟨gb395, 6, none⟩ (.string t389)).setCell ⟨gb395, 7, none⟩ (.string t390)) w.heap.size (fun k_ => some k_ ≠ (.slice Ao25 t339.length co25 : Value).ownBlock ∧ some k_ ≠ (v351 : Value).ownBlock ∧ some k_ ≠ (v360 : Value).ownBlock ∧ some k_ ≠ (v381 : Value).ownBlock ∧ some k_ ≠ (v392 : Value).ownBlock) v371 t370) := ⟨by (with_reducible repeat (first | apply Kd.R_alloc | apply Kd.R_drewN | apply Kd.R_drew)); exact Kd.R_mono (Kd.R_far (p := ⟨gb395, 7, none⟩) (Kd.R_far (p := ⟨gb395, 6, none⟩) (Kd.R_far (p := ⟨gb395, 5, none⟩) (Kd.R_far (p := ⟨gb395, 4, none⟩) (Kd.R_far (p := ⟨gb395, 3, none⟩) (Kd.R_far (p := ⟨gb395, 2, none⟩) (Kd.R_far (p := ⟨gb395, 1, none⟩) (Kd.R_far (p := ⟨gb395, 0, none⟩) (Kd.R_types HO372.out BK395.out (by decide)) (fun _ hk => hk.2) (.bool t383)) (fun _ hk => hk.2) (.bool t384)) (fun _ hk => hk.2) (.bool t385)) (fun _ hk => hk.2) (.bool t386)) (fun _ hk => hk.2) (.int .i64 t387)) (fun _ hk => hk.2) (.int .i64 t388)) (fun _ hk => hk.2) (.string t389)) (fun _ hk => hk.2) (.string t390)) (fun _ hk => ⟨hk.1.1, ⟨hk.1.2.1, ⟨hk.1.2.2.1, ⟨hk.1.2.2.2.1, hk.1.2.2.2.2⟩⟩⟩⟩)⟩
   have n4_ : Aside0 (Kd.R k45 45 ((((((((w53.setCell ⟨gb395, 0, none⟩ (.bool t383)).setCell ⟨gb395, 1, none⟩ (.bool t384)).setCell ⟨gb395, 2, none⟩ (.bool t385)).setCell ⟨gb395, 3, none⟩ (.bool t386)).setCell ⟨gb395, 4, none⟩ (.int .i64 t387)).setCell ⟨gb395, 5, none⟩ (.int .i64 t388)).setCell ⟨gb395, 6, none⟩ (.string t389)).setCell ⟨gb395, 7, none⟩ (.string t390)) w.heap.size (fun k_ => some k_ ≠ (.slice Ao25 t339.length co25 : Value).ownBlock ∧ some k_ ≠ (v351 : Value).ownBlock ∧ some k_ ≠ (v360 : Value).ownBlock ∧ some k_ ≠ (v371 : Value).ownBlock ∧ some k_ ≠ (v392 : Value).ownBlock) v381 t380) := ⟨by (with_reducible repeat (first | apply Kd.R_alloc | apply Kd.R_drewN | apply Kd.R_drew)); exact Kd.R_mono (Kd.R_far (p := ⟨gb395, 7, none⟩) (Kd.R_far (p := ⟨gb395, 6, none⟩) (Kd.R_far (p := ⟨gb395, 5, none⟩) (Kd.R_far (p := ⟨gb395, 4, none⟩) (Kd.R_far (p := ⟨gb395, 3, none⟩) (Kd.R_far (p := ⟨gb395, 2, none⟩) (Kd.R_far (p := ⟨gb395, 1, none⟩) (Kd.R_far (p := ⟨gb395, 0, none⟩) (Kd.R_types HO382.out BK395.out (by decide)) (fun _ hk => hk.2) (.bool t383)) (fun _ hk => hk.2) (.bool t384)) (fun _ hk => hk.2) (.bool t385)) (fun _ hk => hk.2) (.bool t386)) (fun _ hk => hk.2) (.int .i64 t387)) (fun _ hk => hk.2) (.int .i64 t388)) (fun _ hk => hk.2) (.string t389)) (fun _ hk => hk.2) (.string t390)) (fun _ hk => ⟨hk.1.1, ⟨hk.1.2.1, ⟨hk.1.2.2.1, ⟨hk.1.2.2.2.1, hk.1.2.2.2.2⟩⟩⟩⟩)⟩
   have n5_ : Aside0 (Kd.R k45 45 ((((((((w53.setCell ⟨gb395, 0, none⟩ (.bool t383)).setCell ⟨gb395, 1, none⟩ (.bool t384)).setCell ⟨gb395, 2, none⟩ (.bool t385)).setCell ⟨gb395, 3, none⟩ (.bool t386)).setCell ⟨gb395, 4, none⟩ (.int .i64 t387)).setCell ⟨gb395, 5, none⟩ (.int .i64 t388)).setCell ⟨gb395, 6, none⟩ (.string t389)).setCell ⟨gb395, 7, none⟩ (.string t390)) w.heap.size (fun k_ => some k_ ≠ (.slice Ao25 t339.length co25 : Value).ownBlock ∧ some k_ ≠ (v351 : Value).ownBlock ∧ some k_ ≠ (v360 : Value).ownBlock ∧ some k_ ≠ (v371 : Value).ownBlock ∧ some k_ ≠ (v381 : Value).ownBlock) v392 t391) := ⟨by (with_reducible repeat (first | apply Kd.R_alloc | apply Kd.R_drewN | apply Kd.R_drew)); exact Kd.R_mono (Kd.R_far (p := ⟨gb395, 7, none⟩) (Kd.R_far (p := ⟨gb395, 6, none⟩) (Kd.R_far (p := ⟨gb395, 5, none⟩) (Kd.R_far (p := ⟨gb395, 4, none⟩) (Kd.R_far (p := ⟨gb395, 3, none⟩) (Kd.R_far (p := ⟨gb395, 2, none⟩) (Kd.R_far (p := ⟨gb395, 1, none⟩) (Kd.R_far (p := ⟨gb395, 0, none⟩) (Kd.R_types HO393.out BK395.out (by decide)) (fun _ hk => hk.2) (.bool t383)) (fun _ hk => hk.2) (.bool t384)) (fun _ hk => hk.2) (.bool t385)) (fun _ hk => hk.2) (.bool t386)) (fun _ hk => hk.2) (.int .i64 t387)) (fun _ hk => hk.2) (.int .i64 t388)) (fun _ hk => hk.2) (.string t389)) (fun _ hk => hk.2) (.string t390)) (fun _ hk => ⟨hk.1.1, ⟨hk.1.2.1, ⟨hk.1.2.2.1, ⟨hk.1.2.2.2.1, hk.1.2.2.2.2⟩⟩⟩⟩)⟩
   have n6_ : Aside0 (((((((((w53.setCell ⟨gb395, 0, none⟩ (.bool t383)).setCell ⟨gb395, 1, none⟩ (.bool t384)).setCell ⟨gb395, 2, none⟩ (.bool t385)).setCell ⟨gb395, 3, none⟩ (.bool t386)).setCell ⟨gb395, 4, none⟩ (.int .i64 t387)).setCell ⟨gb395, 5, none⟩ (.int .i64 t388)).setCell ⟨gb395, 6, none⟩ (.string t389)).setCell ⟨gb395, 7, none⟩ (.string t390)).heap[gb354]? = some (.cells #[.bool t342, .bool t343, .bool t344, .bool t345, .int .i64 t346, .int .i64 t347, .string t348, .string t349] 23 (0, 0))) := ⟨by (with_reducible repeat (first | refine blk_drewN ?_ _ | refine blk_drew ?_ | refine blk_alloc ?_ _ | refine blk_far ?_ NB354_395.out _)); exact BK354.out⟩
   have n7_ : Aside0 (((((((((w53.setCell ⟨gb395, 0, none⟩ (.bool t383)).setCell ⟨gb395, 1, none⟩ (.bool t384)).setCell ⟨gb395, 2, none⟩ (.bool t385)).setCell ⟨gb395, 3, none⟩ (.bool t386)).setCell ⟨gb395, 4, none⟩ (.int .i64 t387)).setCell ⟨gb395, 5, none⟩ (.int .i64 t388)).setCell ⟨gb395, 6, none⟩ (.string t389)).setCell ⟨gb395, 7, none⟩ (.string t390)).heap[gb374]? = some (.cells #[.bool t362, .bool t363, .bool t364, .bool t365, .int .i64 t366, .int .i64 t367, .string t368, .string t369] 23 (0, 0))) := ⟨by (with_reducible repeat (first | refine blk_drewN ?_ _ | refine blk_drew ?_ | refine blk_alloc ?_ _ | refine blk_far ?_ NB374_395.out _)); exact BK374.out⟩
   have n8_ : Aside0 (((((((((w53.setCell ⟨gb395, 0, none⟩ (.bool t383)).setCell ⟨gb395, 1, none⟩ (.bool t384)).setCell ⟨gb395, 2, none⟩ (.bool t385)).setCell ⟨gb395, 3, none⟩ (.bool t386)).setCell ⟨gb395, 4, none⟩ (.int .i64 t387)).setCell ⟨gb395, 5, none⟩ (.int .i64 t388)).setCell ⟨gb395, 6, none⟩ (.string t389)).setCell ⟨gb395, 7, none⟩ (.string t390)).heap[gb395]? = some (.cells #[.bool t383, .bool t384, .bool t385, .bool t386, .int .i64 t387, .int .i64 t388, .string t389, .string t390] 23 (0, 0))) := ⟨by (with_reducible repeat (first | refine blk_drewN ?_ _ | refine blk_drew ?_ | refine blk_alloc ?_ _)); refine blk_put (cs := #[.bool t383, .bool t384, .bool t385, .bool t386, .int .i64 t387, .int .i64 t388, .string t389, .string (⟨#[]⟩ : ByteArray)]) ?_ 7 _ rfl; (with_reducible repeat (first | refine blk_drewN ?_ _ | refine blk_drew ?_ | refine blk_alloc ?_ _)); refine blk_put (cs := #[.bool t383, .bool t384, .bool t385, .bool t386, .int .i64 t387, .int .i64 t388, .string (⟨#[]⟩ : ByteArray), .string (⟨#[]⟩ : ByteArray)]) ?_ 6 _ rfl; (with_reducible repeat (first | refine blk_drewN ?_ _ | refine blk_drew ?_ | refine blk_alloc ?_ _)); refine blk_put (cs := #[.bool t383, .bool t384, .bool t385, .bool t386, .int .i64 t387, .int .i64 0, .string (⟨#[]⟩ : ByteArray), .string (⟨#[]⟩ : ByteArray)]) ?_ 5 _ rfl; (with_reducible repeat (first | refine blk_drewN ?_ _ | refine blk_drew ?_ | refine blk_alloc ?_ _)); refine blk_put (cs := #[.bool t383, .bool t384, .bool t385, .bool t386, .int .i64 0, .int .i64 0, .string (⟨#[]⟩ : ByteArray), .string (⟨#[]⟩ : ByteArray)]) ?_ 4 _ rfl; (with_reducible repeat (first | refine blk_drewN ?_ _ | refine blk_drew ?_ | refine blk_alloc ?_ _)); refine blk_put (cs := #[.bool t383, .bool t384, .bool t385, .bool false, .int .i64 0, .int .i64 0, .string (⟨#[]⟩ : ByteArray), .string (⟨#[]⟩ : ByteArray)]) ?_ 3 _ rfl; (with_reducible repeat (first | refine blk_drewN ?_ _ | refine blk_drew ?_ | refine blk_alloc ?_ _)); refine blk_put (cs := #[.bool t383, .bool t384, .bool false, .bool false, .int .i64 0, .int .i64 0, .string (⟨#[]⟩ : ByteArray), .string (⟨#[]⟩ : ByteArray)]) ?_ 2 _ rfl; (with_reducible repeat (first | refine blk_drewN ?_ _ | refine blk_drew ?_ | refine blk_alloc ?_ _)); refine blk_put (cs := #[.bool t383, .bool false, .bool false, .bool false, .int .i64 0, .int .i64 0, .string (⟨#[]⟩ : ByteArray), .string (⟨#[]⟩ : ByteArray)]) ?_ 1 _ rfl; (with_reducible repeat (first | refine blk_drewN ?_ _ | refine blk_drew ?_ | refine blk_alloc ?_ _)); refine blk_put (cs := #[.bool false, .bool false, .bool false, .bool false, .int .i64 0, .int .i64 0, .string (⟨#[]⟩ : ByteArray), .string (⟨#[]⟩ : ByteArray)]) ?_ 0 _ rfl; (with_reducible repeat (first | refine blk_drewN ?_ _ | refine blk_drew ?_ | refine blk_alloc ?_ _)); exact BK395.out⟩
   have n9_ : Aside0 (Below w.heap.size w ((((((((w53.setCell ⟨gb395, 0, none⟩ (.bool t383)).setCell ⟨gb395, 1, none⟩ (.bool t384)).setCell ⟨gb395, 2, none⟩ (.bool t385)).setCell ⟨gb395, 3, none⟩ (.bool t386)).setCell ⟨gb395, 4, none⟩ (.int .i64 t387)).setCell ⟨gb395, 5, none⟩ (.int .i64 t388)).setCell ⟨gb395, 6, none⟩ (.string t389)).setCell ⟨gb395, 7, none⟩ (.string t390))) := ⟨hb_ HB⟩
   (try clear HO341)
   (try clear HO352)
   (try clear HO361)
   (try clear HO372)
   (try clear HO382)
   (try clear HO393)
   (try clear BK354)
   (try clear BK374)
   (try clear BK395)
   (try clear HB)
   generalize ((((((((w53.setCell ⟨gb395, 0, none⟩ (.bool t383)).setCell ⟨gb395, 1, none⟩ (.bool t384)).setCell ⟨gb395, 2, none⟩ (.bool t385)).setCell ⟨gb395, 3, none⟩ (.bool t386)).setCell ⟨gb395, 4, none⟩ (.int .i64 t387)).setCell ⟨gb395, 5, none⟩ (.int .i64 t388)).setCell ⟨gb395, 6, none⟩ (.string t389)).setCell ⟨gb395, 7, none⟩ (.string t390)) = w72 at n0_ n1_ n2_ n3_ n4_ n5_ n6_ n7_ n8_ n9_ ⊢
   have HO341 := n0_
   have HO352 := n1_
   have HO361 := n2_
   have HO372 := n3_
   have HO382 := n4_
   have HO393 := n5_
   have BK354 := n6_
   have BK374 := n7_
   have BK395 := n8_
   have HB := n9_
   clear n0_ n1_ n2_ n3_ n4_ n5_ n6_ n7_ n8_ n9_
   have n0_ := Aside0.mk (Kd.R_drew HO341.out)
   have n1_ := Aside0.mk (Kd.R_drew HO352.out)
   have n2_ := Aside0.mk (Kd.R_drew HO361.out)
   have n3_ := Aside0.mk (Kd.R_drew HO372.out)
   have n4_ := Aside0.mk (Kd.R_drew HO382.out)
   have n5_ := Aside0.mk (Kd.R_drew HO393.out)
   have n6_ := Aside0.mk (blk_drew BK354.out)
   have n7_ := Aside0.mk (blk_drew BK374.out)
   have n8_ := Aside0.mk (blk_drew BK395.out)
   have n9_ := Aside0.mk (below_drew1 HB.out)
   clear HO341
   clear HO352
   clear HO361
   clear HO372
   clear HO382
   clear HO393
   clear BK354
   clear BK374
   clear BK395
   clear HB
   have HO341 := n0_
   have HO352 := n1_
   have HO361 := n2_
   have HO372 := n3_
   have HO382 := n4_
   have HO393 := n5_
   have BK354 := n6_
   have BK374 := n7_
   have BK395 := n8_
   have HB := n9_
   clear n0_ n1_ n2_ n3_ n4_ n5_ n6_ n7_ n8_ n9_
   refine start_ (n := 14) (S := fun w' => True) (ds := []) d4x0 (by kernel_rfl) rfl rfl trivial (fun hHeld => ?_); refine with_tabW headgatelaw21_KeysSteps.tab9 headgatelaw21_KeysSteps.bits9 (fun HT_ HW_ => ?_)
   generalize w72.drew = w73 at HO341 HO352 HO361 HO372 HO382 HO393 BK354 BK374 BK395 HB hHeld ⊢
   refine pon_ 0 (some 66) d4x5 HT_.out ?_
   refine pon_ 1 (some 67) d4x6 HT_.out ?_
   refine pon_ 2 (some 68) d4x7 HT_.out ?_
   refine pon_ 3 (some 69) d4x8 HT_.out ?_
   refine pon_ 4 (some 70) d4x10 HT_.out ?_
   refine pon_ 5 (some 71) d4x12 HT_.out ?_
   refine pon_ 6 (some 72) d4x14 HT_.out ?_
   refine pof_ 7 (some 73) d4x16 HT_.out ?_
   refine pof_ 8 (some 74) d4x19 HT_.out ?_
   refine pof_ 9 (some 75) d4x21 HT_.out ?_
   refine pof_ 10 (some 76) d4x22 HT_.out ?_
   refine pof_ 11 (some 77) d4x23 HT_.out ?_
   refine pof_ 12 (some 78) d4x24 HT_.out ?_
   refine pon_ 13 (some 79) d4x25 HT_.out ?_
   refine done_ (done_of HT_.out (by kernel_rfl)) ?_
   try go_wp2
   go_meet
   case rel => exact ⟨_, (true), (by first | rfl | (simp; done) | (simp [*]; done)), H', ⟨by first | omega | exact Nat.le_refl _⟩, ⟨by (with_reducible repeat (first | apply Kd.R_alloc | apply Kd.R_drewN | apply Kd.R_drew)); exact Kd.R_mono HO352.out (fun _ hk => ⟨hk.2.2.1, hk.2.2.2.2⟩)⟩, ⟨by (with_reducible repeat (first | apply Kd.R_alloc | apply Kd.R_drewN | apply Kd.R_drew)); exact Kd.R_mono HO372.out (fun _ hk => ⟨hk.2.1, hk.2.2.2.2⟩)⟩, ⟨by (with_reducible repeat (first | apply Kd.R_alloc | apply Kd.R_drewN | apply Kd.R_drew)); exact Kd.R_mono HO393.out (fun _ hk => ⟨hk.2.1, hk.2.2.2.1⟩)⟩, ⟨bk_ BK354⟩, ⟨bk_ BK374⟩, ⟨bk_ BK395⟩, ⟨hb_ HB⟩⟩
  rw [if_pos c63] at H
  have c63b0 : (t394 == 0) = true := beq_iff_eq.mpr c63
  have c63b1 : (t394 != 0) = false := bne_eq_false_iff_eq.mpr c63
  clear c63
  replace H := Option.bind_eq_some_iff.mp H
  obtain ⟨⟨t396, t397, t398, t399, t400, t401, t402, t403⟩, A640, H⟩ := H
  try dsimp only at H
  have A64 := Aside0.mk A640
  clear A640
  replace H := Option.bind_eq_some_iff.mp H
  obtain ⟨⟨t404, t405, t406, t407, t408, t409, t410, t411⟩, A650, H⟩ := H
  try dsimp only at H
  have A65 := Aside0.mk A650
  clear A650
  replace H := Option.bind_eq_some_iff.mp H
  obtain ⟨t412, A660, H⟩ := H
  try dsimp only at H
  have A66 := Aside0.mk A660
  clear A660
  have H' := Aside0.mk H
  clear H
  try go_wp2
  have n0_ : Aside0 (Kd.R k45 45 ((((((((w53.setCell ⟨gb395, 0, none⟩ (.bool t383)).setCell ⟨gb395, 1, none⟩ (.bool t384)).setCell ⟨gb395, 2, none⟩ (.bool t385)).setCell ⟨gb395, 3, none⟩ (.bool t386)).setCell ⟨gb395, 4, none⟩ (.int .i64 t387)).setCell ⟨gb395, 5, none⟩ (.int .i64 t388)).setCell ⟨gb395, 6, none⟩ (.string t389)).setCell ⟨gb395, 7, none⟩ (.string t390)) w.heap.size (fun k_ => some k_ ≠ (v351 : Value).ownBlock ∧ some k_ ≠ (v360 : Value).ownBlock ∧ some k_ ≠ (v371 : Value).ownBlock ∧ some k_ ≠ (v381 : Value).ownBlock ∧ some k_ ≠ (v392 : Value).ownBlock) (.slice Ao25 t339.length co25) t339) := ⟨by (with_reducible repeat (first | apply Kd.R_alloc | apply Kd.R_drewN | apply Kd.R_drew)); exact Kd.R_mono (Kd.R_far (p := ⟨gb395, 7, none⟩) (Kd.R_far (p := ⟨gb395, 6, none⟩) (Kd.R_far (p := ⟨gb395, 5, none⟩) (Kd.R_far (p := ⟨gb395, 4, none⟩) (Kd.R_far (p := ⟨gb395, 3, none⟩) (Kd.R_far (p := ⟨gb395, 2, none⟩) (Kd.R_far (p := ⟨gb395, 1, none⟩) (Kd.R_far (p := ⟨gb395, 0, none⟩) (Kd.R_types HO341.out BK395.out (by decide)) (fun _ hk => hk.2) (.bool t383)) (fun _ hk => hk.2) (.bool t384)) (fun _ hk => hk.2) (.bool t385)) (fun _ hk => hk.2) (.bool t386)) (fun _ hk => hk.2) (.int .i64 t387)) (fun _ hk => hk.2) (.int .i64 t388)) (fun _ hk => hk.2) (.string t389)) (fun _ hk => hk.2) (.string t390)) (fun _ hk => ⟨hk.1.1, ⟨hk.1.2.1, ⟨hk.1.2.2.1, ⟨hk.1.2.2.2.1, hk.1.2.2.2.2⟩⟩⟩⟩)⟩
  have n1_ : Aside0 (Kd.R k45 45 ((((((((w53.setCell ⟨gb395, 0, none⟩ (.bool t383)).setCell ⟨gb395, 1, none⟩ (.bool t384)).setCell ⟨gb395, 2, none⟩ (.bool t385)).setCell ⟨gb395, 3, none⟩ (.bool t386)).setCell ⟨gb395, 4, none⟩ (.int .i64 t387)).setCell ⟨gb395, 5, none⟩ (.int .i64 t388)).setCell ⟨gb395, 6, none⟩ (.string t389)).setCell ⟨gb395, 7, none⟩ (.string t390)) w.heap.size (fun k_ => some k_ ≠ (.slice Ao25 t339.length co25 : Value).ownBlock ∧ some k_ ≠ (v360 : Value).ownBlock ∧ some k_ ≠ (v371 : Value).ownBlock ∧ some k_ ≠ (v381 : Value).ownBlock ∧ some k_ ≠ (v392 : Value).ownBlock) v351 t350) := ⟨by (with_reducible repeat (first | apply Kd.R_alloc | apply Kd.R_drewN | apply Kd.R_drew)); exact Kd.R_mono (Kd.R_far (p := ⟨gb395, 7, none⟩) (Kd.R_far (p := ⟨gb395, 6, none⟩) (Kd.R_far (p := ⟨gb395, 5, none⟩) (Kd.R_far (p := ⟨gb395, 4, none⟩) (Kd.R_far (p := ⟨gb395, 3, none⟩) (Kd.R_far (p := ⟨gb395, 2, none⟩) (Kd.R_far (p := ⟨gb395, 1, none⟩) (Kd.R_far (p := ⟨gb395, 0, none⟩) (Kd.R_types HO352.out BK395.out (by decide)) (fun _ hk => hk.2) (.bool t383)) (fun _ hk => hk.2) (.bool t384)) (fun _ hk => hk.2) (.bool t385)) (fun _ hk => hk.2) (.bool t386)) (fun _ hk => hk.2) (.int .i64 t387)) (fun _ hk => hk.2) (.int .i64 t388)) (fun _ hk => hk.2) (.string t389)) (fun _ hk => hk.2) (.string t390)) (fun _ hk => ⟨hk.1.1, ⟨hk.1.2.1, ⟨hk.1.2.2.1, ⟨hk.1.2.2.2.1, hk.1.2.2.2.2⟩⟩⟩⟩)⟩
  have n2_ : Aside0 (Kd.R k45 45 ((((((((w53.setCell ⟨gb395, 0, none⟩ (.bool t383)).setCell ⟨gb395, 1, none⟩ (.bool t384)).setCell ⟨gb395, 2, none⟩ (.bool t385)).setCell ⟨gb395, 3, none⟩ (.bool t386)).setCell ⟨gb395, 4, none⟩ (.int .i64 t387)).setCell ⟨gb395, 5, none⟩ (.int .i64 t388)).setCell ⟨gb395, 6, none⟩ (.string t389)).setCell ⟨gb395, 7, none⟩ (.string t390)) w.heap.size (fun k_ => some k_ ≠ (.slice Ao25 t339.length co25 : Value).ownBlock ∧ some k_ ≠ (v351 : Value).ownBlock ∧ some k_ ≠ (v371 : Value).ownBlock ∧ some k_ ≠ (v381 : Value).ownBlock ∧ some k_ ≠ (v392 : Value).ownBlock) v360 t359) := ⟨by (with_reducible repeat (first | apply Kd.R_alloc | apply Kd.R_drewN | apply Kd.R_drew)); exact Kd.R_mono (Kd.R_far (p := ⟨gb395, 7, none⟩) (Kd.R_far (p := ⟨gb395, 6, none⟩) (Kd.R_far (p := ⟨gb395, 5, none⟩) (Kd.R_far (p := ⟨gb395, 4, none⟩) (Kd.R_far (p := ⟨gb395, 3, none⟩) (Kd.R_far (p := ⟨gb395, 2, none⟩) (Kd.R_far (p := ⟨gb395, 1, none⟩) (Kd.R_far (p := ⟨gb395, 0, none⟩) (Kd.R_types HO361.out BK395.out (by decide)) (fun _ hk => hk.2) (.bool t383)) (fun _ hk => hk.2) (.bool t384)) (fun _ hk => hk.2) (.bool t385)) (fun _ hk => hk.2) (.bool t386)) (fun _ hk => hk.2) (.int .i64 t387)) (fun _ hk => hk.2) (.int .i64 t388)) (fun _ hk => hk.2) (.string t389)) (fun _ hk => hk.2) (.string t390)) (fun _ hk => ⟨hk.1.1, ⟨hk.1.2.1, ⟨hk.1.2.2.1, ⟨hk.1.2.2.2.1, hk.1.2.2.2.2⟩⟩⟩⟩)⟩
  have n3_ : Aside0 (Kd.R k45 45 ((((((((w53.setCell ⟨gb395, 0, none⟩ (.bool t383)).setCell ⟨gb395, 1, none⟩ (.bool t384)).setCell ⟨gb395, 2, none⟩ (.bool t385)).setCell ⟨gb395, 3, none⟩ (.bool t386)).setCell ⟨gb395, 4, none⟩ (.int .i64 t387)).setCell ⟨gb395, 5, none⟩ (.int .i64 t388)).setCell ⟨gb395, 6, none⟩ (.string t389)).setCell ⟨gb395, 7, none⟩ (.string t390)) w.heap.size (fun k_ => some k_ ≠ (.slice Ao25 t339.length co25 : Value).ownBlock ∧ some k_ ≠ (v351 : Value).ownBlock ∧ some k_ ≠ (v360 : Value).ownBlock ∧ some k_ ≠ (v381 : Value).ownBlock ∧ some k_ ≠ (v392 : Value).ownBlock) v371 t370) := ⟨by (with_reducible repeat (first | apply Kd.R_alloc | apply Kd.R_drewN | apply Kd.R_drew)); exact Kd.R_mono (Kd.R_far (p := ⟨gb395, 7, none⟩) (Kd.R_far (p := ⟨gb395, 6, none⟩) (Kd.R_far (p := ⟨gb395, 5, none⟩) (Kd.R_far (p := ⟨gb395, 4, none⟩) (Kd.R_far (p := ⟨gb395, 3, none⟩) (Kd.R_far (p := ⟨gb395, 2, none⟩) (Kd.R_far (p := ⟨gb395, 1, none⟩) (Kd.R_far (p := ⟨gb395, 0, none⟩) (Kd.R_types HO372.out BK395.out (by decide)) (fun _ hk => hk.2) (.bool t383)) (fun _ hk => hk.2) (.bool t384)) (fun _ hk => hk.2) (.bool t385)) (fun _ hk => hk.2) (.bool t386)) (fun _ hk => hk.2) (.int .i64 t387)) (fun _ hk => hk.2) (.int .i64 t388)) (fun _ hk => hk.2) (.string t389)) (fun _ hk => hk.2) (.string t390)) (fun _ hk => ⟨hk.1.1, ⟨hk.1.2.1, ⟨hk.1.2.2.1, ⟨hk.1.2.2.2.1, hk.1.2.2.2.2⟩⟩⟩⟩)⟩
  have n4_ : Aside0 (Kd.R k45 45 ((((((((w53.setCell ⟨gb395, 0, none⟩ (.bool t383)).setCell ⟨gb395, 1, none⟩ (.bool t384)).setCell ⟨gb395, 2, none⟩ (.bool t385)).setCell ⟨gb395, 3, none⟩ (.bool t386)).setCell ⟨gb395, 4, none⟩ (.int .i64 t387)).setCell ⟨gb395, 5, none⟩ (.int .i64 t388)).setCell ⟨gb395, 6, none⟩ (.string t389)).setCell ⟨gb395, 7, none⟩ (.string t390)) w.heap.size (fun k_ => some k_ ≠ (.slice Ao25 t339.length co25 : Value).ownBlock ∧ some k_ ≠ (v351 : Value).ownBlock ∧ some k_ ≠ (v360 : Value).ownBlock ∧ some k_ ≠ (v371 : Value).ownBlock ∧ some k_ ≠ (v392 : Value).ownBlock) v381 t380) := ⟨by (with_reducible repeat (first | apply Kd.R_alloc | apply Kd.R_drewN | apply Kd.R_drew)); exact Kd.R_mono (Kd.R_far (p := ⟨gb395, 7, none⟩) (Kd.R_far (p := ⟨gb395, 6, none⟩) (Kd.R_far (p := ⟨gb395, 5, none⟩) (Kd.R_far (p := ⟨gb395, 4, none⟩) (Kd.R_far (p := ⟨gb395, 3, none⟩) (Kd.R_far (p := ⟨gb395, 2, none⟩) (Kd.R_far (p := ⟨gb395, 1, none⟩) (Kd.R_far (p := ⟨gb395, 0, none⟩) (Kd.R_types HO382.out BK395.out (by decide)) (fun _ hk => hk.2) (.bool t383)) (fun _ hk => hk.2) (.bool t384)) (fun _ hk => hk.2) (.bool t385)) (fun _ hk => hk.2) (.bool t386)) (fun _ hk => hk.2) (.int .i64 t387)) (fun _ hk => hk.2) (.int .i64 t388)) (fun _ hk => hk.2) (.string t389)) (fun _ hk => hk.2) (.string t390)) (fun _ hk => ⟨hk.1.1, ⟨hk.1.2.1, ⟨hk.1.2.2.1, ⟨hk.1.2.2.2.1, hk.1.2.2.2.2⟩⟩⟩⟩)⟩
  have n5_ : Aside0 (Kd.R k45 45 ((((((((w53.setCell ⟨gb395, 0, none⟩ (.bool t383)).setCell ⟨gb395, 1, none⟩ (.bool t384)).setCell ⟨gb395, 2, none⟩ (.bool t385)).setCell ⟨gb395, 3, none⟩ (.bool t386)).setCell ⟨gb395, 4, none⟩ (.int .i64 t387)).setCell ⟨gb395, 5, none⟩ (.int .i64 t388)).setCell ⟨gb395, 6, none⟩ (.string t389)).setCell ⟨gb395, 7, none⟩ (.string t390)) w.heap.size (fun k_ => some k_ ≠ (.slice Ao25 t339.length co25 : Value).ownBlock ∧ some k_ ≠ (v351 : Value).ownBlock ∧ some k_ ≠ (v360 : Value).ownBlock ∧ some k_ ≠ (v371 : Value).ownBlock ∧ some k_ ≠ (v381 : Value).ownBlock) v392 t391) := ⟨by (with_reducible repeat (first | apply Kd.R_alloc | apply Kd.R_drewN | apply Kd.R_drew)); exact Kd.R_mono (Kd.R_far (p := ⟨gb395, 7, none⟩) (Kd.R_far (p := ⟨gb395, 6, none⟩) (Kd.R_far (p := ⟨gb395, 5, none⟩) (Kd.R_far (p := ⟨gb395, 4, none⟩) (Kd.R_far (p := ⟨gb395, 3, none⟩) (Kd.R_far (p := ⟨gb395, 2, none⟩) (Kd.R_far (p := ⟨gb395, 1, none⟩) (Kd.R_far (p := ⟨gb395, 0, none⟩) (Kd.R_types HO393.out BK395.out (by decide)) (fun _ hk => hk.2) (.bool t383)) (fun _ hk => hk.2) (.bool t384)) (fun _ hk => hk.2) (.bool t385)) (fun _ hk => hk.2) (.bool t386)) (fun _ hk => hk.2) (.int .i64 t387)) (fun _ hk => hk.2) (.int .i64 t388)) (fun _ hk => hk.2) (.string t389)) (fun _ hk => hk.2) (.string t390)) (fun _ hk => ⟨hk.1.1, ⟨hk.1.2.1, ⟨hk.1.2.2.1, ⟨hk.1.2.2.2.1, hk.1.2.2.2.2⟩⟩⟩⟩)⟩
  have n6_ : Aside0 (((((((((w53.setCell ⟨gb395, 0, none⟩ (.bool t383)).setCell ⟨gb395, 1, none⟩ (.bool t384)).setCell ⟨gb395, 2, none⟩ (.bool t385)).setCell ⟨gb395, 3, none⟩ (.bool t386)).setCell ⟨gb395, 4, none⟩ (.int .i64 t387)).setCell ⟨gb395, 5, none⟩ (.int .i64 t388)).setCell ⟨gb395, 6, none⟩ (.string t389)).setCell ⟨gb395, 7, none⟩ (.string t390)).heap[gb354]? = some (.cells #[.bool t342, .bool t343, .bool t344, .bool t345, .int .i64 t346, .int .i64 t347, .string t348, .string t349] 23 (0, 0))) := ⟨by (with_reducible repeat (first | refine blk_drewN ?_ _ | refine blk_drew ?_ | refine blk_alloc ?_ _ | refine blk_far ?_ NB354_395.out _)); exact BK354.out⟩
  have n7_ : Aside0 (((((((((w53.setCell ⟨gb395, 0, none⟩ (.bool t383)).setCell ⟨gb395, 1, none⟩ (.bool t384)).setCell ⟨gb395, 2, none⟩ (.bool t385)).setCell ⟨gb395, 3, none⟩ (.bool t386)).setCell ⟨gb395, 4, none⟩ (.int .i64 t387)).setCell ⟨gb395, 5, none⟩ (.int .i64 t388)).setCell ⟨gb395, 6, none⟩ (.string t389)).setCell ⟨gb395, 7, none⟩ (.string t390)).heap[gb374]? = some (.cells #[.bool t362, .bool t363, .bool t364, .bool t365, .int .i64 t366, .int .i64 t367, .string t368, .string t369] 23 (0, 0))) := ⟨by (with_reducible repeat (first | refine blk_drewN ?_ _ | refine blk_drew ?_ | refine blk_alloc ?_ _ | refine blk_far ?_ NB374_395.out _)); exact BK374.out⟩
  have n8_ : Aside0 (((((((((w53.setCell ⟨gb395, 0, none⟩ (.bool t383)).setCell ⟨gb395, 1, none⟩ (.bool t384)).setCell ⟨gb395, 2, none⟩ (.bool t385)).setCell ⟨gb395, 3, none⟩ (.bool t386)).setCell ⟨gb395, 4, none⟩ (.int .i64 t387)).setCell ⟨gb395, 5, none⟩ (.int .i64 t388)).setCell ⟨gb395, 6, none⟩ (.string t389)).setCell ⟨gb395, 7, none⟩ (.string t390)).heap[gb395]? = some (.cells #[.bool t383, .bool t384, .bool t385, .bool t386, .int .i64 t387, .int .i64 t388, .string t389, .string t390] 23 (0, 0))) := ⟨by (with_reducible repeat (first | refine blk_drewN ?_ _ | refine blk_drew ?_ | refine blk_alloc ?_ _)); refine blk_put (cs := #[.bool t383, .bool t384, .bool t385, .bool t386, .int .i64 t387, .int .i64 t388, .string t389, .string (⟨#[]⟩ : ByteArray)]) ?_ 7 _ rfl; (with_reducible repeat (first | refine blk_drewN ?_ _ | refine blk_drew ?_ | refine blk_alloc ?_ _)); refine blk_put (cs := #[.bool t383, .bool t384, .bool t385, .bool t386, .int .i64 t387, .int .i64 t388, .string (⟨#[]⟩ : ByteArray), .string (⟨#[]⟩ : ByteArray)]) ?_ 6 _ rfl; (with_reducible repeat (first | refine blk_drewN ?_ _ | refine blk_drew ?_ | refine blk_alloc ?_ _)); refine blk_put (cs := #[.bool t383, .bool t384, .bool t385, .bool t386, .int .i64 t387, .int .i64 0, .string (⟨#[]⟩ : ByteArray), .string (⟨#[]⟩ : ByteArray)]) ?_ 5 _ rfl; (with_reducible repeat (first | refine blk_drewN ?_ _ | refine blk_drew ?_ | refine blk_alloc ?_ _)); refine blk_put (cs := #[.bool t383, .bool t384, .bool t385, .bool t386, .int .i64 0, .int .i64 0, .string (⟨#[]⟩ : ByteArray), .string (⟨#[]⟩ : ByteArray)]) ?_ 4 _ rfl; (with_reducible repeat (first | refine blk_drewN ?_ _ | refine blk_drew ?_ | refine blk_alloc ?_ _)); refine blk_put (cs := #[.bool t383, .bool t384, .bool t385, .bool false, .int .i64 0, .int .i64 0, .string (⟨#[]⟩ : ByteArray), .string (⟨#[]⟩ : ByteArray)]) ?_ 3 _ rfl; (with_reducible repeat (first | refine blk_drewN ?_ _ | refine blk_drew ?_ | refine blk_alloc ?_ _)); refine blk_put (cs := #[.bool t383, .bool t384, .bool false, .bool false, .int .i64 0, .int .i64 0, .string (⟨#[]⟩ : ByteArray), .string (⟨#[]⟩ : ByteArray)]) ?_ 2 _ rfl; (with_reducible repeat (first | refine blk_drewN ?_ _ | refine blk_drew ?_ | refine blk_alloc ?_ _)); refine blk_put (cs := #[.bool t383, .bool false, .bool false, .bool false, .int .i64 0, .int .i64 0, .string (⟨#[]⟩ : ByteArray), .string (⟨#[]⟩ : ByteArray)]) ?_ 1 _ rfl; (with_reducible repeat (first | refine blk_drewN ?_ _ | refine blk_drew ?_ | refine blk_alloc ?_ _)); refine blk_put (cs := #[.bool false, .bool false, .bool false, .bool false, .int .i64 0, .int .i64 0, .string (⟨#[]⟩ : ByteArray), .string (⟨#[]⟩ : ByteArray)]) ?_ 0 _ rfl; (with_reducible repeat (first | refine blk_drewN ?_ _ | refine blk_drew ?_ | refine blk_alloc ?_ _)); exact BK395.out⟩
  have n9_ : Aside0 (Below w.heap.size w ((((((((w53.setCell ⟨gb395, 0, none⟩ (.bool t383)).setCell ⟨gb395, 1, none⟩ (.bool t384)).setCell ⟨gb395, 2, none⟩ (.bool t385)).setCell ⟨gb395, 3, none⟩ (.bool t386)).setCell ⟨gb395, 4, none⟩ (.int .i64 t387)).setCell ⟨gb395, 5, none⟩ (.int .i64 t388)).setCell ⟨gb395, 6, none⟩ (.string t389)).setCell ⟨gb395, 7, none⟩ (.string t390))) := ⟨hb_ HB⟩
  (try clear HO341)
  (try clear HO352)
  (try clear HO361)
  (try clear HO372)
  (try clear HO382)
  (try clear HO393)
  (try clear BK354)
  (try clear BK374)
  (try clear BK395)
  (try clear HB)
  generalize ((((((((w53.setCell ⟨gb395, 0, none⟩ (.bool t383)).setCell ⟨gb395, 1, none⟩ (.bool t384)).setCell ⟨gb395, 2, none⟩ (.bool t385)).setCell ⟨gb395, 3, none⟩ (.bool t386)).setCell ⟨gb395, 4, none⟩ (.int .i64 t387)).setCell ⟨gb395, 5, none⟩ (.int .i64 t388)).setCell ⟨gb395, 6, none⟩ (.string t389)).setCell ⟨gb395, 7, none⟩ (.string t390)) = w67 at n0_ n1_ n2_ n3_ n4_ n5_ n6_ n7_ n8_ n9_ ⊢
  have HO341 := n0_
  have HO352 := n1_
  have HO361 := n2_
  have HO372 := n3_
  have HO382 := n4_
  have HO393 := n5_
  have BK354 := n6_
  have BK374 := n7_
  have BK395 := n8_
  have HB := n9_
  clear n0_ n1_ n2_ n3_ n4_ n5_ n6_ n7_ n8_ n9_
  have n0_ := Aside0.mk (Kd.R_drew HO341.out)
  have n1_ := Aside0.mk (Kd.R_drew HO352.out)
  have n2_ := Aside0.mk (Kd.R_drew HO361.out)
  have n3_ := Aside0.mk (Kd.R_drew HO372.out)
  have n4_ := Aside0.mk (Kd.R_drew HO382.out)
  have n5_ := Aside0.mk (Kd.R_drew HO393.out)
  have n6_ := Aside0.mk (blk_drew BK354.out)
  have n7_ := Aside0.mk (blk_drew BK374.out)
  have n8_ := Aside0.mk (blk_drew BK395.out)
  have n9_ := Aside0.mk (below_drew1 HB.out)
  clear HO341
  clear HO352
  clear HO361
  clear HO372
  clear HO382
  clear HO393
  clear BK354
  clear BK374
  clear BK395
  clear HB
  have HO341 := n0_
  have HO352 := n1_
  have HO361 := n2_
  have HO372 := n3_
  have HO382 := n4_
  have HO393 := n5_
  have BK354 := n6_
  have BK374 := n7_
  have BK395 := n8_
  have HB := n9_
  clear n0_ n1_ n2_ n3_ n4_ n5_ n6_ n7_ n8_ n9_
  refine start_ (n := 14) (S := fun w' => w'.cell? ⟨gb354, 0, none⟩ = some (.bool t342) ∧ w'.cell? ⟨gb354, 1, none⟩ = some (.bool t343) ∧ w'.cell? ⟨gb354, 2, none⟩ = some (.bool t344) ∧ w'.cell? ⟨gb354, 3, none⟩ = some (.bool t345) ∧ w'.cell? ⟨gb354, 4, none⟩ = some (.int .i64 t346) ∧ w'.cell? ⟨gb354, 5, none⟩ = some (.int .i64 t347) ∧ w'.cell? ⟨gb354, 6, none⟩ = some (.string t348) ∧ w'.cell? ⟨gb354, 7, none⟩ = some (.string t349) ∧ w'.cell? ⟨gb395, 0, none⟩ = some (.bool t383) ∧ w'.cell? ⟨gb395, 1, none⟩ = some (.bool t384) ∧ w'.cell? ⟨gb395, 2, none⟩ = some (.bool t385) ∧ w'.cell? ⟨gb395, 3, none⟩ = some (.bool t386) ∧ w'.cell? ⟨gb395, 4, none⟩ = some (.int .i64 t387) ∧ w'.cell? ⟨gb395, 5, none⟩ = some (.int .i64 t388) ∧ w'.cell? ⟨gb395, 6, none⟩ = some (.string t389) ∧ w'.cell? ⟨gb395, 7, none⟩ = some (.string t390)) (ds := []) d4x0 (by kernel_rfl) rfl rfl ⟨(blk_cell BK354.out 0).trans rfl, (blk_cell BK354.out 1).trans rfl, (blk_cell BK354.out 2).trans rfl, (blk_cell BK354.out 3).trans rfl, (blk_cell BK354.out 4).trans rfl, (blk_cell BK354.out 5).trans rfl, (blk_cell BK354.out 6).trans rfl, (blk_cell BK354.out 7).trans rfl, (blk_cell BK395.out 0).trans rfl, (blk_cell BK395.out 1).trans rfl, (blk_cell BK395.out 2).trans rfl, (blk_cell BK395.out 3).trans rfl, (blk_cell BK395.out 4).trans rfl, (blk_cell BK395.out 5).trans rfl, (blk_cell BK395.out 6).trans rfl, (blk_cell BK395.out 7).trans rfl⟩ (fun hHeld => ?_); refine with_tabW headgatelaw21_KeysSteps.tab9 headgatelaw21_KeysSteps.bits9 (fun HT_ HW_ => ?_)
  generalize w67.drew = w68 at HO341 HO352 HO361 HO372 HO382 HO393 BK354 BK374 BK395 HB hHeld ⊢
  refine pon_ 0 (some 66) d4x5 HT_.out ?_
  refine pon_ 1 (some 67) d4x6 HT_.out ?_
  refine pon_ 2 (some 68) d4x7 HT_.out ?_
  refine pon_ 3 (some 69) d4x8 HT_.out ?_
  refine pon_ 4 (some 70) d4x10 HT_.out ?_
  refine pon_ 5 (some 71) d4x12 HT_.out ?_
  refine pon_ 6 (some 72) d4x14 HT_.out ?_
  refine ptk_ 7 (some 73) d4x16 HT_.out HW_.out hHeld ?_
  refine ptk_ 9 (some 75) d4x18 HT_.out HW_.out hHeld ?_
  refine one_ (i := 8) (N := some 74) d4x21 rfl rfl (one_of HT_.out (by kernel_rfl)) (by decide) (fun K hK => ?_)
  refine goes_ Tryd.func13 (by kernel_rfl) rfl #[.agg #[.bool t342, .bool t343, .bool t344, .bool t345, .int .i64 t346, .int .i64 t347, .string t348, .string t349]] (by rfl) rfl rfl (by (try simp only [List.map_toArray, List.map_cons, List.map_nil]); first | done | rfl | (simp only [List.length_drop, List.length_take]; rfl)) ?_
  with_reducible refine (headgatelaw21_Own.calls t342 t343 t344 t345 t346 t347 t348 t349 t396 t397 t398 t399 t400 t401 t402 t403 _ A64.out).mono ?_
  rintro e w69 ⟨rfl, hb⟩
  refine ⟨_, rfl, ?_⟩
  have n0_ := Aside0.mk (Kd.R_below (by (with_reducible repeat (first | apply Kd.R_alloc | apply Kd.R_drewN | apply Kd.R_drew)); exact HO341.out) hb)
  have n1_ := Aside0.mk (Kd.R_below (by (with_reducible repeat (first | apply Kd.R_alloc | apply Kd.R_drewN | apply Kd.R_drew)); exact HO352.out) hb)
  have n2_ := Aside0.mk (Kd.R_below (by (with_reducible repeat (first | apply Kd.R_alloc | apply Kd.R_drewN | apply Kd.R_drew)); exact HO361.out) hb)
  have n3_ := Aside0.mk (Kd.R_below (by (with_reducible repeat (first | apply Kd.R_alloc | apply Kd.R_drewN | apply Kd.R_drew)); exact HO372.out) hb)
  have n4_ := Aside0.mk (Kd.R_below (by (with_reducible repeat (first | apply Kd.R_alloc | apply Kd.R_drewN | apply Kd.R_drew)); exact HO382.out) hb)
  have n5_ := Aside0.mk (Kd.R_below (by (with_reducible repeat (first | apply Kd.R_alloc | apply Kd.R_drewN | apply Kd.R_drew)); exact HO393.out) hb)
  have n6_ := Aside0.mk (blk_below (bk_ BK354) hb)
  have n7_ := Aside0.mk (blk_below (bk_ BK374) hb)
  have n8_ := Aside0.mk (blk_below (bk_ BK395) hb)
  have n9_ := Aside0.mk (below_step (hb_ HB) hb)
  clear HO341
  clear HO352
  clear HO361
  clear HO372
  clear HO382
  clear HO393
  clear BK354
  clear BK374
  clear BK395
  clear HB
  have HO341 := n0_
  have HO352 := n1_
  have HO361 := n2_
  have HO372 := n3_
  have HO382 := n4_
  have HO393 := n5_
  have BK354 := n6_
  have BK374 := n7_
  have BK395 := n8_
  have HB := n9_
  clear n0_ n1_ n2_ n3_ n4_ n5_ n6_ n7_ n8_ n9_
  (try clear hb)
  (try clear hb2)
  (try clear hk)
  (try clear hi)
  refine hK.out _ _ ⟨(blk_cell BK354.out 0).trans rfl, (blk_cell BK354.out 1).trans rfl, (blk_cell BK354.out 2).trans rfl, (blk_cell BK354.out 3).trans rfl, (blk_cell BK354.out 4).trans rfl, (blk_cell BK354.out 5).trans rfl, (blk_cell BK354.out 6).trans rfl, (blk_cell BK354.out 7).trans rfl, (blk_cell BK395.out 0).trans rfl, (blk_cell BK395.out 1).trans rfl, (blk_cell BK395.out 2).trans rfl, (blk_cell BK395.out 3).trans rfl, (blk_cell BK395.out 4).trans rfl, (blk_cell BK395.out 5).trans rfl, (blk_cell BK395.out 6).trans rfl, (blk_cell BK395.out 7).trans rfl⟩ (fun hHeld => ?_)
  clear hK K
  refine norm_ (a' := ?_) ?_ ?_
  rotate_left
  ·show Act.put _ (some 74) _ = _
   simp only [Act.put, la_, lb_, lc_, i64_w, i32_w]
   rfl
  refine one_ (i := 10) (N := some 76) d4x22 rfl rfl (one_of HT_.out (by kernel_rfl)) (by decide) (fun K hK => ?_)
  refine goes_ Tryd.func13 (by kernel_rfl) rfl #[.agg #[.bool t383, .bool t384, .bool t385, .bool t386, .int .i64 t387, .int .i64 t388, .string t389, .string t390]] (by rfl) rfl rfl (by (try simp only [List.map_toArray, List.map_cons, List.map_nil]); first | done | rfl | (simp only [List.length_drop, List.length_take]; rfl)) ?_
  with_reducible refine (headgatelaw21_Own.calls t383 t384 t385 t386 t387 t388 t389 t390 t404 t405 t406 t407 t408 t409 t410 t411 _ A65.out).mono ?_
  rintro e w70 ⟨rfl, hb⟩
  refine ⟨_, rfl, ?_⟩
  have n0_ := Aside0.mk (Kd.R_below (by (with_reducible repeat (first | apply Kd.R_alloc | apply Kd.R_drewN | apply Kd.R_drew)); exact HO341.out) hb)
  have n1_ := Aside0.mk (Kd.R_below (by (with_reducible repeat (first | apply Kd.R_alloc | apply Kd.R_drewN | apply Kd.R_drew)); exact HO352.out) hb)
  have n2_ := Aside0.mk (Kd.R_below (by (with_reducible repeat (first | apply Kd.R_alloc | apply Kd.R_drewN | apply Kd.R_drew)); exact HO361.out) hb)
  have n3_ := Aside0.mk (Kd.R_below (by (with_reducible repeat (first | apply Kd.R_alloc | apply Kd.R_drewN | apply Kd.R_drew)); exact HO372.out) hb)
  have n4_ := Aside0.mk (Kd.R_below (by (with_reducible repeat (first | apply Kd.R_alloc | apply Kd.R_drewN | apply Kd.R_drew)); exact HO382.out) hb)
  have n5_ := Aside0.mk (Kd.R_below (by (with_reducible repeat (first | apply Kd.R_alloc | apply Kd.R_drewN | apply Kd.R_drew)); exact HO393.out) hb)
  have n6_ := Aside0.mk (blk_below (bk_ BK354) hb)
  have n7_ := Aside0.mk (blk_below (bk_ BK374) hb)
  have n8_ := Aside0.mk (blk_below (bk_ BK395) hb)
  have n9_ := Aside0.mk (below_step (hb_ HB) hb)
  clear HO341
  clear HO352
  clear HO361
  clear HO372
  clear HO382
  clear HO393
  clear BK354
  clear BK374
  clear BK395
  clear HB
  have HO341 := n0_
  have HO352 := n1_
  have HO361 := n2_
  have HO372 := n3_
  have HO382 := n4_
  have HO393 := n5_
  have BK354 := n6_
  have BK374 := n7_
  have BK395 := n8_
  have HB := n9_
  clear n0_ n1_ n2_ n3_ n4_ n5_ n6_ n7_ n8_ n9_
  (try clear hb)
  (try clear hb2)
  (try clear hk)
  (try clear hi)
  refine hK.out _ _ ⟨(blk_cell BK354.out 0).trans rfl, (blk_cell BK354.out 1).trans rfl, (blk_cell BK354.out 2).trans rfl, (blk_cell BK354.out 3).trans rfl, (blk_cell BK354.out 4).trans rfl, (blk_cell BK354.out 5).trans rfl, (blk_cell BK354.out 6).trans rfl, (blk_cell BK354.out 7).trans rfl, (blk_cell BK395.out 0).trans rfl, (blk_cell BK395.out 1).trans rfl, (blk_cell BK395.out 2).trans rfl, (blk_cell BK395.out 3).trans rfl, (blk_cell BK395.out 4).trans rfl, (blk_cell BK395.out 5).trans rfl, (blk_cell BK395.out 6).trans rfl, (blk_cell BK395.out 7).trans rfl⟩ (fun hHeld => ?_)
  clear hK K
  refine norm_ (a' := ?_) ?_ ?_
  rotate_left
  ·show Act.put _ (some 76) _ = _
   simp only [Act.put, la_, lb_, lc_, i64_w, i32_w]
   rfl
  refine one_ (i := 11) (N := some 77) d4x23 rfl rfl (one_of HT_.out (by kernel_rfl)) (by decide) (fun K hK => ?_)
  refine goes_ Tryd.func14 (by kernel_rfl) rfl #[.agg #[.bool t396, .bool t397, .bool t398, .bool t399, .int .i64 t400, .int .i64 t401, .string t402, .string t403], .agg #[.bool t404, .bool t405, .bool t406, .bool t407, .int .i64 t408, .int .i64 t409, .string t410, .string t411]] (by rfl) rfl rfl (by (try simp only [List.map_toArray, List.map_cons, List.map_nil]); first | done | rfl | (simp only [List.length_drop, List.length_take]; rfl)) ?_
  with_reducible refine (headgateref21_Same.calls t396 t397 t398 t399 t400 t401 t402 t403 t404 t405 t406 t407 t408 t409 t410 t411 t412 _ A66.out).mono ?_
  rintro e w71 ⟨rfl, hb⟩
  refine ⟨_, rfl, ?_⟩
  have n0_ := Aside0.mk (Kd.R_below (by (with_reducible repeat (first | apply Kd.R_alloc | apply Kd.R_drewN | apply Kd.R_drew)); exact HO341.out) hb)
  have n1_ := Aside0.mk (Kd.R_below (by (with_reducible repeat (first | apply Kd.R_alloc | apply Kd.R_drewN | apply Kd.R_drew)); exact HO352.out) hb)
  have n2_ := Aside0.mk (Kd.R_below (by (with_reducible repeat (first | apply Kd.R_alloc | apply Kd.R_drewN | apply Kd.R_drew)); exact HO361.out) hb)
  have n3_ := Aside0.mk (Kd.R_below (by (with_reducible repeat (first | apply Kd.R_alloc | apply Kd.R_drewN | apply Kd.R_drew)); exact HO372.out) hb)
  have n4_ := Aside0.mk (Kd.R_below (by (with_reducible repeat (first | apply Kd.R_alloc | apply Kd.R_drewN | apply Kd.R_drew)); exact HO382.out) hb)
  have n5_ := Aside0.mk (Kd.R_below (by (with_reducible repeat (first | apply Kd.R_alloc | apply Kd.R_drewN | apply Kd.R_drew)); exact HO393.out) hb)
  have n6_ := Aside0.mk (blk_below (bk_ BK354) hb)
  have n7_ := Aside0.mk (blk_below (bk_ BK374) hb)
  have n8_ := Aside0.mk (blk_below (bk_ BK395) hb)
  have n9_ := Aside0.mk (below_step (hb_ HB) hb)
  clear HO341
  clear HO352
  clear HO361
  clear HO372
  clear HO382
  clear HO393
  clear BK354
  clear BK374
  clear BK395
  clear HB
  have HO341 := n0_
  have HO352 := n1_
  have HO361 := n2_
  have HO372 := n3_
  have HO382 := n4_
  have HO393 := n5_
  have BK354 := n6_
  have BK374 := n7_
  have BK395 := n8_
  have HB := n9_
  clear n0_ n1_ n2_ n3_ n4_ n5_ n6_ n7_ n8_ n9_
  (try clear hb)
  (try clear hb2)
  (try clear hk)
  (try clear hi)
  refine hK.out _ _ ⟨(blk_cell BK354.out 0).trans rfl, (blk_cell BK354.out 1).trans rfl, (blk_cell BK354.out 2).trans rfl, (blk_cell BK354.out 3).trans rfl, (blk_cell BK354.out 4).trans rfl, (blk_cell BK354.out 5).trans rfl, (blk_cell BK354.out 6).trans rfl, (blk_cell BK354.out 7).trans rfl, (blk_cell BK395.out 0).trans rfl, (blk_cell BK395.out 1).trans rfl, (blk_cell BK395.out 2).trans rfl, (blk_cell BK395.out 3).trans rfl, (blk_cell BK395.out 4).trans rfl, (blk_cell BK395.out 5).trans rfl, (blk_cell BK395.out 6).trans rfl, (blk_cell BK395.out 7).trans rfl⟩ (fun hHeld => ?_)
  clear hK K
  refine norm_ (a' := ?_) ?_ ?_
  rotate_left
  ·show Act.put _ (some 77) _ = _
   simp only [Act.put, la_, lb_, lc_, i64_w, i32_w]
   rfl
  refine pon_ 12 (some 78) d4x24 HT_.out ?_
  refine pon_ 13 (some 79) d4x25 HT_.out ?_
  refine done_ (done_of HT_.out (by kernel_rfl)) ?_
  try go_wp2
  go_meet
  case rel => exact ⟨_, (!t412), (by first | rfl | (simp; done) | (simp [*]; done)), H', ⟨by first | omega | exact Nat.le_refl _⟩, ⟨by (with_reducible repeat (first | apply Kd.R_alloc | apply Kd.R_drewN | apply Kd.R_drew)); exact Kd.R_mono HO352.out (fun _ hk => ⟨hk.2.2.1, hk.2.2.2.2⟩)⟩, ⟨by (with_reducible repeat (first | apply Kd.R_alloc | apply Kd.R_drewN | apply Kd.R_drew)); exact Kd.R_mono HO372.out (fun _ hk => ⟨hk.2.1, hk.2.2.2.2⟩)⟩, ⟨by (with_reducible repeat (first | apply Kd.R_alloc | apply Kd.R_drewN | apply Kd.R_drew)); exact Kd.R_mono HO393.out (fun _ hk => ⟨hk.2.1, hk.2.2.2.1⟩)⟩, ⟨bk_ BK354⟩, ⟨bk_ BK374⟩, ⟨bk_ BK395⟩, ⟨hb_ HB⟩⟩
 case rest =>
  clear HC22
  try clear c1
  try clear p2
  try clear c6
  try clear c13
  try clear c14
  try clear c62
  try clear c62b0
  try clear c62b1
  try clear c63
  try clear c63b0
  try clear c63b1
  obtain ⟨kq, x79_21, rfl, HA, HJ21, HO_7, HO_10, HO_13, BK354, BK374, BK395, HB⟩ := hcut
  cases kq with
  | zero => exact absurd HA.out (by simp [headgatelaw21_KeysSteps.j0])
  | succ kj21 =>
   have H := HA.out
   clear HA
   simp only [headgatelaw21_KeysSteps.j0] at H
   by_cases c76 : x79_21 = true
   ·subst c76
    have H1 := H
    rw [if_pos rfl] at H1
    clear H
    have H := H1
    clear H1
    exact absurd ((Option.some.inj H).trans HT0.out) (by decide)
   replace c76 := Bool.eq_false_iff.mpr c76
   subst c76
   have H1 := H
   rw [if_neg (show ¬ (false = true) by decide)] at H1
   clear H
   have H := H1
   clear H1
   replace H := Option.bind_eq_some_iff.mp H
   obtain ⟨t413, A770, H⟩ := H
   try dsimp only at H
   have A77 := Aside0.mk A770
   clear A770
   refine neg_first (p := (t413.length + t391.length < 4398046511104)) (fun c78 => ?_) (fun c78 => ?_)
   ·rw [if_neg c78] at H
    exact absurd H (by simp)
   rw [if_pos c78] at H
   have LMc78 := Aside0.mk c78
   clear c78
   obtain ⟨y416, hy416⟩ : ∃ y_ : List (S45), y_ = (t413 ++ t391) := ⟨_, rfl⟩
   replace H : ((headgateref21_Pairs.f kj21 t350 y416).bind fun t419 => (if t419 = true then (if t346 ≥ 512 then (if t346 ≤ 8192 then (if t347 ≥ 512 then (if t347 ≤ 4096 then (if t345 = true then (some false) else ((headgatelaw21_wakes.f).bind fun t420 => (some t420))) else (some false)) else (some false)) else (some false)) else (some false)) else (some false))) = some r := by first | (rw [hy416]; with_reducible exact H) | (have H2_ := (Option.bind_some _ _).symm.trans H; rw [hy416]; with_reducible exact H2_) | (have H2_ := (Option.bind_some _ _).symm.trans H; with_reducible exact H2_) | with_reducible exact H | (rw [hy416]; exact H) | exact H
   have Ny416 := Aside0.mk hy416
   clear hy416
   replace H := Option.bind_eq_some_iff.mp H
   obtain ⟨t419, A790, H⟩ := H
   try dsimp only at H
   have A79 := Aside0.mk A790
   clear A790
   refine neg_first (p := (t419 = true)) (fun c80 => ?_) (fun c80 => ?_)
   ·replace c80 := Bool.eq_false_iff.mpr c80
    subst c80
    have H1 := H
    rw [if_neg (show ¬ (false = true) by decide)] at H1
    clear H
    have H := H1
    clear H1
    exact absurd ((Option.some.inj H).trans HT0.out) (by decide)
   subst c80
   have H1 := H
   rw [if_pos rfl] at H1
   clear H
   have H := H1
   clear H1
   refine neg_first (p := (t346 ≥ 512)) (fun c81 => ?_) (fun c81 => ?_)
   ·rw [if_neg c81] at H
    have c81b0 : decide (512 ≤ t346) = false := decide_eq_false c81
    clear c81
    exact absurd ((Option.some.inj H).trans HT0.out) (by decide)
   rw [if_pos c81] at H
   have c81b0 : decide (512 ≤ t346) = true := decide_eq_true c81
   clear c81
   refine neg_first (p := (t346 ≤ 8192)) (fun c82 => ?_) (fun c82 => ?_)
   ·rw [if_neg c82] at H
    have c82b0 : decide (t346 ≤ 8192) = false := decide_eq_false c82
    clear c82
    exact absurd ((Option.some.inj H).trans HT0.out) (by decide)
   rw [if_pos c82] at H
   have c82b0 : decide (t346 ≤ 8192) = true := decide_eq_true c82
   clear c82
   refine neg_first (p := (t347 ≥ 512)) (fun c83 => ?_) (fun c83 => ?_)
   ·rw [if_neg c83] at H
    have c83b0 : decide (512 ≤ t347) = false := decide_eq_false c83
    clear c83
    exact absurd ((Option.some.inj H).trans HT0.out) (by decide)
   rw [if_pos c83] at H
   have c83b0 : decide (512 ≤ t347) = true := decide_eq_true c83
   clear c83
   refine neg_first (p := (t347 ≤ 4096)) (fun c84 => ?_) (fun c84 => ?_)
   ·rw [if_neg c84] at H
    have c84b0 : decide (t347 ≤ 4096) = false := decide_eq_false c84
    clear c84
    exact absurd ((Option.some.inj H).trans HT0.out) (by decide)
   rw [if_pos c84] at H
   have c84b0 : decide (t347 ≤ 4096) = true := decide_eq_true c84
   clear c84
   by_cases c85 : t345 = true
   ·subst c85
    have H1 := H
    rw [if_pos rfl] at H1
    clear H
    have H := H1
    clear H1
    exact absurd ((Option.some.inj H).trans HT0.out) (by decide)
   replace c85 := Bool.eq_false_iff.mpr c85
   subst c85
   have H1 := H
   rw [if_neg (show ¬ (false = true) by decide)] at H1
   clear H
   have H := H1
   clear H1
   replace H := Option.bind_eq_some_iff.mp H
   obtain ⟨t420, A860, H⟩ := H
   try dsimp only at H
   have A86 := Aside0.mk A860
   clear A860
   obtain rfl := Option.some.inj H
   obtain ⟨Ao87, co87, eo87⟩ := Kd.R_slice HO_10.out
   subst eo87
   go_wp2_with (first | ((with_reducible refine gate_callee (f := 10) rfl ?_); refine goesL_ (some 82) rfl rfl Tryd.func10 (by kernel_rfl) rfl #[.slice Ao87 t370.length co87] rfl (by (try simp only [List.map_toArray, List.map_cons, List.map_nil]); first | done | rfl | (simp only [List.length_drop, List.length_take]; rfl)) ?_; (with_reducible refine (headgatelaw21_few.calls _ _ t370 t413 _ ?side1 ?side2 A77.out).mono ?_); (case side1 => repeat (first | exact (Kd.R_reads' HO_10.out).2.2 | (with_reducible refine Kd.C_alloc ?_ _) | (with_reducible refine Kd.C_drewN ?_ _) | (with_reducible refine Kd.C_drew ?_))); (case side2 => exact (Kd.R_reads' HO_10.out).2.1); rintro e w88 ⟨v414, rfl, ho0, hb⟩; refine ⟨_, rfl, ?_⟩; have n0_ := Aside0.mk (Kd.R_elder' (by (with_reducible repeat (first | apply Kd.R_alloc | apply Kd.R_drewN | apply Kd.R_drew)); exact HO_7.out) (Kd.R_base ho0) hb); have n1_ := Aside0.mk (Kd.R_elder' (by (with_reducible repeat (first | apply Kd.R_alloc | apply Kd.R_drewN | apply Kd.R_drew)); exact HO_10.out) (Kd.R_base ho0) hb); have n2_ := Aside0.mk (Kd.R_elder' (by (with_reducible repeat (first | apply Kd.R_alloc | apply Kd.R_drewN | apply Kd.R_drew)); exact HO_13.out) (Kd.R_base ho0) hb); have n3_ := Aside0.mk (Kd.R_lower (Kd.R_new' (Kd.R_new' (Kd.R_new' ho0 (Kd.R_lt (by (with_reducible repeat (first | apply Kd.R_alloc | apply Kd.R_drewN | apply Kd.R_drew)); exact HO_7.out))) (Kd.R_lt (by (with_reducible repeat (first | apply Kd.R_alloc | apply Kd.R_drewN | apply Kd.R_drew)); exact HO_10.out))) (Kd.R_lt (by (with_reducible repeat (first | apply Kd.R_alloc | apply Kd.R_drewN | apply Kd.R_drew)); exact HO_13.out))) (below_size (hb_ HB))); have n4_ := Aside0.mk (blk_below (bk_ BK354) hb); have n5_ := Aside0.mk (blk_below (bk_ BK374) hb); have n6_ := Aside0.mk (blk_below (bk_ BK395) hb); have n7_ := Aside0.mk (below_step (hb_ HB) hb); clear HO_7; clear HO_10; clear HO_13; clear BK354; clear BK374; clear BK395; clear HB; have HO_7 := n0_; have HO_10 := n1_; have HO_13 := n2_; have HO415 := n3_; have BK354 := n4_; have BK374 := n5_; have BK395 := n6_; have HB := n7_; clear n0_ n1_ n2_ n3_ n4_ n5_ n6_ n7_; (try clear hb); (try clear hb2); (try clear hk); (try clear hi); (try clear ho0); obtain ⟨Ao90, co90, eo90⟩ := Kd.R_slice HO_13.out; subst eo90) | ((with_reducible refine gate_builtin (b := .append) (xs := #[.tmp 82, .tmp 83]) rfl ?_); (try (refine gate_guard (by rfl) ?_; dsimp only)); at_builtin; refine Kd.R_append_rows k45 (w0 := w) w.heap.size rfl (.tmp 82) (.tmp 83) 24 45 (.agg #[(.string ⟨#[]⟩), (.string ⟨#[]⟩)]) 32 rfl Tryd.underlying24 info45 rfl (by decide) (by omega) v414 t413 t391 _ _ _ (fun k_ => some k_ ≠ (v351 : Value).ownBlock ∧ some k_ ≠ (.slice Ao87 t370.length co87 : Value).ownBlock ∧ some k_ ≠ (.slice Ao90 t391.length co90 : Value).ownBlock) (fun _ => False) rfl rfl ?aO ?aR (fun _ _ h => h) (fun _ h => h.elim) ?aF ?aB ?aS ?aL ?_; (case aR => repeat (first | exact (Kd.R_reads' HO_13.out).2.2 | (with_reducible refine Kd.C_alloc ?_ _) | (with_reducible refine Kd.C_drewN ?_ _) | (with_reducible refine Kd.C_drew ?_))); (case aB => exact (hb_ HB)); (case aF => exact (fun k_ hk => ⟨Kd.fresh' (Kd.R_lt (by (with_reducible repeat (first | apply Kd.R_alloc | apply Kd.R_drewN | apply Kd.R_drew)); exact HO_7.out)) k_ hk, Kd.fresh' (Kd.R_lt (by (with_reducible repeat (first | apply Kd.R_alloc | apply Kd.R_drewN | apply Kd.R_drew)); exact HO_10.out)) k_ hk, Kd.fresh' (Kd.R_lt (by (with_reducible repeat (first | apply Kd.R_alloc | apply Kd.R_drewN | apply Kd.R_drew)); exact HO_13.out)) k_ hk⟩)); (case aO => exact (by (with_reducible repeat (first | apply Kd.R_alloc | apply Kd.R_drewN | apply Kd.R_drew)); exact Kd.R_mono HO415.out (fun _ hk => ⟨hk.1.1.2, ⟨hk.1.2, hk.2⟩⟩))); (case aS => exact (below_size (hb_ HB))); (case aL => have := LMc78.out; omega); intro v417 w89 ho hb hg hat; rw [← Ny416.out] at ho; have n0_ := Aside0.mk (Kd.R_after (ok := (fun k_ => some k_ ≠ (.slice Ao87 t370.length co87 : Value).ownBlock ∧ some k_ ≠ (.slice Ao90 t391.length co90 : Value).ownBlock)) (by (with_reducible repeat (first | apply Kd.R_alloc | apply Kd.R_drewN | apply Kd.R_drew)); exact HO_7.out) hg hat); have n1_ := Aside0.mk (Kd.R_after (ok := (fun k_ => some k_ ≠ (v351 : Value).ownBlock ∧ some k_ ≠ (.slice Ao90 t391.length co90 : Value).ownBlock)) (by (with_reducible repeat (first | apply Kd.R_alloc | apply Kd.R_drewN | apply Kd.R_drew)); exact HO_10.out) hg hat); have n2_ := Aside0.mk (Kd.R_after (ok := (fun k_ => some k_ ≠ (v351 : Value).ownBlock ∧ some k_ ≠ (.slice Ao87 t370.length co87 : Value).ownBlock)) (by (with_reducible repeat (first | apply Kd.R_alloc | apply Kd.R_drewN | apply Kd.R_drew)); exact HO_13.out) hg hat); have n3_ := Aside0.mk (blk_grown (g := gb354) (o := .cells #[.bool t342, .bool t343, .bool t344, .bool false, .int .i64 t346, .int .i64 t347, .string t348, .string t349] 23 (0, 0)) (bk_ BK354) hg (Kd.R_ne HO415.out BK354.out (by decide))); have n4_ := Aside0.mk (blk_grown (g := gb374) (o := .cells #[.bool t362, .bool t363, .bool t364, .bool t365, .int .i64 t366, .int .i64 t367, .string t368, .string t369] 23 (0, 0)) (bk_ BK374) hg (Kd.R_ne HO415.out BK374.out (by decide))); have n5_ := Aside0.mk (blk_grown (g := gb395) (o := .cells #[.bool t383, .bool t384, .bool t385, .bool t386, .int .i64 t387, .int .i64 t388, .string t389, .string t390] 23 (0, 0)) (bk_ BK395) hg (Kd.R_ne HO415.out BK395.out (by decide))); have n6_ := Aside0.mk (hb); have n7_ := Aside0.mk (ho); clear HO_7; clear HO_10; clear HO_13; clear BK354; clear BK374; clear BK395; clear HB; clear HO415; have HO_7 := n0_; have HO_10 := n1_; have HO_13 := n2_; have BK354 := n3_; have BK374 := n4_; have BK395 := n5_; have HB := n6_; have HO418 := n7_; clear n0_ n1_ n2_ n3_ n4_ n5_ n6_ n7_; clear ho hb hg hat; obtain ⟨Ao91, co91, eo91⟩ := Kd.R_slice HO_7.out; subst eo91; obtain ⟨Ao92, co92, eo92⟩ := Kd.R_slice HO418.out; subst eo92) | ((with_reducible refine gate_callee (f := 15) rfl ?_); refine goesL_ (some 85) rfl rfl Tryd.func15 (by kernel_rfl) rfl #[.slice Ao91 t350.length co91, .slice Ao92 y416.length co92] rfl (by (try simp only [List.map_toArray, List.map_cons, List.map_nil]); first | done | rfl | (simp only [List.length_drop, List.length_take]; rfl)) ?_; (with_reducible refine (headgateref21_Pairs.calls kj21 _ _ t350 _ _ y416 true _ ?side1 ?side2 ?side3 ?side4 A79.out).mono ?_); (case side1 => repeat (first | exact (Kd.R_reads' HO_7.out).2.2 | (with_reducible refine Kd.C_alloc ?_ _) | (with_reducible refine Kd.C_drewN ?_ _) | (with_reducible refine Kd.C_drew ?_))); (case side2 => exact (Kd.R_reads' HO_7.out).2.1); (case side3 => repeat (first | exact (Kd.R_reads' HO418.out).2.2 | (with_reducible refine Kd.C_alloc ?_ _) | (with_reducible refine Kd.C_drewN ?_ _) | (with_reducible refine Kd.C_drew ?_))); (case side4 => exact (Kd.R_reads' HO418.out).2.1); rintro e w' ⟨rfl, ⟨nd, rfl⟩⟩; refine ⟨_, rfl, ?_⟩; have hnb93 := NB354_374.out; have hnc93 := NB374_354.out; have hnb94 := NB354_395.out; have hnc94 := NB395_354.out; have hcz95_0 : w89.cell? ⟨gb354, 0, none⟩ = some (.bool t342) := (blk_cell BK354.out 0).trans rfl; have hcz95_1 : w89.cell? ⟨gb354, 1, none⟩ = some (.bool t343) := (blk_cell BK354.out 1).trans rfl; have hcz95_2 : w89.cell? ⟨gb354, 2, none⟩ = some (.bool t344) := (blk_cell BK354.out 2).trans rfl; have hcz95_3 : w89.cell? ⟨gb354, 3, none⟩ = some (.bool false) := (blk_cell BK354.out 3).trans rfl; have hcz95_4 : w89.cell? ⟨gb354, 4, none⟩ = some (.int .i64 t346) := (blk_cell BK354.out 4).trans rfl; have hcz95_5 : w89.cell? ⟨gb354, 5, none⟩ = some (.int .i64 t347) := (blk_cell BK354.out 5).trans rfl; have hcz95_6 : w89.cell? ⟨gb354, 6, none⟩ = some (.string t348) := (blk_cell BK354.out 6).trans rfl; have hcz95_7 : w89.cell? ⟨gb354, 7, none⟩ = some (.string t349) := (blk_cell BK354.out 7).trans rfl; have hfz95_0 := blk_frozen BK354.out 0; have hfz95_1 := blk_frozen BK354.out 1; have hfz95_2 := blk_frozen BK354.out 2; have hfz95_3 := blk_frozen BK354.out 3; have hfz95_4 := blk_frozen BK354.out 4; have hfz95_5 := blk_frozen BK354.out 5; have hfz95_6 := blk_frozen BK354.out 6; have hfz95_7 := blk_frozen BK354.out 7) | (go_at_call 9; (with_reducible refine (headgatelaw21_wakes.calls  t420 _ ?side1 A86.out).mono ?_); (case side1 => first | ((refine Glob.keep HG.out ?_); (repeat (first | (with_reducible first | exact HB.out | apply below_alloc | apply pw_below_drewN | apply below_drew1 | refine below_set ?_ GE354.out | refine below_set ?_ GE374.out | refine below_set ?_ GE395.out) | exact HB.out)); done) | exact HG.out); rintro e w96 ⟨rfl, hb⟩; have n0_ := Aside0.mk (Kd.R_below (by (with_reducible repeat (first | apply Kd.R_alloc | apply Kd.R_drewN | apply Kd.R_drew)); exact HO_7.out) hb); have n1_ := Aside0.mk (Kd.R_below (by (with_reducible repeat (first | apply Kd.R_alloc | apply Kd.R_drewN | apply Kd.R_drew)); exact HO_10.out) hb); have n2_ := Aside0.mk (Kd.R_below (by (with_reducible repeat (first | apply Kd.R_alloc | apply Kd.R_drewN | apply Kd.R_drew)); exact HO_13.out) hb); have n3_ := Aside0.mk (Kd.R_below (by (with_reducible repeat (first | apply Kd.R_alloc | apply Kd.R_drewN | apply Kd.R_drew)); exact HO418.out) hb); have n4_ := Aside0.mk (blk_below (bk_ BK354) hb); have n5_ := Aside0.mk (blk_below (bk_ BK374) hb); have n6_ := Aside0.mk (blk_below (bk_ BK395) hb); have n7_ := Aside0.mk (below_step (hb_ HB) hb); clear HO_7; clear HO_10; clear HO_13; clear HO418; clear BK354; clear BK374; clear BK395; clear HB; have HO_7 := n0_; have HO_10 := n1_; have HO_13 := n2_; have HO418 := n3_; have BK354 := n4_; have BK374 := n5_; have BK395 := n6_; have HB := n7_; clear n0_ n1_ n2_ n3_ n4_ n5_ n6_ n7_; (try clear hb); (try clear hb2); (try clear hk); (try clear hi)))
   go_ret
   exact ⟨by first | rfl | (simp [errW_none, errW_some] <;> rfl) | (simp only [← hji12]; first | rfl | (simp [errW_none, errW_some] <;> rfl)) | (simp [*, errW_none, errW_some] <;> rfl) | (simp [bt, *]; done) | (unfold bt; simp [*]; done), by repeat (first | (with_reducible first | exact HB.out | apply below_alloc | apply pw_below_drewN | apply below_drew1 | refine below_set ?_ GE354.out | refine below_set ?_ GE374.out | refine below_set ?_ GE395.out) | exact HB.out)⟩
end Go.Proofs.YtclcnkmefldpiaaDoor.P
