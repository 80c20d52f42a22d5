import Derived.Test.YthglbmihbmneaaaGreatDoorBa8
namespace Go.Proofs.YthglbmihbmneaaaGreatDoor.P
open Go.RowKit Go.Proofs.YthglbmihbmneaaaGreatDoorW.PrintWords Go.Proofs.YthglbmihbmneaaaGreatDoorW.PrintLast Go.Proofs.YthglbmihbmneaaaGreatDoorW.PrintMore
attribute [local go_sem] max2_int min2_int max_two min_two max_three min_three max_four min_four   -- for this text's walks alone
set_option linter.unusedVariables false
set_option linter.unusedSimpArgs false
set_option linter.unnecessarySimpa false

/-! ### headgatelaw22_LoginThrough: function 4 -/
def headgatelaw22_LoginThrough.j0 : Nat → ByteArray → Bool → Bool → Int → Bool → Bool → Bool → Bool → Bool → Int → Int → ByteArray → ByteArray → Int → Int → Int → Bool → Bool → Bool → Bool → Bool → Int → Int → ByteArray → ByteArray → Int → Int → ByteArray → ByteArray → Option (Bool)
 | 0, _, _, _, _, _, _, _, _, _, _, _, _, _, _, _, _, _, _, _, _, _, _, _, _, _, _, _, _, _ => none
 | k + 1, x1, x9, x35, x262000, x262001, x262002, x262003, x262004, x262005, x262006, x262007, x262008, x262009, x262010, x262011, x281000, x281001, x281002, x281003, x281004, x281005, x281006, x281007, x281008, x281009, x281010, x281011, x282000, x282001 => if x35 = true then (some false) else (if x9 = true then (if x281000 = 3 then (if x262008.toList = ([] : List UInt8) then ((headgateref03_Iqn.f k x281008).bind fun t309 => (if t309 = true then (if x281009.toList = x1.toList then (if x281001 = true then (if 36 < (x282000.size : Int) then (if (bt x282000 36) = 0 then (if 37 < (x282000.size : Int) then (if (bt x282000 37) = 0 then ((headgatelaw22_wakes.f k).bind fun t310 => (some t310)) else (some false)) else (none)) else (some false)) else (none)) else (some false)) else (some false)) else (some false))) else (if x281009.toList = x1.toList then (if x281001 = true then (if 36 < (x282000.size : Int) then (if (bt x282000 36) = 0 then (if 37 < (x282000.size : Int) then (if (bt x282000 37) = 0 then ((headgatelaw22_wakes.f k).bind fun t311 => (some t311)) else (some false)) else (none)) else (some false)) else (none)) else (some false)) else (some false))) else (if x281001 = true then (if 36 < (x282000.size : Int) then (if (bt x282000 36) = 0 then (if 37 < (x282000.size : Int) then (if (bt x282000 37) = 0 then ((headgatelaw22_wakes.f k).bind fun t312 => (some t312)) else (some false)) else (none)) else (some false)) else (none)) else (some false))) else ((headgatelaw22_Own.f x281000 x281001 x281002 x281003 x281004 x281005 x281006 x281007 x281008 x281009 x281010 ((x281011 - 1) % 4294967296)).bind fun bt283 => ((headgatelaw22_Own.f x262000 x262001 x262002 x262003 x262004 x262005 x262006 x262007 x262008 x262009 x262010 x262011).bind fun bt295 => ((headgateref22_Same.f bt283.1 bt283.2.1 bt283.2.2.1 bt283.2.2.2.1 bt283.2.2.2.2.1 bt283.2.2.2.2.2.1 bt283.2.2.2.2.2.2.1 bt283.2.2.2.2.2.2.2.1 bt283.2.2.2.2.2.2.2.2.1 bt283.2.2.2.2.2.2.2.2.2.1 bt283.2.2.2.2.2.2.2.2.2.2.1 bt283.2.2.2.2.2.2.2.2.2.2.2 bt295.1 bt295.2.1 bt295.2.2.1 bt295.2.2.2.1 bt295.2.2.2.2.1 bt295.2.2.2.2.2.1 bt295.2.2.2.2.2.2.1 bt295.2.2.2.2.2.2.2.1 bt295.2.2.2.2.2.2.2.2.1 bt295.2.2.2.2.2.2.2.2.2.1 bt295.2.2.2.2.2.2.2.2.2.2.1 bt295.2.2.2.2.2.2.2.2.2.2.2).bind fun t307 => (if t307 = true then (if x282001.toList = ([] : List UInt8) then (if 1 < (x282000.size : Int) then (if (bt x282000 1) = 0 then (if 36 < (x282000.size : Int) then (if (bt x282000 36) = 2 then ((headgatelaw22_wakes.f k).bind fun t308 => (some t308)) else (some false)) else (none)) else (some false)) else (none)) else (some false)) else (some false))))))
def headgatelaw22_LoginThrough.f (k : Nat) (a0_0 : Int) (a0_1 : Bool) (a0_2 : Bool) (a0_3 : Bool) (a0_4 : Bool) (a0_5 : Bool) (a0_6 : Int) (a0_7 : Int) (a0_8 : ByteArray) (a0_9 : ByteArray) (a0_10 : Int) (a0_11 : Int) (a1 : ByteArray) (a2_0 : ByteArray) (a2_1 : ByteArray) : Option (Bool) := (headgatelaw22_large.f a0_0 a0_1 a0_2 a0_3 a0_4 a0_5 a0_6 a0_7 a0_8 a0_9 a0_10 a0_11 a1 a2_0 a2_1).bind fun t263 => (if t263 = true then ((headgatelaw22_wakes.f k).bind fun t264 => (some t264)) else ((login_Step.f k a0_0 a0_1 a0_2 a0_3 a0_4 a0_5 a0_6 a0_7 a0_8 a0_9 a0_10 a0_11 a1 a2_0 a2_1).bind fun bt265 => (if (bt265.2.2.2.2.2.2.2.2.2.2.2.2.1.size : Int) = 48 then (headgatelaw22_LoginThrough.j0 k a1 bt265.2.2.2.2.2.2.2.2.2.2.2.2.2.2 (bt265.2.2.2.2.2.2.2.2.2.2.2.1 != ((a0_11 + 1) % 4294967296)) a0_0 a0_1 a0_2 a0_3 a0_4 a0_5 a0_6 a0_7 a0_8 a0_9 a0_10 a0_11 bt265.1 bt265.2.1 bt265.2.2.1 bt265.2.2.2.1 bt265.2.2.2.2.1 bt265.2.2.2.2.2.1 bt265.2.2.2.2.2.2.1 bt265.2.2.2.2.2.2.2.1 bt265.2.2.2.2.2.2.2.2.1 bt265.2.2.2.2.2.2.2.2.2.1 bt265.2.2.2.2.2.2.2.2.2.2.1 bt265.2.2.2.2.2.2.2.2.2.2.2.1 bt265.2.2.2.2.2.2.2.2.2.2.2.2.1 bt265.2.2.2.2.2.2.2.2.2.2.2.2.2.1) else (headgatelaw22_LoginThrough.j0 k a1 bt265.2.2.2.2.2.2.2.2.2.2.2.2.2.2 true a0_0 a0_1 a0_2 a0_3 a0_4 a0_5 a0_6 a0_7 a0_8 a0_9 a0_10 a0_11 bt265.1 bt265.2.1 bt265.2.2.1 bt265.2.2.2.1 bt265.2.2.2.2.1 bt265.2.2.2.2.2.1 bt265.2.2.2.2.2.2.1 bt265.2.2.2.2.2.2.2.1 bt265.2.2.2.2.2.2.2.2.1 bt265.2.2.2.2.2.2.2.2.2.1 bt265.2.2.2.2.2.2.2.2.2.2.1 bt265.2.2.2.2.2.2.2.2.2.2.2.1 bt265.2.2.2.2.2.2.2.2.2.2.2.2.1 bt265.2.2.2.2.2.2.2.2.2.2.2.2.2.1))))
theorem headgatelaw22_LoginThrough.mono_l : ∀ k, (∀ y0 y1 y2 y3 y4 y5 y6 y7 y8 y9 y10 y11 y12 y13 y14 y15 y16 y17 y18 y19 y20 y21 y22 y23 y24 y25 y26 y27 y28, LeO (headgatelaw22_LoginThrough.j0 k y0 y1 y2 y3 y4 y5 y6 y7 y8 y9 y10 y11 y12 y13 y14 y15 y16 y17 y18 y19 y20 y21 y22 y23 y24 y25 y26 y27 y28) (headgatelaw22_LoginThrough.j0 (k + 1) y0 y1 y2 y3 y4 y5 y6 y7 y8 y9 y10 y11 y12 y13 y14 y15 y16 y17 y18 y19 y20 y21 y22 y23 y24 y25 y26 y27 y28))
 | 0 => fun _ _ _ _ _ _ _ _ _ _ _ _ _ _ _ _ _ _ _ _ _ _ _ _ _ _ _ _ _ r h => by simp [headgatelaw22_LoginThrough.j0] at h
 | k + 1 => by
  have ih0 := headgatelaw22_LoginThrough.mono_l k
  ·intro y0 y1 y2 y3 y4 y5 y6 y7 y8 y9 y10 y11 y12 y13 y14 y15 y16 y17 y18 y19 y20 y21 y22 y23 y24 y25 y26 y27 y28
   unfold headgatelaw22_LoginThrough.j0
   repeat' first
   | (with_reducible exact ih0 _ _ _ _ _ _ _ _ _ _ _ _ _ _ _ _ _ _ _ _ _ _ _ _ _ _ _ _ _)
   | (with_reducible exact headgatelaw22_wakes.mono _)
   | (with_reducible exact headgateref03_Iqn.mono _ _)
   | (with_reducible exact login_Step.mono _ _ _ _ _ _ _ _ _ _ _ _ _ _ _ _)
   | (with_reducible exact LeO.refl _)
   | (with_reducible exact LeO.none _)
   | (with_reducible refine LeO.ite ?_ ?_)
   | (with_reducible refine LeO.bind ?_ (fun _ => ?_))
   | exact ih0 _ _ _ _ _ _ _ _ _ _ _ _ _ _ _ _ _ _ _ _ _ _ _ _ _ _ _ _ _
   | exact headgatelaw22_wakes.mono _
   | exact headgateref03_Iqn.mono _ _
   | exact login_Step.mono _ _ _ _ _ _ _ _ _ _ _ _ _ _ _ _
   | exact LeO.none _
   | refine LeO.ite ?_ ?_
   | refine LeO.bind ?_ (fun _ => ?_)
theorem headgatelaw22_LoginThrough.mono : ∀ a0 a1 a2 a3 a4 a5 a6 a7 a8 a9 a10 a11 a12 a13 a14 k, LeO (headgatelaw22_LoginThrough.f k a0 a1 a2 a3 a4 a5 a6 a7 a8 a9 a10 a11 a12 a13 a14) (headgatelaw22_LoginThrough.f (k + 1) a0 a1 a2 a3 a4 a5 a6 a7 a8 a9 a10 a11 a12 a13 a14) := by
 intro a0 a1 a2 a3 a4 a5 a6 a7 a8 a9 a10 a11 a12 a13 a14 k
 have ih0 := headgatelaw22_LoginThrough.mono_l k
 unfold headgatelaw22_LoginThrough.f
 repeat' first
   | (with_reducible exact ih0 _ _ _ _ _ _ _ _ _ _ _ _ _ _ _ _ _ _ _ _ _ _ _ _ _ _ _ _ _)
   | (with_reducible exact headgatelaw22_wakes.mono _)
   | (with_reducible exact headgateref03_Iqn.mono _ _)
   | (with_reducible exact login_Step.mono _ _ _ _ _ _ _ _ _ _ _ _ _ _ _ _)
   | (with_reducible exact LeO.refl _)
   | (with_reducible exact LeO.none _)
   | (with_reducible refine LeO.ite ?_ ?_)
   | (with_reducible refine LeO.bind ?_ (fun _ => ?_))
   | exact ih0 _ _ _ _ _ _ _ _ _ _ _ _ _ _ _ _ _ _ _ _ _ _ _ _ _ _ _ _ _
   | exact headgatelaw22_wakes.mono _
   | exact headgateref03_Iqn.mono _ _
   | exact login_Step.mono _ _ _ _ _ _ _ _ _ _ _ _ _ _ _ _
   | exact LeO.none _
   | refine LeO.ite ?_ ?_
   | refine LeO.bind ?_ (fun _ => ?_)
def headgatelaw22_LoginThrough.T9 : Bool × List (List Nat × List Nat) := (true, [([], []), ([0], [0]), ([], []), ([2, 1], [2]), ([1, 3, 3], [1, 3]), ([4, 4], [4]), ([5], [5]), ([6, 5], [5, 6]), ([7, 5], [5, 7]), ([5, 8], [5, 8]), ([9, 5], [9]), ([10], [10]), ([11, 10], [10, 11]), ([12, 10], [10, 12]), ([13, 10], [10, 13]), ([10, 14], [10, 14]), ([15, 10], [15]), ([16], [16]), ([17, 16], [16, 17]), ([18, 16], [16, 18]), ([19, 16], [16, 19]), ([16, 20], [16, 20]), ([21, 16], [21]), ([22, 22], [22]), ([22, 23], [22, 23]), ([24, 23, 0, 1, 2, 3, 4, 5, 6, 7, 8, 9, 10, 11, 12, 13, 14, 15, 16, 17, 18, 19, 20, 21, 22, 23, 24], [24])])
def headgatelaw22_LoginThrough.B9 : List Nat := [0, 1, 0, 7, 15, 31, 63, 127, 255, 511, 1023, 2047, 4095, 8191, 16383, 32767, 65535, 131071, 262143, 524287, 1048575, 2097151, 4194303, 8388607, 16777215, 33554431]
theorem headgatelaw22_LoginThrough.tab9 : rtab .any (opsOf Tryz.f4 9) = headgatelaw22_LoginThrough.T9 := by kernel_rfl
theorem headgatelaw22_LoginThrough.bits9 : waitsOk headgatelaw22_LoginThrough.T9.2 headgatelaw22_LoginThrough.B9 = true := by kernel_rfl
abbrev d4x0 : Array Bool := #[false, false, false, false, false, false, false, false, false, false, false, false, false, false, false, false, false, false, false, false, false, false, false, false, false, false]
abbrev d4x1 : Array Bool := dB 26 1
abbrev d4x2 : Array Bool := dB 26 5
abbrev d4x3 : Array Bool := dB 26 7
abbrev d4x4 : Array Bool := dB 26 15
abbrev d4x5 : Array Bool := dB 26 31
abbrev d4x6 : Array Bool := dB 26 63
abbrev d4x7 : Array Bool := dB 26 127
abbrev d4x8 : Array Bool := dB 26 255
abbrev d4x9 : Array Bool := dB 26 511
abbrev d4x10 : Array Bool := dB 26 1023
abbrev d4x11 : Array Bool := dB 26 2047
abbrev d4x12 : Array Bool := dB 26 4095
abbrev d4x13 : Array Bool := dB 26 8191
abbrev d4x14 : Array Bool := dB 26 16383
abbrev d4x15 : Array Bool := dB 26 32767
abbrev d4x16 : Array Bool := dB 26 65535
abbrev d4x17 : Array Bool := dB 26 131071
abbrev d4x18 : Array Bool := dB 26 262143
abbrev d4x19 : Array Bool := dB 26 524287
abbrev d4x20 : Array Bool := dB 26 1048575
abbrev d4x21 : Array Bool := dB 26 2097151
abbrev d4x22 : Array Bool := dB 26 4194303
abbrev d4x23 : Array Bool := dB 26 8388607
abbrev d4x24 : Array Bool := dB 26 16777215
abbrev d4x25 : Array Bool := dB 26 33554431
abbrev d4x26 : Array Bool := dB 26 67108863
set_option maxHeartbeats 8000000 in
set_option maxRecDepth 100000 in
theorem headgatelaw22_LoginThrough.calls (k : Nat) (a0_0 : Int) (a0_1 : Bool) (a0_2 : Bool) (a0_3 : Bool) (a0_4 : Bool) (a0_5 : Bool) (a0_6 : Int) (a0_7 : Int) (a0_8 : ByteArray) (a0_9 : ByteArray) (a0_10 : Int) (a0_11 : Int) (a1 : ByteArray) (a2_0 : ByteArray) (a2_1 : ByteArray) (r : Bool) (w : World) (hG : Glob w) (hT : r = true) (h : headgatelaw22_LoginThrough.f k a0_0 a0_1 a0_2 a0_3 a0_4 a0_5 a0_6 a0_7 a0_8 a0_9 a0_10 a0_11 a1 a2_0 a2_1 = some r) :
  Calls Tryz.prog 4 #[.agg #[.int .i64 a0_0, .bool a0_1, .bool a0_2, .bool a0_3, .bool a0_4, .bool a0_5, .int .i64 a0_6, .int .i64 a0_7, .string a0_8, .string a0_9, .int .u32 a0_10, .int .u32 a0_11], .string a1, .agg #[.string a2_0, .string a2_1]] w fun e w' => e = .returned (.bool r) ∧ Below w.heap.size w w' := by
 have hu27 := Tryz.underlying27
 have hu35 := Tryz.underlying35
 have HT0 := Aside0.mk hT
 clear hT
 have HG := Aside0.mk hG
 clear hG
 have HB := Aside0.mk (Below.refl w.heap.size w)
 have H : ((headgatelaw22_large.f a0_0 a0_1 a0_2 a0_3 a0_4 a0_5 a0_6 a0_7 a0_8 a0_9 a0_10 a0_11 a1 a2_0 a2_1).bind fun t263 => (if t263 = true then ((headgatelaw22_wakes.f k).bind fun t264 => (some t264)) else ((login_Step.f k a0_0 a0_1 a0_2 a0_3 a0_4 a0_5 a0_6 a0_7 a0_8 a0_9 a0_10 a0_11 a1 a2_0 a2_1).bind fun bt265 => (if (bt265.2.2.2.2.2.2.2.2.2.2.2.2.1.size : Int) = 48 then (headgatelaw22_LoginThrough.j0 k a1 bt265.2.2.2.2.2.2.2.2.2.2.2.2.2.2 (bt265.2.2.2.2.2.2.2.2.2.2.2.1 != ((a0_11 + 1) % 4294967296)) a0_0 a0_1 a0_2 a0_3 a0_4 a0_5 a0_6 a0_7 a0_8 a0_9 a0_10 a0_11 bt265.1 bt265.2.1 bt265.2.2.1 bt265.2.2.2.1 bt265.2.2.2.2.1 bt265.2.2.2.2.2.1 bt265.2.2.2.2.2.2.1 bt265.2.2.2.2.2.2.2.1 bt265.2.2.2.2.2.2.2.2.1 bt265.2.2.2.2.2.2.2.2.2.1 bt265.2.2.2.2.2.2.2.2.2.2.1 bt265.2.2.2.2.2.2.2.2.2.2.2.1 bt265.2.2.2.2.2.2.2.2.2.2.2.2.1 bt265.2.2.2.2.2.2.2.2.2.2.2.2.2.1) else (headgatelaw22_LoginThrough.j0 k a1 bt265.2.2.2.2.2.2.2.2.2.2.2.2.2.2 true a0_0 a0_1 a0_2 a0_3 a0_4 a0_5 a0_6 a0_7 a0_8 a0_9 a0_10 a0_11 bt265.1 bt265.2.1 bt265.2.2.1 bt265.2.2.2.1 bt265.2.2.2.2.1 bt265.2.2.2.2.2.1 bt265.2.2.2.2.2.2.1 bt265.2.2.2.2.2.2.2.1 bt265.2.2.2.2.2.2.2.2.1 bt265.2.2.2.2.2.2.2.2.2.1 bt265.2.2.2.2.2.2.2.2.2.2.1 bt265.2.2.2.2.2.2.2.2.2.2.2.1 bt265.2.2.2.2.2.2.2.2.2.2.2.2.1 bt265.2.2.2.2.2.2.2.2.2.2.2.2.2.1))))) = some r := h
 clear h
 replace H := Option.bind_eq_some_iff.mp H
 obtain ⟨t263, A40, H⟩ := H
 try dsimp only at H
 have A4 := Aside0.mk A40
 clear A40
 by_cases c5 : t263 = true
 ·subst c5
  have H1 := H
  rw [if_pos rfl] at H1
  clear H
  have H := H1
  clear H1
  replace H := Option.bind_eq_some_iff.mp H
  obtain ⟨t264, A60, H⟩ := H
  try dsimp only at H
  have A6 := Aside0.mk A60
  clear A60
  obtain rfl := Option.some.inj H
  go_enter Tryz.func4, Tryz.ntmps4
  go_wp2_with (first | ((with_reducible refine gate_dst (N := 3) rfl ?_); refine box_event ?hg (N := 3) ?hd (cs := #[.int .i64 a0_0, .bool a0_1, .bool a0_2, .bool a0_3, .bool a0_4, .bool a0_5, .int .i64 a0_6, .int .i64 a0_7, .string a0_8, .string a0_9, .int .u32 a0_10, .int .u32 a0_11]) (t := 27) ?hr ?_; (case hd => rfl); (case hg => rfl); (case hr => first | (go_simp; done) | (go_simp; rfl)); intro gb261 hg w7 hbox hb; have n0_ := Aside0.mk (below_step (hb_ HB) hb); have n1_ := Aside0.mk (hbox); have n2_ := Aside0.mk ((by rw [hg]; exact (below_size (hb_ HB)) : w.heap.size ≤ gb261)); have n3_ := Aside0.mk ((by rw [hg]; exact (below_size (hb_ HB)) : w.heap.size ≤ gb261)); clear HB; have HB := n0_; have BK261 := n1_; have GW261 := n2_; have GE261 := n3_; clear n0_ n1_ n2_ n3_; clear hb hbox hg) | ((with_reducible refine gate_dst (N := 5) rfl ?_); refine box_event ?hg (N := 5) ?hd (cs := #[.string a2_0, .string a2_1]) (t := 35) ?hr ?_; (case hd => rfl); (case hg => rfl); (case hr => first | (go_simp; done) | (go_simp; rfl)); intro gb262 hg w8 hbox hb; have n0_ := Aside0.mk (blk_below (bk_ BK261) hb); have n1_ := Aside0.mk (below_step (hb_ HB) hb); have n2_ := Aside0.mk (hbox); have n3_ := Aside0.mk ((by rw [hg]; exact (below_size (hb_ HB)) : w.heap.size ≤ gb262)); have n4_ := Aside0.mk ((by rw [hg]; exact (below_size (hb_ HB)) : w.heap.size ≤ gb262)); have n5_ := Aside0.mk ((by rw [hg]; exact Nat.ne_of_lt (blk_lt (g := gb261) (o := .cells #[.int .i64 a0_0, .bool a0_1, .bool a0_2, .bool a0_3, .bool a0_4, .bool a0_5, .int .i64 a0_6, .int .i64 a0_7, .string a0_8, .string a0_9, .int .u32 a0_10, .int .u32 a0_11] 27 (0, 0)) (bk_ BK261)) : gb261 ≠ gb262)); have n6_ := Aside0.mk ((by rw [hg]; exact Nat.ne_of_gt (blk_lt (g := gb261) (o := .cells #[.int .i64 a0_0, .bool a0_1, .bool a0_2, .bool a0_3, .bool a0_4, .bool a0_5, .int .i64 a0_6, .int .i64 a0_7, .string a0_8, .string a0_9, .int .u32 a0_10, .int .u32 a0_11] 27 (0, 0)) (bk_ BK261)) : gb262 ≠ gb261)); clear BK261; clear HB; have BK261 := n0_; have HB := n1_; have BK262 := n2_; have GW262 := n3_; have GE262 := n4_; have NB261_262 := n5_; have NB262_261 := n6_; clear n0_ n1_ n2_ n3_ n4_ n5_ n6_; clear hb hbox hg; have hnb9 := NB261_262.out; have hnc9 := NB262_261.out; have hcz10_0 : w8.cell? ⟨gb261, 0, none⟩ = some (.int .i64 a0_0) := (blk_cell BK261.out 0).trans rfl; have hcz10_1 : w8.cell? ⟨gb261, 1, none⟩ = some (.bool a0_1) := (blk_cell BK261.out 1).trans rfl; have hcz10_2 : w8.cell? ⟨gb261, 2, none⟩ = some (.bool a0_2) := (blk_cell BK261.out 2).trans rfl; have hcz10_3 : w8.cell? ⟨gb261, 3, none⟩ = some (.bool a0_3) := (blk_cell BK261.out 3).trans rfl; have hcz10_4 : w8.cell? ⟨gb261, 4, none⟩ = some (.bool a0_4) := (blk_cell BK261.out 4).trans rfl; have hcz10_5 : w8.cell? ⟨gb261, 5, none⟩ = some (.bool a0_5) := (blk_cell BK261.out 5).trans rfl; have hcz10_6 : w8.cell? ⟨gb261, 6, none⟩ = some (.int .i64 a0_6) := (blk_cell BK261.out 6).trans rfl; have hcz10_7 : w8.cell? ⟨gb261, 7, none⟩ = some (.int .i64 a0_7) := (blk_cell BK261.out 7).trans rfl; have hcz10_8 : w8.cell? ⟨gb261, 8, none⟩ = some (.string a0_8) := (blk_cell BK261.out 8).trans rfl; have hcz10_9 : w8.cell? ⟨gb261, 9, none⟩ = some (.string a0_9) := (blk_cell BK261.out 9).trans rfl; have hcz10_10 : w8.cell? ⟨gb261, 10, none⟩ = some (.int .u32 a0_10) := (blk_cell BK261.out 10).trans rfl; have hcz10_11 : w8.cell? ⟨gb261, 11, none⟩ = some (.int .u32 a0_11) := (blk_cell BK261.out 11).trans rfl; have hfz10_0 := blk_frozen BK261.out 0; have hfz10_1 := blk_frozen BK261.out 1; have hfz10_2 := blk_frozen BK261.out 2; have hfz10_3 := blk_frozen BK261.out 3; have hfz10_4 := blk_frozen BK261.out 4; have hfz10_5 := blk_frozen BK261.out 5; have hfz10_6 := blk_frozen BK261.out 6; have hfz10_7 := blk_frozen BK261.out 7; have hfz10_8 := blk_frozen BK261.out 8; have hfz10_9 := blk_frozen BK261.out 9; have hfz10_10 := blk_frozen BK261.out 10; have hfz10_11 := blk_frozen BK261.out 11; have hcz11_0 : w8.cell? ⟨gb262, 0, none⟩ = some (.string a2_0) := (blk_cell BK262.out 0).trans rfl; have hcz11_1 : w8.cell? ⟨gb262, 1, none⟩ = some (.string a2_1) := (blk_cell BK262.out 1).trans rfl; have hfz11_0 := blk_frozen BK262.out 0; have hfz11_1 := blk_frozen BK262.out 1) | ((with_reducible refine gate_callee (f := 7) rfl ?_); refine goesL_ (some 14) rfl rfl Tryz.func7 (by kernel_rfl) rfl #[.agg #[.int .i64 a0_0, .bool a0_1, .bool a0_2, .bool a0_3, .bool a0_4, .bool a0_5, .int .i64 a0_6, .int .i64 a0_7, .string a0_8, .string a0_9, .int .u32 a0_10, .int .u32 a0_11], .string a1, .agg #[.string a2_0, .string a2_1]] rfl (by (try simp only [List.map_toArray, List.map_cons, List.map_nil]); first | done | rfl | (simp only [List.length_drop, List.length_take]; rfl)) ?_; (with_reducible refine (headgatelaw22_large.calls a0_0 a0_1 a0_2 a0_3 a0_4 a0_5 a0_6 a0_7 a0_8 a0_9 a0_10 a0_11 a1 a2_0 a2_1 true _ A4.out).mono ?_); rintro e w12 ⟨rfl, hb⟩; refine ⟨_, rfl, ?_⟩; have n0_ := Aside0.mk (blk_below (bk_ BK261) hb); have n1_ := Aside0.mk (blk_below (bk_ BK262) hb); have n2_ := Aside0.mk (below_step (hb_ HB) hb); clear BK261; clear BK262; clear HB; have BK261 := n0_; have BK262 := n1_; have HB := n2_; clear n0_ n1_ n2_; (try clear hb); (try clear hb2); (try clear hk); (try clear hi)) | ((with_reducible refine gate_callee (f := 8) rfl ?_); refine goesL_ (some 15) rfl rfl Tryz.func8 (by kernel_rfl) rfl #[] rfl (by (try simp only [List.map_toArray, List.map_cons, List.map_nil]); first | done | rfl | (simp only [List.length_drop, List.length_take]; rfl)) ?_; (with_reducible refine (headgatelaw22_wakes.calls k  t264 _ ?side1 A6.out).mono ?_); (case side1 => first | ((refine Glob.keep HG.out ?_); (repeat (first | (with_reducible first | exact HB.out | apply below_alloc | apply pw_below_drewN | apply below_drew1 | refine below_set ?_ GE261.out | refine below_set ?_ GE262.out) | exact HB.out)); done) | exact HG.out); rintro e w13 ⟨rfl, hb⟩; refine ⟨_, rfl, ?_⟩; have n0_ := Aside0.mk (blk_below (bk_ BK261) hb); have n1_ := Aside0.mk (blk_below (bk_ BK262) hb); have n2_ := Aside0.mk (below_step (hb_ HB) hb); clear BK261; clear BK262; clear HB; have BK261 := n0_; have BK262 := n1_; have HB := n2_; clear n0_ n1_ n2_; (try clear hb); (try clear hb2); (try clear hk); (try clear hi)))
  go_ret
  exact ⟨by first | rfl | (simp [errW_none, errW_some] <;> rfl) | (simp [*, errW_none, errW_some] <;> rfl) | (simp [bt, *]; done) | (unfold bt; simp [*]; done), by repeat (first | (with_reducible first | exact HB.out | apply below_alloc | apply pw_below_drewN | apply below_drew1 | refine below_set ?_ GE261.out | refine below_set ?_ GE262.out) | exact HB.out)⟩
 replace c5 := Bool.eq_false_iff.mpr c5
 subst c5
 have H1 := H
 rw [if_neg (show ¬ (false = true) by decide)] at H1
 clear H
 have H := H1
 clear H1
 replace H := Option.bind_eq_some_iff.mp H
 obtain ⟨⟨t265, t266, t267, t268, t269, t270, t271, t272, t273, t274, t275, t276, t277, t278, t279⟩, A140, H⟩ := H
 try dsimp only at H
 have A14 := Aside0.mk A140
 clear A140
 have HC15 := Aside0.mk H
 clear H
 go_enter Tryz.func4, Tryz.ntmps4
 go_upto_region 4 with (first | ((with_reducible refine gate_dst (N := 3) rfl ?_); refine box_event ?hg (N := 3) ?hd (cs := #[.int .i64 a0_0, .bool a0_1, .bool a0_2, .bool a0_3, .bool a0_4, .bool a0_5, .int .i64 a0_6, .int .i64 a0_7, .string a0_8, .string a0_9, .int .u32 a0_10, .int .u32 a0_11]) (t := 27) ?hr ?_; (case hd => rfl); (case hg => rfl); (case hr => first | (go_simp; done) | (go_simp; rfl)); intro gb261 hg w16 hbox hb; have n0_ := Aside0.mk (below_step (hb_ HB) hb); have n1_ := Aside0.mk (hbox); have n2_ := Aside0.mk ((by rw [hg]; exact (below_size (hb_ HB)) : w.heap.size ≤ gb261)); have n3_ := Aside0.mk ((by rw [hg]; exact (below_size (hb_ HB)) : w.heap.size ≤ gb261)); clear HB; have HB := n0_; have BK261 := n1_; have GW261 := n2_; have GE261 := n3_; clear n0_ n1_ n2_ n3_; clear hb hbox hg) | ((with_reducible refine gate_dst (N := 5) rfl ?_); refine box_event ?hg (N := 5) ?hd (cs := #[.string a2_0, .string a2_1]) (t := 35) ?hr ?_; (case hd => rfl); (case hg => rfl); (case hr => first | (go_simp; done) | (go_simp; rfl)); intro gb262 hg w17 hbox hb; have n0_ := Aside0.mk (blk_below (bk_ BK261) hb); have n1_ := Aside0.mk (below_step (hb_ HB) hb); have n2_ := Aside0.mk (hbox); have n3_ := Aside0.mk ((by rw [hg]; exact (below_size (hb_ HB)) : w.heap.size ≤ gb262)); have n4_ := Aside0.mk ((by rw [hg]; exact (below_size (hb_ HB)) : w.heap.size ≤ gb262)); have n5_ := Aside0.mk ((by rw [hg]; exact Nat.ne_of_lt (blk_lt (g := gb261) (o := .cells #[.int .i64 a0_0, .bool a0_1, .bool a0_2, .bool a0_3, .bool a0_4, .bool a0_5, .int .i64 a0_6, .int .i64 a0_7, .string a0_8, .string a0_9, .int .u32 a0_10, .int .u32 a0_11] 27 (0, 0)) (bk_ BK261)) : gb261 ≠ gb262)); have n6_ := Aside0.mk ((by rw [hg]; exact Nat.ne_of_gt (blk_lt (g := gb261) (o := .cells #[.int .i64 a0_0, .bool a0_1, .bool a0_2, .bool a0_3, .bool a0_4, .bool a0_5, .int .i64 a0_6, .int .i64 a0_7, .string a0_8, .string a0_9, .int .u32 a0_10, .int .u32 a0_11] 27 (0, 0)) (bk_ BK261)) : gb262 ≠ gb261)); clear BK261; clear HB; have BK261 := n0_; have HB := n1_; have BK262 := n2_; have GW262 := n3_; have GE262 := n4_; have NB261_262 := n5_; have NB262_261 := n6_; clear n0_ n1_ n2_ n3_ n4_ n5_ n6_; clear hb hbox hg; have hnb18 := NB261_262.out; have hnc18 := NB262_261.out; have hcz19_0 : w17.cell? ⟨gb261, 0, none⟩ = some (.int .i64 a0_0) := (blk_cell BK261.out 0).trans rfl; have hcz19_1 : w17.cell? ⟨gb261, 1, none⟩ = some (.bool a0_1) := (blk_cell BK261.out 1).trans rfl; have hcz19_2 : w17.cell? ⟨gb261, 2, none⟩ = some (.bool a0_2) := (blk_cell BK261.out 2).trans rfl; have hcz19_3 : w17.cell? ⟨gb261, 3, none⟩ = some (.bool a0_3) := (blk_cell BK261.out 3).trans rfl; have hcz19_4 : w17.cell? ⟨gb261, 4, none⟩ = some (.bool a0_4) := (blk_cell BK261.out 4).trans rfl; have hcz19_5 : w17.cell? ⟨gb261, 5, none⟩ = some (.bool a0_5) := (blk_cell BK261.out 5).trans rfl; have hcz19_6 : w17.cell? ⟨gb261, 6, none⟩ = some (.int .i64 a0_6) := (blk_cell BK261.out 6).trans rfl; have hcz19_7 : w17.cell? ⟨gb261, 7, none⟩ = some (.int .i64 a0_7) := (blk_cell BK261.out 7).trans rfl; have hcz19_8 : w17.cell? ⟨gb261, 8, none⟩ = some (.string a0_8) := (blk_cell BK261.out 8).trans rfl; have hcz19_9 : w17.cell? ⟨gb261, 9, none⟩ = some (.string a0_9) := (blk_cell BK261.out 9).trans rfl; have hcz19_10 : w17.cell? ⟨gb261, 10, none⟩ = some (.int .u32 a0_10) := (blk_cell BK261.out 10).trans rfl; have hcz19_11 : w17.cell? ⟨gb261, 11, none⟩ = some (.int .u32 a0_11) := (blk_cell BK261.out 11).trans rfl; have hfz19_0 := blk_frozen BK261.out 0; have hfz19_1 := blk_frozen BK261.out 1; have hfz19_2 := blk_frozen BK261.out 2; have hfz19_3 := blk_frozen BK261.out 3; have hfz19_4 := blk_frozen BK261.out 4; have hfz19_5 := blk_frozen BK261.out 5; have hfz19_6 := blk_frozen BK261.out 6; have hfz19_7 := blk_frozen BK261.out 7; have hfz19_8 := blk_frozen BK261.out 8; have hfz19_9 := blk_frozen BK261.out 9; have hfz19_10 := blk_frozen BK261.out 10; have hfz19_11 := blk_frozen BK261.out 11; have hcz20_0 : w17.cell? ⟨gb262, 0, none⟩ = some (.string a2_0) := (blk_cell BK262.out 0).trans rfl; have hcz20_1 : w17.cell? ⟨gb262, 1, none⟩ = some (.string a2_1) := (blk_cell BK262.out 1).trans rfl; have hfz20_0 := blk_frozen BK262.out 0; have hfz20_1 := blk_frozen BK262.out 1) | ((with_reducible refine gate_callee (f := 7) rfl ?_); refine goesL_ (some 14) rfl rfl Tryz.func7 (by kernel_rfl) rfl #[.agg #[.int .i64 a0_0, .bool a0_1, .bool a0_2, .bool a0_3, .bool a0_4, .bool a0_5, .int .i64 a0_6, .int .i64 a0_7, .string a0_8, .string a0_9, .int .u32 a0_10, .int .u32 a0_11], .string a1, .agg #[.string a2_0, .string a2_1]] rfl (by (try simp only [List.map_toArray, List.map_cons, List.map_nil]); first | done | rfl | (simp only [List.length_drop, List.length_take]; rfl)) ?_; (with_reducible refine (headgatelaw22_large.calls a0_0 a0_1 a0_2 a0_3 a0_4 a0_5 a0_6 a0_7 a0_8 a0_9 a0_10 a0_11 a1 a2_0 a2_1 false _ A4.out).mono ?_); rintro e w21 ⟨rfl, hb⟩; refine ⟨_, rfl, ?_⟩; have n0_ := Aside0.mk (blk_below (bk_ BK261) hb); have n1_ := Aside0.mk (blk_below (bk_ BK262) hb); have n2_ := Aside0.mk (below_step (hb_ HB) hb); clear BK261; clear BK262; clear HB; have BK261 := n0_; have BK262 := n1_; have HB := n2_; clear n0_ n1_ n2_; (try clear hb); (try clear hb2); (try clear hk); (try clear hi); have hcz22_0 : w21.cell? ⟨gb261, 0, none⟩ = some (.int .i64 a0_0) := (blk_cell BK261.out 0).trans rfl; have hcz22_1 : w21.cell? ⟨gb261, 1, none⟩ = some (.bool a0_1) := (blk_cell BK261.out 1).trans rfl; have hcz22_2 : w21.cell? ⟨gb261, 2, none⟩ = some (.bool a0_2) := (blk_cell BK261.out 2).trans rfl; have hcz22_3 : w21.cell? ⟨gb261, 3, none⟩ = some (.bool a0_3) := (blk_cell BK261.out 3).trans rfl; have hcz22_4 : w21.cell? ⟨gb261, 4, none⟩ = some (.bool a0_4) := (blk_cell BK261.out 4).trans rfl; have hcz22_5 : w21.cell? ⟨gb261, 5, none⟩ = some (.bool a0_5) := (blk_cell BK261.out 5).trans rfl; have hcz22_6 : w21.cell? ⟨gb261, 6, none⟩ = some (.int .i64 a0_6) := (blk_cell BK261.out 6).trans rfl; have hcz22_7 : w21.cell? ⟨gb261, 7, none⟩ = some (.int .i64 a0_7) := (blk_cell BK261.out 7).trans rfl; have hcz22_8 : w21.cell? ⟨gb261, 8, none⟩ = some (.string a0_8) := (blk_cell BK261.out 8).trans rfl; have hcz22_9 : w21.cell? ⟨gb261, 9, none⟩ = some (.string a0_9) := (blk_cell BK261.out 9).trans rfl; have hcz22_10 : w21.cell? ⟨gb261, 10, none⟩ = some (.int .u32 a0_10) := (blk_cell BK261.out 10).trans rfl; have hcz22_11 : w21.cell? ⟨gb261, 11, none⟩ = some (.int .u32 a0_11) := (blk_cell BK261.out 11).trans rfl; have hfz22_0 := blk_frozen BK261.out 0; have hfz22_1 := blk_frozen BK261.out 1; have hfz22_2 := blk_frozen BK261.out 2; have hfz22_3 := blk_frozen BK261.out 3; have hfz22_4 := blk_frozen BK261.out 4; have hfz22_5 := blk_frozen BK261.out 5; have hfz22_6 := blk_frozen BK261.out 6; have hfz22_7 := blk_frozen BK261.out 7; have hfz22_8 := blk_frozen BK261.out 8; have hfz22_9 := blk_frozen BK261.out 9; have hfz22_10 := blk_frozen BK261.out 10; have hfz22_11 := blk_frozen BK261.out 11; have hcz23_0 : w21.cell? ⟨gb262, 0, none⟩ = some (.string a2_0) := (blk_cell BK262.out 0).trans rfl; have hcz23_1 : w21.cell? ⟨gb262, 1, none⟩ = some (.string a2_1) := (blk_cell BK262.out 1).trans rfl; have hfz23_0 := blk_frozen BK262.out 0; have hfz23_1 := blk_frozen BK262.out 1) | ((with_reducible refine gate_callee (f := 9) rfl ?_); refine goesL_ (some 20) rfl rfl Tryz.func9 (by kernel_rfl) rfl #[.agg #[.int .i64 a0_0, .bool a0_1, .bool a0_2, .bool a0_3, .bool a0_4, .bool a0_5, .int .i64 a0_6, .int .i64 a0_7, .string a0_8, .string a0_9, .int .u32 a0_10, .int .u32 a0_11], .string a1, .agg #[.string a2_0, .string a2_1]] rfl (by (try simp only [List.map_toArray, List.map_cons, List.map_nil]); first | done | rfl | (simp only [List.length_drop, List.length_take]; rfl)) ?_; (with_reducible refine (login_Step.calls k a0_0 a0_1 a0_2 a0_3 a0_4 a0_5 a0_6 a0_7 a0_8 a0_9 a0_10 a0_11 a1 a2_0 a2_1 t265 t266 t267 t268 t269 t270 t271 t272 t273 t274 t275 t276 t277 t278 t279 _ ?side1 A14.out).mono ?_); (case side1 => first | ((refine Glob.keep HG.out ?_); (repeat (first | (with_reducible first | exact HB.out | apply below_alloc | apply pw_below_drewN | apply below_drew1 | refine below_set ?_ GE261.out | refine below_set ?_ GE262.out) | exact HB.out)); done) | exact HG.out); rintro e w24 ⟨rfl, hb⟩; refine ⟨_, rfl, ?_⟩; have n0_ := Aside0.mk (blk_below (bk_ BK261) hb); have n1_ := Aside0.mk (blk_below (bk_ BK262) hb); have n2_ := Aside0.mk (below_step (hb_ HB) hb); clear BK261; clear BK262; clear HB; have BK261 := n0_; have BK262 := n1_; have HB := n2_; clear n0_ n1_ n2_; (try clear hb); (try clear hb2); (try clear hk); (try clear hi)) | ((with_reducible refine gate_dst (N := 7) rfl ?_); refine box_event ?hg (N := 7) ?hd (cs := #[.int .i64 0, .bool false, .bool false, .bool false, .bool false, .bool false, .int .i64 0, .int .i64 0, .string (⟨#[]⟩ : ByteArray), .string (⟨#[]⟩ : ByteArray), .int .u32 0, .int .u32 0]) (t := 27) ?hr ?_; (case hd => rfl); (case hg => rfl); (case hr => first | (go_simp; done) | (go_simp; rfl)); intro gb280 hg w25 hbox hb; have n0_ := Aside0.mk (blk_below (bk_ BK261) hb); have n1_ := Aside0.mk (blk_below (bk_ BK262) hb); have n2_ := Aside0.mk (below_step (hb_ HB) hb); have n3_ := Aside0.mk (hbox); have n4_ := Aside0.mk ((by rw [hg]; exact (below_size (hb_ HB)) : w.heap.size ≤ gb280)); have n5_ := Aside0.mk ((by rw [hg]; exact (below_size (hb_ HB)) : w.heap.size ≤ gb280)); have n6_ := Aside0.mk ((by rw [hg]; exact Nat.ne_of_lt (blk_lt (g := gb261) (o := .cells #[.int .i64 a0_0, .bool a0_1, .bool a0_2, .bool a0_3, .bool a0_4, .bool a0_5, .int .i64 a0_6, .int .i64 a0_7, .string a0_8, .string a0_9, .int .u32 a0_10, .int .u32 a0_11] 27 (0, 0)) (bk_ BK261)) : gb261 ≠ gb280)); have n7_ := Aside0.mk ((by rw [hg]; exact Nat.ne_of_gt (blk_lt (g := gb261) (o := .cells #[.int .i64 a0_0, .bool a0_1, .bool a0_2, .bool a0_3, .bool a0_4, .bool a0_5, .int .i64 a0_6, .int .i64 a0_7, .string a0_8, .string a0_9, .int .u32 a0_10, .int .u32 a0_11] 27 (0, 0)) (bk_ BK261)) : gb280 ≠ gb261)); have n8_ := Aside0.mk ((by rw [hg]; exact Nat.ne_of_lt (blk_lt (g := gb262) (o := .cells #[.string a2_0, .string a2_1] 35 (0, 0)) (bk_ BK262)) : gb262 ≠ gb280)); have n9_ := Aside0.mk ((by rw [hg]; exact Nat.ne_of_gt (blk_lt (g := gb262) (o := .cells #[.string a2_0, .string a2_1] 35 (0, 0)) (bk_ BK262)) : gb280 ≠ gb262)); clear BK261; clear BK262; clear HB; have BK261 := n0_; have BK262 := n1_; have HB := n2_; have BK280 := n3_; have GW280 := n4_; have GE280 := n5_; have NB261_280 := n6_; have NB280_261 := n7_; have NB262_280 := n8_; have NB280_262 := n9_; clear n0_ n1_ n2_ n3_ n4_ n5_ n6_ n7_ n8_ n9_; clear hb hbox hg) | ((with_reducible refine gate_dst (N := 8) rfl ?_); refine box_event ?hg (N := 8) ?hd (cs := #[.string (⟨#[]⟩ : ByteArray), .string (⟨#[]⟩ : ByteArray)]) (t := 35) ?hr ?_; (case hd => rfl); (case hg => rfl); (case hr => first | (go_simp; done) | (go_simp; rfl)); intro gb281 hg w26 hbox hb; have n0_ := Aside0.mk (blk_below (bk_ BK261) hb); have n1_ := Aside0.mk (blk_below (bk_ BK262) hb); have n2_ := Aside0.mk (blk_below (bk_ BK280) hb); have n3_ := Aside0.mk (below_step (hb_ HB) hb); have n4_ := Aside0.mk (hbox); have n5_ := Aside0.mk ((by rw [hg]; exact (below_size (hb_ HB)) : w.heap.size ≤ gb281)); have n6_ := Aside0.mk ((by rw [hg]; exact (below_size (hb_ HB)) : w.heap.size ≤ gb281)); have n7_ := Aside0.mk ((by rw [hg]; exact Nat.ne_of_lt (blk_lt (g := gb261) (o := .cells #[.int .i64 a0_0, .bool a0_1, .bool a0_2, .bool a0_3, .bool a0_4, .bool a0_5, .int .i64 a0_6, .int .i64 a0_7, .string a0_8, .string a0_9, .int .u32 a0_10, .int .u32 a0_11] 27 (0, 0)) (bk_ BK261)) : gb261 ≠ gb281)); have n8_ := Aside0.mk ((by rw [hg]; exact Nat.ne_of_gt (blk_lt (g := gb261) (o := .cells #[.int .i64 a0_0, .bool a0_1, .bool a0_2, .bool a0_3, .bool a0_4, .bool a0_5, .int .i64 a0_6, .int .i64 a0_7, .string a0_8, .string a0_9, .int .u32 a0_10, .int .u32 a0_11] 27 (0, 0)) (bk_ BK261)) : gb281 ≠ gb261)); have n9_ := Aside0.mk ((by rw [hg]; exact Nat.ne_of_lt (blk_lt (g := gb262) (o := .cells #[.string a2_0, .string a2_1] 35 (0, 0)) (bk_ BK262)) : gb262 ≠ gb281)); have n10_ := Aside0.mk ((by rw [hg]; exact Nat.ne_of_gt (blk_lt (g := gb262) (o := .cells #[.string a2_0, .string a2_1] 35 (0, 0)) (bk_ BK262)) : gb281 ≠ gb262)); have n11_ := Aside0.mk ((by rw [hg]; exact Nat.ne_of_lt (blk_lt (g := gb280) (o := .cells #[.int .i64 0, .bool false, .bool false, .bool false, .bool false, .bool false, .int .i64 0, .int .i64 0, .string (⟨#[]⟩ : ByteArray), .string (⟨#[]⟩ : ByteArray), .int .u32 0, .int .u32 0] 27 (0, 0)) (bk_ BK280)) : gb280 ≠ gb281)); have n12_ := Aside0.mk ((by rw [hg]; exact Nat.ne_of_gt (blk_lt (g := gb280) (o := .cells #[.int .i64 0, .bool false, .bool false, .bool false, .bool false, .bool false, .int .i64 0, .int .i64 0, .string (⟨#[]⟩ : ByteArray), .string (⟨#[]⟩ : ByteArray), .int .u32 0, .int .u32 0] 27 (0, 0)) (bk_ BK280)) : gb281 ≠ gb280)); clear BK261; clear BK262; clear BK280; clear HB; have BK261 := n0_; have BK262 := n1_; have BK280 := n2_; have HB := n3_; have BK281 := n4_; have GW281 := n5_; have GE281 := n6_; have NB261_281 := n7_; have NB281_261 := n8_; have NB262_281 := n9_; have NB281_262 := n10_; have NB280_281 := n11_; have NB281_280 := n12_; clear n0_ n1_ n2_ n3_ n4_ n5_ n6_ n7_ n8_ n9_ n10_ n11_ n12_; clear hb hbox hg; have hnb27 := NB280_261.out; have hnc27 := NB261_280.out; have hnb28 := NB280_262.out; have hnc28 := NB262_280.out; have hnb29 := NB280_281.out; have hnc29 := NB281_280.out; have hcz30_0 : w26.cell? ⟨gb280, 0, none⟩ = some (.int .i64 0) := (blk_cell BK280.out 0).trans rfl; have hcz30_1 : w26.cell? ⟨gb280, 1, none⟩ = some (.bool false) := (blk_cell BK280.out 1).trans rfl; have hcz30_2 : w26.cell? ⟨gb280, 2, none⟩ = some (.bool false) := (blk_cell BK280.out 2).trans rfl; have hcz30_3 : w26.cell? ⟨gb280, 3, none⟩ = some (.bool false) := (blk_cell BK280.out 3).trans rfl; have hcz30_4 : w26.cell? ⟨gb280, 4, none⟩ = some (.bool false) := (blk_cell BK280.out 4).trans rfl; have hcz30_5 : w26.cell? ⟨gb280, 5, none⟩ = some (.bool false) := (blk_cell BK280.out 5).trans rfl; have hcz30_6 : w26.cell? ⟨gb280, 6, none⟩ = some (.int .i64 0) := (blk_cell BK280.out 6).trans rfl; have hcz30_7 : w26.cell? ⟨gb280, 7, none⟩ = some (.int .i64 0) := (blk_cell BK280.out 7).trans rfl; have hcz30_8 : w26.cell? ⟨gb280, 8, none⟩ = some (.string (⟨#[]⟩ : ByteArray)) := (blk_cell BK280.out 8).trans rfl; have hcz30_9 : w26.cell? ⟨gb280, 9, none⟩ = some (.string (⟨#[]⟩ : ByteArray)) := (blk_cell BK280.out 9).trans rfl; have hcz30_10 : w26.cell? ⟨gb280, 10, none⟩ = some (.int .u32 0) := (blk_cell BK280.out 10).trans rfl; have hcz30_11 : w26.cell? ⟨gb280, 11, none⟩ = some (.int .u32 0) := (blk_cell BK280.out 11).trans rfl; have hfz30_0 := blk_frozen BK280.out 0; have hfz30_1 := blk_frozen BK280.out 1; have hfz30_2 := blk_frozen BK280.out 2; have hfz30_3 := blk_frozen BK280.out 3; have hfz30_4 := blk_frozen BK280.out 4; have hfz30_5 := blk_frozen BK280.out 5; have hfz30_6 := blk_frozen BK280.out 6; have hfz30_7 := blk_frozen BK280.out 7; have hfz30_8 := blk_frozen BK280.out 8; have hfz30_9 := blk_frozen BK280.out 9; have hfz30_10 := blk_frozen BK280.out 10; have hfz30_11 := blk_frozen BK280.out 11; have hnb31 := NB281_261.out; have hnc31 := NB261_281.out; have hnb32 := NB281_262.out; have hnc32 := NB262_281.out; have hcz33_0 : w26.cell? ⟨gb281, 0, none⟩ = some (.string (⟨#[]⟩ : ByteArray)) := (blk_cell BK281.out 0).trans rfl; have hcz33_1 : w26.cell? ⟨gb281, 1, none⟩ = some (.string (⟨#[]⟩ : ByteArray)) := (blk_cell BK281.out 1).trans rfl; have hfz33_0 := blk_frozen BK281.out 0; have hfz33_1 := blk_frozen BK281.out 1))
 (try simp only [Act.put, la_, lb_, lc_])
 go_cut [35] (fun v35 wc => ∃ (kq : Nat) (x35_14 : Bool), v35 = .bool x35_14 ∧ Aside0 (headgatelaw22_LoginThrough.j0 kq a1 t279 x35_14 a0_0 a0_1 a0_2 a0_3 a0_4 a0_5 a0_6 a0_7 a0_8 a0_9 a0_10 a0_11 t265 t266 t267 t268 t269 t270 t271 t272 t273 t274 t275 t276 t277 t278 = some r) ∧ Aside0 (kq ≤ k) ∧ Aside0 (wc.heap[gb261]? = some (.cells #[.int .i64 a0_0, .bool a0_1, .bool a0_2, .bool a0_3, .bool a0_4, .bool a0_5, .int .i64 a0_6, .int .i64 a0_7, .string a0_8, .string a0_9, .int .u32 a0_10, .int .u32 a0_11] 27 (0, 0))) ∧ Aside0 (wc.heap[gb262]? = some (.cells #[.string a2_0, .string a2_1] 35 (0, 0))) ∧ Aside0 (wc.heap[gb280]? = some (.cells #[.int .i64 t265, .bool t266, .bool t267, .bool t268, .bool t269, .bool t270, .int .i64 t271, .int .i64 t272, .string t273, .string t274, .int .u32 t275, .int .u32 t276] 27 (0, 0))) ∧ Aside0 (wc.heap[gb281]? = some (.cells #[.string t277, .string t278] 35 (0, 0))) ∧ Aside0 (Below w.heap.size w wc))
 case first =>
  have H := HC15.out
  clear HC15
  refine neg_first (p := ((t277.size : Int) = 48)) (fun c34 => ?_) (fun c34 => ?_)
  ·rw [if_neg c34] at H
   have c34b0 : ((t277.size : Int) == 48) = false := beq_eq_false_iff_ne.mpr c34
   have c34b1 : ((t277.size : Int) != 48) = true := bne_iff_ne.mpr c34
   (first | rw [c34b0] | (simp only [i64_w, i32_w]; rw [c34b0]) | skip)
   have H' := Aside0.mk H
   clear H
   have hnb44 := NB281_261.out
   have hnc44 := NB261_281.out
   have hnb45 := NB281_262.out
   have hnc45 := NB262_281.out
   have hnb46 := NB281_280.out
   have hnc46 := NB280_281.out
   have hcz47_0 : w26.cell? ⟨gb281, 0, none⟩ = some (.string (⟨#[]⟩ : ByteArray)) := (blk_cell BK281.out 0).trans rfl
   have hcz47_1 : w26.cell? ⟨gb281, 1, none⟩ = some (.string (⟨#[]⟩ : ByteArray)) := (blk_cell BK281.out 1).trans rfl
   have hfz47_0 := blk_frozen BK281.out 0
   have hfz47_1 := blk_frozen BK281.out 1
   go_wp2
   go_meet
   case rel => exact ⟨_, (true), (by first | rfl | (simp; done) | (simp [*]; done)), H', ⟨by first | omega | exact Nat.le_refl _⟩, ⟨by (with_reducible repeat (first | refine blk_drewN ?_ _ | refine blk_drew ?_ | refine blk_alloc ?_ _ | refine blk_far ?_ NB261_281.out _ | refine blk_far ?_ NB261_280.out _)); exact BK261.out⟩, ⟨by (with_reducible repeat (first | refine blk_drewN ?_ _ | refine blk_drew ?_ | refine blk_alloc ?_ _ | refine blk_far ?_ NB262_281.out _ | refine blk_far ?_ NB262_280.out _)); exact BK262.out⟩, ⟨by (with_reducible repeat (first | refine blk_drewN ?_ _ | refine blk_drew ?_ | refine blk_alloc ?_ _ | refine blk_far ?_ NB280_281.out _)); refine blk_put (cs := #[.int .i64 t265, .bool t266, .bool t267, .bool t268, .bool t269, .bool t270, .int .i64 t271, .int .i64 t272, .string t273, .string t274, .int .u32 t275, .int .u32 0]) ?_ 11 _ rfl; (with_reducible repeat (first | refine blk_drewN ?_ _ | refine blk_drew ?_ | refine blk_alloc ?_ _)); refine blk_put (cs := #[.int .i64 t265, .bool t266, .bool t267, .bool t268, .bool t269, .bool t270, .int .i64 t271, .int .i64 t272, .string t273, .string t274, .int .u32 0, .int .u32 0]) ?_ 10 _ rfl; (with_reducible repeat (first | refine blk_drewN ?_ _ | refine blk_drew ?_ | refine blk_alloc ?_ _)); refine blk_put (cs := #[.int .i64 t265, .bool t266, .bool t267, .bool t268, .bool t269, .bool t270, .int .i64 t271, .int .i64 t272, .string t273, .string (⟨#[]⟩ : ByteArray), .int .u32 0, .int .u32 0]) ?_ 9 _ rfl; (with_reducible repeat (first | refine blk_drewN ?_ _ | refine blk_drew ?_ | refine blk_alloc ?_ _)); refine blk_put (cs := #[.int .i64 t265, .bool t266, .bool t267, .bool t268, .bool t269, .bool t270, .int .i64 t271, .int .i64 t272, .string (⟨#[]⟩ : ByteArray), .string (⟨#[]⟩ : ByteArray), .int .u32 0, .int .u32 0]) ?_ 8 _ rfl; (with_reducible repeat (first | refine blk_drewN ?_ _ | refine blk_drew ?_ | refine blk_alloc ?_ _)); refine blk_put (cs := #[.int .i64 t265, .bool t266, .bool t267, .bool t268, .bool t269, .bool t270, .int .i64 t271, .int .i64 0, .string (⟨#[]⟩ : ByteArray), .string (⟨#[]⟩ : ByteArray), .int .u32 0, .int .u32 0]) ?_ 7 _ rfl; (with_reducible repeat (first | refine blk_drewN ?_ _ | refine blk_drew ?_ | refine blk_alloc ?_ _)); refine blk_put (cs := #[.int .i64 t265, .bool t266, .bool t267, .bool t268, .bool t269, .bool t270, .int .i64 0, .int .i64 0, .string (⟨#[]⟩ : ByteArray), .string (⟨#[]⟩ : ByteArray), .int .u32 0, .int .u32 0]) ?_ 6 _ rfl; (with_reducible repeat (first | refine blk_drewN ?_ _ | refine blk_drew ?_ | refine blk_alloc ?_ _)); refine blk_put (cs := #[.int .i64 t265, .bool t266, .bool t267, .bool t268, .bool t269, .bool false, .int .i64 0, .int .i64 0, .string (⟨#[]⟩ : ByteArray), .string (⟨#[]⟩ : ByteArray), .int .u32 0, .int .u32 0]) ?_ 5 _ rfl; (with_reducible repeat (first | refine blk_drewN ?_ _ | refine blk_drew ?_ | refine blk_alloc ?_ _)); refine blk_put (cs := #[.int .i64 t265, .bool t266, .bool t267, .bool t268, .bool false, .bool false, .int .i64 0, .int .i64 0, .string (⟨#[]⟩ : ByteArray), .string (⟨#[]⟩ : ByteArray), .int .u32 0, .int .u32 0]) ?_ 4 _ rfl; (with_reducible repeat (first | refine blk_drewN ?_ _ | refine blk_drew ?_ | refine blk_alloc ?_ _)); refine blk_put (cs := #[.int .i64 t265, .bool t266, .bool t267, .bool false, .bool false, .bool false, .int .i64 0, .int .i64 0, .string (⟨#[]⟩ : ByteArray), .string (⟨#[]⟩ : ByteArray), .int .u32 0, .int .u32 0]) ?_ 3 _ rfl; (with_reducible repeat (first | refine blk_drewN ?_ _ | refine blk_drew ?_ | refine blk_alloc ?_ _)); refine blk_put (cs := #[.int .i64 t265, .bool t266, .bool false, .bool false, .bool false, .bool false, .int .i64 0, .int .i64 0, .string (⟨#[]⟩ : ByteArray), .string (⟨#[]⟩ : ByteArray), .int .u32 0, .int .u32 0]) ?_ 2 _ rfl; (with_reducible repeat (first | refine blk_drewN ?_ _ | refine blk_drew ?_ | refine blk_alloc ?_ _)); refine blk_put (cs := #[.int .i64 t265, .bool false, .bool false, .bool false, .bool false, .bool false, .int .i64 0, .int .i64 0, .string (⟨#[]⟩ : ByteArray), .string (⟨#[]⟩ : ByteArray), .int .u32 0, .int .u32 0]) ?_ 1 _ rfl; (with_reducible repeat (first | refine blk_drewN ?_ _ | refine blk_drew ?_ | refine blk_alloc ?_ _)); refine blk_put (cs := #[.int .i64 0, .bool false, .bool false, .bool false, .bool false, .bool false, .int .i64 0, .int .i64 0, .string (⟨#[]⟩ : ByteArray), .string (⟨#[]⟩ : ByteArray), .int .u32 0, .int .u32 0]) ?_ 0 _ rfl; (with_reducible repeat (first | refine blk_drewN ?_ _ | refine blk_drew ?_ | refine blk_alloc ?_ _)); exact BK280.out⟩, ⟨by (with_reducible repeat (first | refine blk_drewN ?_ _ | refine blk_drew ?_ | refine blk_alloc ?_ _)); refine blk_put (cs := #[.string t277, .string (⟨#[]⟩ : ByteArray)]) ?_ 1 _ rfl; (with_reducible repeat (first | refine blk_drewN ?_ _ | refine blk_drew ?_ | refine blk_alloc ?_ _)); refine blk_put (cs := #[.string (⟨#[]⟩ : ByteArray), .string (⟨#[]⟩ : ByteArray)]) ?_ 0 _ rfl; (with_reducible repeat (first | refine blk_drewN ?_ _ | refine blk_drew ?_ | refine blk_alloc ?_ _ | refine blk_far ?_ NB281_280.out _)); exact BK281.out⟩, ⟨hb_ HB⟩⟩
  rw [if_pos c34] at H
  have c34b0 : ((t277.size : Int) == 48) = true := beq_iff_eq.mpr c34
  have c34b1 : ((t277.size : Int) != 48) = false := bne_eq_false_iff_eq.mpr c34
  clear c34
  (first | rw [c34b0] | (simp only [i64_w, i32_w]; rw [c34b0]) | skip)
  have H' := Aside0.mk H
  clear H
  have hnb35 := NB281_261.out
  have hnc35 := NB261_281.out
  have hnb36 := NB281_262.out
  have hnc36 := NB262_281.out
  have hnb37 := NB281_280.out
  have hnc37 := NB280_281.out
  have hcz38_0 : w26.cell? ⟨gb281, 0, none⟩ = some (.string (⟨#[]⟩ : ByteArray)) := (blk_cell BK281.out 0).trans rfl
  have hcz38_1 : w26.cell? ⟨gb281, 1, none⟩ = some (.string (⟨#[]⟩ : ByteArray)) := (blk_cell BK281.out 1).trans rfl
  have hfz38_0 := blk_frozen BK281.out 0
  have hfz38_1 := blk_frozen BK281.out 1
  have hnb39 := NB280_261.out
  have hnc39 := NB261_280.out
  have hnb40 := NB280_262.out
  have hnc40 := NB262_280.out
  have hcz41_0 : w26.cell? ⟨gb280, 0, none⟩ = some (.int .i64 0) := (blk_cell BK280.out 0).trans rfl
  have hcz41_1 : w26.cell? ⟨gb280, 1, none⟩ = some (.bool false) := (blk_cell BK280.out 1).trans rfl
  have hcz41_2 : w26.cell? ⟨gb280, 2, none⟩ = some (.bool false) := (blk_cell BK280.out 2).trans rfl
  have hcz41_3 : w26.cell? ⟨gb280, 3, none⟩ = some (.bool false) := (blk_cell BK280.out 3).trans rfl
  have hcz41_4 : w26.cell? ⟨gb280, 4, none⟩ = some (.bool false) := (blk_cell BK280.out 4).trans rfl
  have hcz41_5 : w26.cell? ⟨gb280, 5, none⟩ = some (.bool false) := (blk_cell BK280.out 5).trans rfl
  have hcz41_6 : w26.cell? ⟨gb280, 6, none⟩ = some (.int .i64 0) := (blk_cell BK280.out 6).trans rfl
  have hcz41_7 : w26.cell? ⟨gb280, 7, none⟩ = some (.int .i64 0) := (blk_cell BK280.out 7).trans rfl
  have hcz41_8 : w26.cell? ⟨gb280, 8, none⟩ = some (.string (⟨#[]⟩ : ByteArray)) := (blk_cell BK280.out 8).trans rfl
  have hcz41_9 : w26.cell? ⟨gb280, 9, none⟩ = some (.string (⟨#[]⟩ : ByteArray)) := (blk_cell BK280.out 9).trans rfl
  have hcz41_10 : w26.cell? ⟨gb280, 10, none⟩ = some (.int .u32 0) := (blk_cell BK280.out 10).trans rfl
  have hcz41_11 : w26.cell? ⟨gb280, 11, none⟩ = some (.int .u32 0) := (blk_cell BK280.out 11).trans rfl
  have hfz41_0 := blk_frozen BK280.out 0
  have hfz41_1 := blk_frozen BK280.out 1
  have hfz41_2 := blk_frozen BK280.out 2
  have hfz41_3 := blk_frozen BK280.out 3
  have hfz41_4 := blk_frozen BK280.out 4
  have hfz41_5 := blk_frozen BK280.out 5
  have hfz41_6 := blk_frozen BK280.out 6
  have hfz41_7 := blk_frozen BK280.out 7
  have hfz41_8 := blk_frozen BK280.out 8
  have hfz41_9 := blk_frozen BK280.out 9
  have hfz41_10 := blk_frozen BK280.out 10
  have hfz41_11 := blk_frozen BK280.out 11
  have hnb42 := NB261_262.out
  have hnc42 := NB262_261.out
  have hcz43_0 : w26.cell? ⟨gb261, 0, none⟩ = some (.int .i64 a0_0) := (blk_cell BK261.out 0).trans rfl
  have hcz43_1 : w26.cell? ⟨gb261, 1, none⟩ = some (.bool a0_1) := (blk_cell BK261.out 1).trans rfl
  have hcz43_2 : w26.cell? ⟨gb261, 2, none⟩ = some (.bool a0_2) := (blk_cell BK261.out 2).trans rfl
  have hcz43_3 : w26.cell? ⟨gb261, 3, none⟩ = some (.bool a0_3) := (blk_cell BK261.out 3).trans rfl
  have hcz43_4 : w26.cell? ⟨gb261, 4, none⟩ = some (.bool a0_4) := (blk_cell BK261.out 4).trans rfl
  have hcz43_5 : w26.cell? ⟨gb261, 5, none⟩ = some (.bool a0_5) := (blk_cell BK261.out 5).trans rfl
  have hcz43_6 : w26.cell? ⟨gb261, 6, none⟩ = some (.int .i64 a0_6) := (blk_cell BK261.out 6).trans rfl
  have hcz43_7 : w26.cell? ⟨gb261, 7, none⟩ = some (.int .i64 a0_7) := (blk_cell BK261.out 7).trans rfl
  have hcz43_8 : w26.cell? ⟨gb261, 8, none⟩ = some (.string a0_8) := (blk_cell BK261.out 8).trans rfl
  have hcz43_9 : w26.cell? ⟨gb261, 9, none⟩ = some (.string a0_9) := (blk_cell BK261.out 9).trans rfl
  have hcz43_10 : w26.cell? ⟨gb261, 10, none⟩ = some (.int .u32 a0_10) := (blk_cell BK261.out 10).trans rfl
  have hcz43_11 : w26.cell? ⟨gb261, 11, none⟩ = some (.int .u32 a0_11) := (blk_cell BK261.out 11).trans rfl
  have hfz43_0 := blk_frozen BK261.out 0
  have hfz43_1 := blk_frozen BK261.out 1
  have hfz43_2 := blk_frozen BK261.out 2
  have hfz43_3 := blk_frozen BK261.out 3
  have hfz43_4 := blk_frozen BK261.out 4
  have hfz43_5 := blk_frozen BK261.out 5
  have hfz43_6 := blk_frozen BK261.out 6
  have hfz43_7 := blk_frozen BK261.out 7
  have hfz43_8 := blk_frozen BK261.out 8
  have hfz43_9 := blk_frozen BK261.out 9
  have hfz43_10 := blk_frozen BK261.out 10
  have hfz43_11 := blk_frozen BK261.out 11
  go_wp2
  go_meet
  case rel => exact ⟨_, ((t276 != ((a0_11 + 1) % 4294967296))), (by first | rfl | (simp; done) | (simp [*]; done)), H', ⟨by first | omega | exact Nat.le_refl _⟩, ⟨by (with_reducible repeat (first | refine blk_drewN ?_ _ | refine blk_drew ?_ | refine blk_alloc ?_ _ | refine blk_far ?_ NB261_281.out _ | refine blk_far ?_ NB261_280.out _)); exact BK261.out⟩, ⟨by (with_reducible repeat (first | refine blk_drewN ?_ _ | refine blk_drew ?_ | refine blk_alloc ?_ _ | refine blk_far ?_ NB262_281.out _ | refine blk_far ?_ NB262_280.out _)); exact BK262.out⟩, ⟨by (with_reducible repeat (first | refine blk_drewN ?_ _ | refine blk_drew ?_ | refine blk_alloc ?_ _ | refine blk_far ?_ NB280_281.out _)); refine blk_put (cs := #[.int .i64 t265, .bool t266, .bool t267, .bool t268, .bool t269, .bool t270, .int .i64 t271, .int .i64 t272, .string t273, .string t274, .int .u32 t275, .int .u32 0]) ?_ 11 _ rfl; (with_reducible repeat (first | refine blk_drewN ?_ _ | refine blk_drew ?_ | refine blk_alloc ?_ _)); refine blk_put (cs := #[.int .i64 t265, .bool t266, .bool t267, .bool t268, .bool t269, .bool t270, .int .i64 t271, .int .i64 t272, .string t273, .string t274, .int .u32 0, .int .u32 0]) ?_ 10 _ rfl; (with_reducible repeat (first | refine blk_drewN ?_ _ | refine blk_drew ?_ | refine blk_alloc ?_ _)); refine blk_put (cs := #[.int .i64 t265, .bool t266, .bool t267, .bool t268, .bool t269, .bool t270, .int .i64 t271, .int .i64 t272, .string t273, .string (⟨#[]⟩ : ByteArray), .int .u32 0, .int .u32 0]) ?_ 9 _ rfl; (with_reducible repeat (first | refine blk_drewN ?_ _ | refine blk_drew ?_ | refine blk_alloc ?_ _)); refine blk_put (cs := #[.int .i64 t265, .bool t266, .bool t267, .bool t268, .bool t269, .bool t270, .int .i64 t271, .int .i64 t272, .string (⟨#[]⟩ : ByteArray), .string (⟨#[]⟩ : ByteArray), .int .u32 0, .int .u32 0]) ?_ 8 _ rfl; (with_reducible repeat (first | refine blk_drewN ?_ _ | refine blk_drew ?_ | refine blk_alloc ?_ _)); refine blk_put (cs := #[.int .i64 t265, .bool t266, .bool t267, .bool t268, .bool t269, .bool t270, .int .i64 t271, .int .i64 0, .string (⟨#[]⟩ : ByteArray), .string (⟨#[]⟩ : ByteArray), .int .u32 0, .int .u32 0]) ?_ 7 _ rfl; (with_reducible repeat (first | refine blk_drewN ?_ _ | refine blk_drew ?_ | refine blk_alloc ?_ _)); refine blk_put (cs := #[.int .i64 t265, .bool t266, .bool t267, .bool t268, .bool t269, .bool t270, .int .i64 0, .int .i64 0, .string (⟨#[]⟩ : ByteArray), .string (⟨#[]⟩ : ByteArray), .int .u32 0, .int .u32 0]) ?_ 6 _ rfl; (with_reducible repeat (first | refine blk_drewN ?_ _ | refine blk_drew ?_ | refine blk_alloc ?_ _)); refine blk_put (cs := #[.int .i64 t265, .bool t266, .bool t267, .bool t268, .bool t269, .bool false, .int .i64 0, .int .i64 0, .string (⟨#[]⟩ : ByteArray), .string (⟨#[]⟩ : ByteArray), .int .u32 0, .int .u32 0]) ?_ 5 _ rfl; (with_reducible repeat (first | refine blk_drewN ?_ _ | refine blk_drew ?_ | refine blk_alloc ?_ _)); refine blk_put (cs := #[.int .i64 t265, .bool t266, .bool t267, .bool t268, .bool false, .bool false, .int .i64 0, .int .i64 0, .string (⟨#[]⟩ : ByteArray), .string (⟨#[]⟩ : ByteArray), .int .u32 0, .int .u32 0]) ?_ 4 _ rfl; (with_reducible repeat (first | refine blk_drewN ?_ _ | refine blk_drew ?_ | refine blk_alloc ?_ _)); refine blk_put (cs := #[.int .i64 t265, .bool t266, .bool t267, .bool false, .bool false, .bool false, .int .i64 0, .int .i64 0, .string (⟨#[]⟩ : ByteArray), .string (⟨#[]⟩ : ByteArray), .int .u32 0, .int .u32 0]) ?_ 3 _ rfl; (with_reducible repeat (first | refine blk_drewN ?_ _ | refine blk_drew ?_ | refine blk_alloc ?_ _)); refine blk_put (cs := #[.int .i64 t265, .bool t266, .bool false, .bool false, .bool false, .bool false, .int .i64 0, .int .i64 0, .string (⟨#[]⟩ : ByteArray), .string (⟨#[]⟩ : ByteArray), .int .u32 0, .int .u32 0]) ?_ 2 _ rfl; (with_reducible repeat (first | refine blk_drewN ?_ _ | refine blk_drew ?_ | refine blk_alloc ?_ _)); refine blk_put (cs := #[.int .i64 t265, .bool false, .bool false, .bool false, .bool false, .bool false, .int .i64 0, .int .i64 0, .string (⟨#[]⟩ : ByteArray), .string (⟨#[]⟩ : ByteArray), .int .u32 0, .int .u32 0]) ?_ 1 _ rfl; (with_reducible repeat (first | refine blk_drewN ?_ _ | refine blk_drew ?_ | refine blk_alloc ?_ _)); refine blk_put (cs := #[.int .i64 0, .bool false, .bool false, .bool false, .bool false, .bool false, .int .i64 0, .int .i64 0, .string (⟨#[]⟩ : ByteArray), .string (⟨#[]⟩ : ByteArray), .int .u32 0, .int .u32 0]) ?_ 0 _ rfl; (with_reducible repeat (first | refine blk_drewN ?_ _ | refine blk_drew ?_ | refine blk_alloc ?_ _)); exact BK280.out⟩, ⟨by (with_reducible repeat (first | refine blk_drewN ?_ _ | refine blk_drew ?_ | refine blk_alloc ?_ _)); refine blk_put (cs := #[.string t277, .string (⟨#[]⟩ : ByteArray)]) ?_ 1 _ rfl; (with_reducible repeat (first | refine blk_drewN ?_ _ | refine blk_drew ?_ | refine blk_alloc ?_ _)); refine blk_put (cs := #[.string (⟨#[]⟩ : ByteArray), .string (⟨#[]⟩ : ByteArray)]) ?_ 0 _ rfl; (with_reducible repeat (first | refine blk_drewN ?_ _ | refine blk_drew ?_ | refine blk_alloc ?_ _ | refine blk_far ?_ NB281_280.out _)); exact BK281.out⟩, ⟨hb_ HB⟩⟩
 case rest =>
  clear HC15
  try clear c1
  try clear c2
  try clear p2
  try clear c3
  try clear c4
  try clear c5
  try clear c7
  try clear c8
  try clear c9
  try clear c18
  try clear c27
  try clear c28
  try clear c29
  try clear c31
  try clear c32
  try clear c34
  try clear c34b0
  try clear c34b1
  try clear c35
  try clear c36
  try clear c37
  try clear c39
  try clear c40
  try clear c42
  try clear c44
  try clear c45
  try clear c46
  try clear hcz10_0
  try clear hcz10_1
  try clear hcz10_10
  try clear hcz10_11
  try clear hcz10_2
  try clear hcz10_3
  try clear hcz10_4
  try clear hcz10_5
  try clear hcz10_6
  try clear hcz10_7
  try clear hcz10_8
  try clear hcz10_9
  try clear hcz11_0
  try clear hcz11_1
  try clear hcz19_0
  try clear hcz19_1
  try clear hcz19_10
  try clear hcz19_11
  try clear hcz19_2
  try clear hcz19_3
  try clear hcz19_4
  try clear hcz19_5
  try clear hcz19_6
  try clear hcz19_7
  try clear hcz19_8
  try clear hcz19_9
  try clear hcz20_0
  try clear hcz20_1
  try clear hcz22_0
  try clear hcz22_1
  try clear hcz22_10
  try clear hcz22_11
  try clear hcz22_2
  try clear hcz22_3
  try clear hcz22_4
  try clear hcz22_5
  try clear hcz22_6
  try clear hcz22_7
  try clear hcz22_8
  try clear hcz22_9
  try clear hcz23_0
  try clear hcz23_1
  try clear hcz30_0
  try clear hcz30_1
  try clear hcz30_10
  try clear hcz30_11
  try clear hcz30_2
  try clear hcz30_3
  try clear hcz30_4
  try clear hcz30_5
  try clear hcz30_6
  try clear hcz30_7
  try clear hcz30_8
  try clear hcz30_9
  try clear hcz33_0
  try clear hcz33_1
  try clear hcz38_0
  try clear hcz38_1
  try clear hcz41_0
  try clear hcz41_1
  try clear hcz41_10
  try clear hcz41_11
  try clear hcz41_2
  try clear hcz41_3
  try clear hcz41_4
  try clear hcz41_5
  try clear hcz41_6
  try clear hcz41_7
  try clear hcz41_8
  try clear hcz41_9
  try clear hcz43_0
  try clear hcz43_1
  try clear hcz43_10
  try clear hcz43_11
  try clear hcz43_2
  try clear hcz43_3
  try clear hcz43_4
  try clear hcz43_5
  try clear hcz43_6
  try clear hcz43_7
  try clear hcz43_8
  try clear hcz43_9
  try clear hcz47_0
  try clear hcz47_1
  try clear hfz10_0
  try clear hfz10_1
  try clear hfz10_10
  try clear hfz10_11
  try clear hfz10_2
  try clear hfz10_3
  try clear hfz10_4
  try clear hfz10_5
  try clear hfz10_6
  try clear hfz10_7
  try clear hfz10_8
  try clear hfz10_9
  try clear hfz11_0
  try clear hfz11_1
  try clear hfz19_0
  try clear hfz19_1
  try clear hfz19_10
  try clear hfz19_11
  try clear hfz19_2
  try clear hfz19_3
  try clear hfz19_4
  try clear hfz19_5
  try clear hfz19_6
  try clear hfz19_7
  try clear hfz19_8
  try clear hfz19_9
  try clear hfz20_0
  try clear hfz20_1
  try clear hfz22_0
  try clear hfz22_1
  try clear hfz22_10
  try clear hfz22_11
  try clear hfz22_2
  try clear hfz22_3
  try clear hfz22_4
  try clear hfz22_5
  try clear hfz22_6
  try clear hfz22_7
  try clear hfz22_8
  try clear hfz22_9
  try clear hfz23_0
  try clear hfz23_1
  try clear hfz30_0
  try clear hfz30_1
  try clear hfz30_10
  try clear hfz30_11
  try clear hfz30_2
  try clear hfz30_3
  try clear hfz30_4
  try clear hfz30_5
  try clear hfz30_6
  try clear hfz30_7
  try clear hfz30_8
  try clear hfz30_9
  try clear hfz33_0
  try clear hfz33_1
  try clear hfz38_0
  try clear hfz38_1
  try clear hfz41_0
  try clear hfz41_1
  try clear hfz41_10
  try clear hfz41_11
  try clear hfz41_2
  try clear hfz41_3
  try clear hfz41_4
  try clear hfz41_5
  try clear hfz41_6
  try clear hfz41_7
  try clear hfz41_8
  try clear hfz41_9
  try clear hfz43_0
  try clear hfz43_1
  try clear hfz43_10
  try clear hfz43_11
  try clear hfz43_2
  try clear hfz43_3
  try clear hfz43_4
  try clear hfz43_5
  try clear hfz43_6
  try clear hfz43_7
  try clear hfz43_8
  try clear hfz43_9
  try clear hfz47_0
  try clear hfz47_1
  obtain ⟨kq, x35_14, rfl, HA, HJ14, BK261, BK262, BK280, BK281, HB⟩ := hcut
  cases kq with
  | zero => exact absurd HA.out (by simp [headgatelaw22_LoginThrough.j0])
  | succ kj14 =>
   have H := HA.out
   clear HA
   simp only [headgatelaw22_LoginThrough.j0] at H
   by_cases c48 : x35_14 = true
   ·subst c48
    have H1 := H
    rw [if_pos rfl] at H1
    clear H
    have H := H1
    clear H1
    exact absurd ((Option.some.inj H).trans HT0.out) (by decide)
   replace c48 := Bool.eq_false_iff.mpr c48
   subst c48
   have H1 := H
   rw [if_neg (show ¬ (false = true) by decide)] at H1
   clear H
   have H := H1
   clear H1
   by_cases c49 : t279 = true
   ·subst c49
    have H1 := H
    rw [if_pos rfl] at H1
    clear H
    have H := H1
    clear H1
    refine neg_first (p := (t265 = 3)) (fun c50 => ?_) (fun c50 => ?_)
    ·rw [if_neg c50] at H
     have c50b0 : (t265 == 3) = false := beq_eq_false_iff_ne.mpr c50
     have c50b1 : (t265 != 3) = true := bne_iff_ne.mpr c50
     refine neg_first (p := (t266 = true)) (fun c92 => ?_) (fun c92 => ?_)
     ·replace c92 := Bool.eq_false_iff.mpr c92
      subst c92
      have H1 := H
      rw [if_neg (show ¬ (false = true) by decide)] at H1
      clear H
      have H := H1
      clear H1
      exact absurd ((Option.some.inj H).trans HT0.out) (by decide)
     subst c92
     have H1 := H
     rw [if_pos rfl] at H1
     clear H
     have H := H1
     clear H1
     refine neg_first (p := (36 < (t277.size : Int))) (fun c93 => ?_) (fun c93 => ?_)
     ·rw [if_neg c93] at H
      exact absurd H (by simp)
     rw [if_pos c93] at H
     have c93b0 : decide (36 < (t277.size : Int)) = true := decide_eq_true c93
     have c93b1 : decide (36 < t277.size) = true := decide_eq_true (by omega)
     clear c93
     refine neg_first (p := ((bt t277 36) = 0)) (fun c95 => ?_) (fun c95 => ?_)
     ·rw [if_neg c95] at H
      have c95b0 : ((bt t277 36) == 0) = false := beq_eq_false_iff_ne.mpr c95
      have c95b1 : ((bt t277 36) != 0) = true := bne_iff_ne.mpr c95
      exact absurd ((Option.some.inj H).trans HT0.out) (by decide)
     rw [if_pos c95] at H
     have c95b0 : ((bt t277 36) == 0) = true := beq_iff_eq.mpr c95
     have c95b1 : ((bt t277 36) != 0) = false := bne_eq_false_iff_eq.mpr c95
     clear c95
     refine neg_first (p := (37 < (t277.size : Int))) (fun c96 => ?_) (fun c96 => ?_)
     ·rw [if_neg c96] at H
      exact absurd H (by simp)
     rw [if_pos c96] at H
     have c96b0 : decide (37 < (t277.size : Int)) = true := decide_eq_true c96
     have c96b1 : decide (37 < t277.size) = true := decide_eq_true (by omega)
     clear c96
     refine neg_first (p := ((bt t277 37) = 0)) (fun c98 => ?_) (fun c98 => ?_)
     ·rw [if_neg c98] at H
      have c98b0 : ((bt t277 37) == 0) = false := beq_eq_false_iff_ne.mpr c98
      have c98b1 : ((bt t277 37) != 0) = true := bne_iff_ne.mpr c98
      exact absurd ((Option.some.inj H).trans HT0.out) (by decide)
     rw [if_pos c98] at H
     have c98b0 : ((bt t277 37) == 0) = true := beq_iff_eq.mpr c98
     have c98b1 : ((bt t277 37) != 0) = false := bne_eq_false_iff_eq.mpr c98
     clear c98
     replace H := Option.bind_eq_some_iff.mp H
     obtain ⟨t312, A990, H⟩ := H
     try dsimp only at H
     have A99 := Aside0.mk A990
     clear A990
     obtain rfl := Option.some.inj H
     have hnb100 := NB280_261.out
     have hnc100 := NB261_280.out
     have hnb101 := NB280_262.out
     have hnc101 := NB262_280.out
     have hnb102 := NB280_281.out
     have hnc102 := NB281_280.out
     have hcz103_0 : wc.cell? ⟨gb280, 0, none⟩ = some (.int .i64 t265) := (blk_cell BK280.out 0).trans rfl
     have hcz103_1 : wc.cell? ⟨gb280, 1, none⟩ = some (.bool true) := (blk_cell BK280.out 1).trans rfl
     have hcz103_2 : wc.cell? ⟨gb280, 2, none⟩ = some (.bool t267) := (blk_cell BK280.out 2).trans rfl
     have hcz103_3 : wc.cell? ⟨gb280, 3, none⟩ = some (.bool t268) := (blk_cell BK280.out 3).trans rfl
     have hcz103_4 : wc.cell? ⟨gb280, 4, none⟩ = some (.bool t269) := (blk_cell BK280.out 4).trans rfl
     have hcz103_5 : wc.cell? ⟨gb280, 5, none⟩ = some (.bool t270) := (blk_cell BK280.out 5).trans rfl
     have hcz103_6 : wc.cell? ⟨gb280, 6, none⟩ = some (.int .i64 t271) := (blk_cell BK280.out 6).trans rfl
     have hcz103_7 : wc.cell? ⟨gb280, 7, none⟩ = some (.int .i64 t272) := (blk_cell BK280.out 7).trans rfl
     have hcz103_8 : wc.cell? ⟨gb280, 8, none⟩ = some (.string t273) := (blk_cell BK280.out 8).trans rfl
     have hcz103_9 : wc.cell? ⟨gb280, 9, none⟩ = some (.string t274) := (blk_cell BK280.out 9).trans rfl
     have hcz103_10 : wc.cell? ⟨gb280, 10, none⟩ = some (.int .u32 t275) := (blk_cell BK280.out 10).trans rfl
     have hcz103_11 : wc.cell? ⟨gb280, 11, none⟩ = some (.int .u32 t276) := (blk_cell BK280.out 11).trans rfl
     have hfz103_0 := blk_frozen BK280.out 0
     have hfz103_1 := blk_frozen BK280.out 1
     have hfz103_2 := blk_frozen BK280.out 2
     have hfz103_3 := blk_frozen BK280.out 3
     have hfz103_4 := blk_frozen BK280.out 4
     have hfz103_5 := blk_frozen BK280.out 5
     have hfz103_6 := blk_frozen BK280.out 6
     have hfz103_7 := blk_frozen BK280.out 7
     have hfz103_8 := blk_frozen BK280.out 8
     have hfz103_9 := blk_frozen BK280.out 9
     have hfz103_10 := blk_frozen BK280.out 10
     have hfz103_11 := blk_frozen BK280.out 11
     have hnb104 := NB281_261.out
     have hnc104 := NB261_281.out
     have hnb105 := NB281_262.out
     have hnc105 := NB262_281.out
     have hcz106_0 : wc.cell? ⟨gb281, 0, none⟩ = some (.string t277) := (blk_cell BK281.out 0).trans rfl
     have hcz106_1 : wc.cell? ⟨gb281, 1, none⟩ = some (.string t278) := (blk_cell BK281.out 1).trans rfl
     have hfz106_0 := blk_frozen BK281.out 0
     have hfz106_1 := blk_frozen BK281.out 1
     have p94 : 0 ≤ (36 : Int) := (by omega)
     have q94 : 36 < t277.size := (by have : (36 : Int) < (t277.size : Int) := of_decide_eq_true (by first | (with_reducible assumption) | assumption); omega)
     have hx94 : ∀ h : 36 < t277.size, ((t277[36]'h).toNat : Int) = bt t277 36 := bt_at t277 36
     clear p94
     have qi94 : (36 < (t277.size : Int)) = True := eq_true (of_decide_eq_true (by first | (with_reducible assumption) | assumption))
     replace q94 := eq_true q94
     have p97 : 0 ≤ (37 : Int) := (by omega)
     have q97 : 37 < t277.size := (by have : (37 : Int) < (t277.size : Int) := of_decide_eq_true (by first | (with_reducible assumption) | assumption); omega)
     have hx97 : ∀ h : 37 < t277.size, ((t277[37]'h).toNat : Int) = bt t277 37 := bt_at t277 37
     clear p97
     have qi97 : (37 < (t277.size : Int)) = True := eq_true (of_decide_eq_true (by first | (with_reducible assumption) | assumption))
     replace q97 := eq_true q97
     go_wp2_with (first | (go_at_call 8; (with_reducible refine (headgatelaw22_wakes.calls kj14  t312 _ ?side1 A99.out).mono ?_); (case side1 => first | ((refine Glob.keep HG.out ?_); (repeat (first | (with_reducible first | exact HB.out | apply below_alloc | apply pw_below_drewN | apply below_drew1 | refine below_set ?_ GE261.out | refine below_set ?_ GE262.out | refine below_set ?_ GE280.out | refine below_set ?_ GE281.out) | exact HB.out)); done) | exact HG.out); rintro e w107 ⟨rfl, hb⟩; have n0_ := Aside0.mk (blk_below (bk_ BK261) hb); have n1_ := Aside0.mk (blk_below (bk_ BK262) hb); have n2_ := Aside0.mk (blk_below (bk_ BK280) hb); have n3_ := Aside0.mk (blk_below (bk_ BK281) hb); have n4_ := Aside0.mk (below_step (hb_ HB) hb); clear BK261; clear BK262; clear BK280; clear BK281; clear HB; have BK261 := n0_; have BK262 := n1_; have BK280 := n2_; have BK281 := n3_; have HB := n4_; clear n0_ n1_ n2_ n3_ n4_; (try clear hb); (try clear hb2); (try clear hk); (try clear hi)))
     go_ret
     exact ⟨by first | rfl | (simp [errW_none, errW_some] <;> rfl) | (simp [*, errW_none, errW_some] <;> rfl) | (simp [bt, *]; done) | (unfold bt; simp [*]; done), by repeat (first | (with_reducible first | exact HB.out | apply below_alloc | apply pw_below_drewN | apply below_drew1 | refine below_set ?_ GE261.out | refine below_set ?_ GE262.out | refine below_set ?_ GE280.out | refine below_set ?_ GE281.out) | exact HB.out)⟩
    rw [if_pos c50] at H
    have c50b0 : (t265 == 3) = true := beq_iff_eq.mpr c50
    have c50b1 : (t265 != 3) = false := bne_eq_false_iff_eq.mpr c50
    clear c50
    refine neg_first (p := (a0_8.toList = ([] : List UInt8))) (fun c51 => ?_) (fun c51 => ?_)
    ·rw [if_neg c51] at H
     have c51b0 : (a0_8.toList == ([] : List UInt8)) = false := beq_eq_false_iff_ne.mpr c51
     have c51b1 : (a0_8.toList != ([] : List UInt8)) = true := bne_iff_ne.mpr c51
     (try (have c51b2 : (a0_8 = ByteArray.empty) = False := eq_false (fun h_ => c51 (by rw [h_, ByteArray.toList_eq]; rfl))))
     refine neg_first (p := (t274.toList = a1.toList)) (fun c73 => ?_) (fun c73 => ?_)
     ·rw [if_neg c73] at H
      have c73b0 : (t274.toList == a1.toList) = false := beq_eq_false_iff_ne.mpr c73
      have c73b1 : (t274.toList != a1.toList) = true := bne_iff_ne.mpr c73
      exact absurd ((Option.some.inj H).trans HT0.out) (by decide)
     rw [if_pos c73] at H
     have c73b0 : (t274.toList == a1.toList) = true := beq_iff_eq.mpr c73
     have c73b1 : (t274.toList != a1.toList) = false := bne_eq_false_iff_eq.mpr c73
     clear c73
     refine neg_first (p := (t266 = true)) (fun c74 => ?_) (fun c74 => ?_)
     ·replace c74 := Bool.eq_false_iff.mpr c74
      subst c74
      have H1 := H
      rw [if_neg (show ¬ (false = true) by decide)] at H1
      clear H
      have H := H1
      clear H1
      exact absurd ((Option.some.inj H).trans HT0.out) (by decide)
     subst c74
     have H1 := H
     rw [if_pos rfl] at H1
     clear H
     have H := H1
     clear H1
     refine neg_first (p := (36 < (t277.size : Int))) (fun c75 => ?_) (fun c75 => ?_)
     ·rw [if_neg c75] at H
      exact absurd H (by simp)
     rw [if_pos c75] at H
     have c75b0 : decide (36 < (t277.size : Int)) = true := decide_eq_true c75
     have c75b1 : decide (36 < t277.size) = true := decide_eq_true (by omega)
     clear c75
     refine neg_first (p := ((bt t277 36) = 0)) (fun c77 => ?_) (fun c77 => ?_)
     ·rw [if_neg c77] at H
      have c77b0 : ((bt t277 36) == 0) = false := beq_eq_false_iff_ne.mpr c77
      have c77b1 : ((bt t277 36) != 0) = true := bne_iff_ne.mpr c77
      exact absurd ((Option.some.inj H).trans HT0.out) (by decide)
     rw [if_pos c77] at H
     have c77b0 : ((bt t277 36) == 0) = true := beq_iff_eq.mpr c77
     have c77b1 : ((bt t277 36) != 0) = false := bne_eq_false_iff_eq.mpr c77
     clear c77
     refine neg_first (p := (37 < (t277.size : Int))) (fun c78 => ?_) (fun c78 => ?_)
     ·rw [if_neg c78] at H
      exact absurd H (by simp)
     rw [if_pos c78] at H
     have c78b0 : decide (37 < (t277.size : Int)) = true := decide_eq_true c78
     have c78b1 : decide (37 < t277.size) = true := decide_eq_true (by omega)
     clear c78
     refine neg_first (p := ((bt t277 37) = 0)) (fun c80 => ?_) (fun c80 => ?_)
     ·rw [if_neg c80] at H
      have c80b0 : ((bt t277 37) == 0) = false := beq_eq_false_iff_ne.mpr c80
      have c80b1 : ((bt t277 37) != 0) = true := bne_iff_ne.mpr c80
      exact absurd ((Option.some.inj H).trans HT0.out) (by decide)
     rw [if_pos c80] at H
     have c80b0 : ((bt t277 37) == 0) = true := beq_iff_eq.mpr c80
     have c80b1 : ((bt t277 37) != 0) = false := bne_eq_false_iff_eq.mpr c80
     clear c80
     replace H := Option.bind_eq_some_iff.mp H
     obtain ⟨t311, A810, H⟩ := H
     try dsimp only at H
     have A81 := Aside0.mk A810
     clear A810
     obtain rfl := Option.some.inj H
     have hnb82 := NB280_261.out
     have hnc82 := NB261_280.out
     have hnb83 := NB280_262.out
     have hnc83 := NB262_280.out
     have hnb84 := NB280_281.out
     have hnc84 := NB281_280.out
     have hcz85_0 : wc.cell? ⟨gb280, 0, none⟩ = some (.int .i64 t265) := (blk_cell BK280.out 0).trans rfl
     have hcz85_1 : wc.cell? ⟨gb280, 1, none⟩ = some (.bool true) := (blk_cell BK280.out 1).trans rfl
     have hcz85_2 : wc.cell? ⟨gb280, 2, none⟩ = some (.bool t267) := (blk_cell BK280.out 2).trans rfl
     have hcz85_3 : wc.cell? ⟨gb280, 3, none⟩ = some (.bool t268) := (blk_cell BK280.out 3).trans rfl
     have hcz85_4 : wc.cell? ⟨gb280, 4, none⟩ = some (.bool t269) := (blk_cell BK280.out 4).trans rfl
     have hcz85_5 : wc.cell? ⟨gb280, 5, none⟩ = some (.bool t270) := (blk_cell BK280.out 5).trans rfl
     have hcz85_6 : wc.cell? ⟨gb280, 6, none⟩ = some (.int .i64 t271) := (blk_cell BK280.out 6).trans rfl
     have hcz85_7 : wc.cell? ⟨gb280, 7, none⟩ = some (.int .i64 t272) := (blk_cell BK280.out 7).trans rfl
     have hcz85_8 : wc.cell? ⟨gb280, 8, none⟩ = some (.string t273) := (blk_cell BK280.out 8).trans rfl
     have hcz85_9 : wc.cell? ⟨gb280, 9, none⟩ = some (.string t274) := (blk_cell BK280.out 9).trans rfl
     have hcz85_10 : wc.cell? ⟨gb280, 10, none⟩ = some (.int .u32 t275) := (blk_cell BK280.out 10).trans rfl
     have hcz85_11 : wc.cell? ⟨gb280, 11, none⟩ = some (.int .u32 t276) := (blk_cell BK280.out 11).trans rfl
     have hfz85_0 := blk_frozen BK280.out 0
     have hfz85_1 := blk_frozen BK280.out 1
     have hfz85_2 := blk_frozen BK280.out 2
     have hfz85_3 := blk_frozen BK280.out 3
     have hfz85_4 := blk_frozen BK280.out 4
     have hfz85_5 := blk_frozen BK280.out 5
     have hfz85_6 := blk_frozen BK280.out 6
     have hfz85_7 := blk_frozen BK280.out 7
     have hfz85_8 := blk_frozen BK280.out 8
     have hfz85_9 := blk_frozen BK280.out 9
     have hfz85_10 := blk_frozen BK280.out 10
     have hfz85_11 := blk_frozen BK280.out 11
     have hnb86 := NB261_262.out
     have hnc86 := NB262_261.out
     have hnb87 := NB261_281.out
     have hnc87 := NB281_261.out
     have hcz88_0 : wc.cell? ⟨gb261, 0, none⟩ = some (.int .i64 a0_0) := (blk_cell BK261.out 0).trans rfl
     have hcz88_1 : wc.cell? ⟨gb261, 1, none⟩ = some (.bool a0_1) := (blk_cell BK261.out 1).trans rfl
     have hcz88_2 : wc.cell? ⟨gb261, 2, none⟩ = some (.bool a0_2) := (blk_cell BK261.out 2).trans rfl
     have hcz88_3 : wc.cell? ⟨gb261, 3, none⟩ = some (.bool a0_3) := (blk_cell BK261.out 3).trans rfl
     have hcz88_4 : wc.cell? ⟨gb261, 4, none⟩ = some (.bool a0_4) := (blk_cell BK261.out 4).trans rfl
     have hcz88_5 : wc.cell? ⟨gb261, 5, none⟩ = some (.bool a0_5) := (blk_cell BK261.out 5).trans rfl
     have hcz88_6 : wc.cell? ⟨gb261, 6, none⟩ = some (.int .i64 a0_6) := (blk_cell BK261.out 6).trans rfl
     have hcz88_7 : wc.cell? ⟨gb261, 7, none⟩ = some (.int .i64 a0_7) := (blk_cell BK261.out 7).trans rfl
     have hcz88_8 : wc.cell? ⟨gb261, 8, none⟩ = some (.string a0_8) := (blk_cell BK261.out 8).trans rfl
     have hcz88_9 : wc.cell? ⟨gb261, 9, none⟩ = some (.string a0_9) := (blk_cell BK261.out 9).trans rfl
     have hcz88_10 : wc.cell? ⟨gb261, 10, none⟩ = some (.int .u32 a0_10) := (blk_cell BK261.out 10).trans rfl
     have hcz88_11 : wc.cell? ⟨gb261, 11, none⟩ = some (.int .u32 a0_11) := (blk_cell BK261.out 11).trans rfl
     have hfz88_0 := blk_frozen BK261.out 0
     have hfz88_1 := blk_frozen BK261.out 1
     have hfz88_2 := blk_frozen BK261.out 2
     have hfz88_3 := blk_frozen BK261.out 3
     have hfz88_4 := blk_frozen BK261.out 4
     have hfz88_5 := blk_frozen BK261.out 5
     have hfz88_6 := blk_frozen BK261.out 6
     have hfz88_7 := blk_frozen BK261.out 7
     have hfz88_8 := blk_frozen BK261.out 8
     have hfz88_9 := blk_frozen BK261.out 9
     have hfz88_10 := blk_frozen BK261.out 10
     have hfz88_11 := blk_frozen BK261.out 11
     have hnb89 := NB281_262.out
     have hnc89 := NB262_281.out
     have hcz90_0 : wc.cell? ⟨gb281, 0, none⟩ = some (.string t277) := (blk_cell BK281.out 0).trans rfl
     have hcz90_1 : wc.cell? ⟨gb281, 1, none⟩ = some (.string t278) := (blk_cell BK281.out 1).trans rfl
     have hfz90_0 := blk_frozen BK281.out 0
     have hfz90_1 := blk_frozen BK281.out 1
     have p76 : 0 ≤ (36 : Int) := (by omega)
     have q76 : 36 < t277.size := (by have : (36 : Int) < (t277.size : Int) := of_decide_eq_true (by first | (with_reducible assumption) | assumption); omega)
     have hx76 : ∀ h : 36 < t277.size, ((t277[36]'h).toNat : Int) = bt t277 36 := bt_at t277 36
     clear p76
     have qi76 : (36 < (t277.size : Int)) = True := eq_true (of_decide_eq_true (by first | (with_reducible assumption) | assumption))
     replace q76 := eq_true q76
     have p79 : 0 ≤ (37 : Int) := (by omega)
     have q79 : 37 < t277.size := (by have : (37 : Int) < (t277.size : Int) := of_decide_eq_true (by first | (with_reducible assumption) | assumption); omega)
     have hx79 : ∀ h : 37 < t277.size, ((t277[37]'h).toNat : Int) = bt t277 37 := bt_at t277 37
     clear p79
     have qi79 : (37 < (t277.size : Int)) = True := eq_true (of_decide_eq_true (by first | (with_reducible assumption) | assumption))
     replace q79 := eq_true q79
     go_wp2_with (first | (go_at_call 8; (with_reducible refine (headgatelaw22_wakes.calls kj14  t311 _ ?side1 A81.out).mono ?_); (case side1 => first | ((refine Glob.keep HG.out ?_); (repeat (first | (with_reducible first | exact HB.out | apply below_alloc | apply pw_below_drewN | apply below_drew1 | refine below_set ?_ GE261.out | refine below_set ?_ GE262.out | refine below_set ?_ GE280.out | refine below_set ?_ GE281.out) | exact HB.out)); done) | exact HG.out); rintro e w91 ⟨rfl, hb⟩; have n0_ := Aside0.mk (blk_below (bk_ BK261) hb); have n1_ := Aside0.mk (blk_below (bk_ BK262) hb); have n2_ := Aside0.mk (blk_below (bk_ BK280) hb); have n3_ := Aside0.mk (blk_below (bk_ BK281) hb); have n4_ := Aside0.mk (below_step (hb_ HB) hb); clear BK261; clear BK262; clear BK280; clear BK281; clear HB; have BK261 := n0_; have BK262 := n1_; have BK280 := n2_; have BK281 := n3_; have HB := n4_; clear n0_ n1_ n2_ n3_ n4_; (try clear hb); (try clear hb2); (try clear hk); (try clear hi)))
     go_ret
     exact ⟨by first | rfl | (simp [errW_none, errW_some] <;> rfl) | (simp [*, errW_none, errW_some] <;> rfl) | (simp [bt, *]; done) | (unfold bt; simp [*]; done), by repeat (first | (with_reducible first | exact HB.out | apply below_alloc | apply pw_below_drewN | apply below_drew1 | refine below_set ?_ GE261.out | refine below_set ?_ GE262.out | refine below_set ?_ GE280.out | refine below_set ?_ GE281.out) | exact HB.out)⟩
    rw [if_pos c51] at H
    have c51b0 : (a0_8.toList == ([] : List UInt8)) = true := beq_iff_eq.mpr c51
    have c51b1 : (a0_8.toList != ([] : List UInt8)) = false := bne_eq_false_iff_eq.mpr c51
    (try (have c51b2 : (a0_8 = ByteArray.empty) = True := eq_true (by have h_ := c51; rw [ByteArray.toList_eq] at h_; exact ByteArray.ext (Array.toList_eq_nil_iff.mp h_))))
    clear c51
    replace H := Option.bind_eq_some_iff.mp H
    obtain ⟨t309, A520, H⟩ := H
    try dsimp only at H
    have A52 := Aside0.mk A520
    clear A520
    refine neg_first (p := (t309 = true)) (fun c53 => ?_) (fun c53 => ?_)
    ·replace c53 := Bool.eq_false_iff.mpr c53
     subst c53
     have H1 := H
     rw [if_neg (show ¬ (false = true) by decide)] at H1
     clear H
     have H := H1
     clear H1
     exact absurd ((Option.some.inj H).trans HT0.out) (by decide)
    subst c53
    have H1 := H
    rw [if_pos rfl] at H1
    clear H
    have H := H1
    clear H1
    refine neg_first (p := (t274.toList = a1.toList)) (fun c54 => ?_) (fun c54 => ?_)
    ·rw [if_neg c54] at H
     have c54b0 : (t274.toList == a1.toList) = false := beq_eq_false_iff_ne.mpr c54
     have c54b1 : (t274.toList != a1.toList) = true := bne_iff_ne.mpr c54
     exact absurd ((Option.some.inj H).trans HT0.out) (by decide)
    rw [if_pos c54] at H
    have c54b0 : (t274.toList == a1.toList) = true := beq_iff_eq.mpr c54
    have c54b1 : (t274.toList != a1.toList) = false := bne_eq_false_iff_eq.mpr c54
    clear c54
    refine neg_first (p := (t266 = true)) (fun c55 => ?_) (fun c55 => ?_)
    ·replace c55 := Bool.eq_false_iff.mpr c55
     subst c55
     have H1 := H
     rw [if_neg (show ¬ (false = true) by decide)] at H1
     clear H
     have H := H1
     clear H1
     exact absurd ((Option.some.inj H).trans HT0.out) (by decide)
    subst c55
    have H1 := H
    rw [if_pos rfl] at H1
    clear H
    have H := H1
    clear H1
    refine neg_first (p := (36 < (t277.size : Int))) (fun c56 => ?_) (fun c56 => ?_)
    ·rw [if_neg c56] at H
     exact absurd H (by simp)
    rw [if_pos c56] at H
    have c56b0 : decide (36 < (t277.size : Int)) = true := decide_eq_true c56
    have c56b1 : decide (36 < t277.size) = true := decide_eq_true (by omega)
    clear c56
    refine neg_first (p := ((bt t277 36) = 0)) (fun c58 => ?_) (fun c58 => ?_)
    ·rw [if_neg c58] at H
     have c58b0 : ((bt t277 36) == 0) = false := beq_eq_false_iff_ne.mpr c58
     have c58b1 : ((bt t277 36) != 0) = true := bne_iff_ne.mpr c58
     exact absurd ((Option.some.inj H).trans HT0.out) (by decide)
    rw [if_pos c58] at H
    have c58b0 : ((bt t277 36) == 0) = true := beq_iff_eq.mpr c58
    have c58b1 : ((bt t277 36) != 0) = false := bne_eq_false_iff_eq.mpr c58
    clear c58
    refine neg_first (p := (37 < (t277.size : Int))) (fun c59 => ?_) (fun c59 => ?_)
    ·rw [if_neg c59] at H
     exact absurd H (by simp)
    rw [if_pos c59] at H
    have c59b0 : decide (37 < (t277.size : Int)) = true := decide_eq_true c59
    have c59b1 : decide (37 < t277.size) = true := decide_eq_true (by omega)
    clear c59
    refine neg_first (p := ((bt t277 37) = 0)) (fun c61 => ?_) (fun c61 => ?_)
    ·rw [if_neg c61] at H
     have c61b0 : ((bt t277 37) == 0) = false := beq_eq_false_iff_ne.mpr c61
     have c61b1 : ((bt t277 37) != 0) = true := bne_iff_ne.mpr c61
     exact absurd ((Option.some.inj H).trans HT0.out) (by decide)
    rw [if_pos c61] at H
    have c61b0 : ((bt t277 37) == 0) = true := beq_iff_eq.mpr c61
    have c61b1 : ((bt t277 37) != 0) = false := bne_eq_false_iff_eq.mpr c61
    clear c61
    replace H := Option.bind_eq_some_iff.mp H
    obtain ⟨t310, A620, H⟩ := H
    try dsimp only at H
    have A62 := Aside0.mk A620
    clear A620
    obtain rfl := Option.some.inj H
    have hnb63 := NB280_261.out
    have hnc63 := NB261_280.out
    have hnb64 := NB280_262.out
    have hnc64 := NB262_280.out
    have hnb65 := NB280_281.out
    have hnc65 := NB281_280.out
    have hcz66_0 : wc.cell? ⟨gb280, 0, none⟩ = some (.int .i64 t265) := (blk_cell BK280.out 0).trans rfl
    have hcz66_1 : wc.cell? ⟨gb280, 1, none⟩ = some (.bool true) := (blk_cell BK280.out 1).trans rfl
    have hcz66_2 : wc.cell? ⟨gb280, 2, none⟩ = some (.bool t267) := (blk_cell BK280.out 2).trans rfl
    have hcz66_3 : wc.cell? ⟨gb280, 3, none⟩ = some (.bool t268) := (blk_cell BK280.out 3).trans rfl
    have hcz66_4 : wc.cell? ⟨gb280, 4, none⟩ = some (.bool t269) := (blk_cell BK280.out 4).trans rfl
    have hcz66_5 : wc.cell? ⟨gb280, 5, none⟩ = some (.bool t270) := (blk_cell BK280.out 5).trans rfl
    have hcz66_6 : wc.cell? ⟨gb280, 6, none⟩ = some (.int .i64 t271) := (blk_cell BK280.out 6).trans rfl
    have hcz66_7 : wc.cell? ⟨gb280, 7, none⟩ = some (.int .i64 t272) := (blk_cell BK280.out 7).trans rfl
    have hcz66_8 : wc.cell? ⟨gb280, 8, none⟩ = some (.string t273) := (blk_cell BK280.out 8).trans rfl
    have hcz66_9 : wc.cell? ⟨gb280, 9, none⟩ = some (.string t274) := (blk_cell BK280.out 9).trans rfl
    have hcz66_10 : wc.cell? ⟨gb280, 10, none⟩ = some (.int .u32 t275) := (blk_cell BK280.out 10).trans rfl
    have hcz66_11 : wc.cell? ⟨gb280, 11, none⟩ = some (.int .u32 t276) := (blk_cell BK280.out 11).trans rfl
    have hfz66_0 := blk_frozen BK280.out 0
    have hfz66_1 := blk_frozen BK280.out 1
    have hfz66_2 := blk_frozen BK280.out 2
    have hfz66_3 := blk_frozen BK280.out 3
    have hfz66_4 := blk_frozen BK280.out 4
    have hfz66_5 := blk_frozen BK280.out 5
    have hfz66_6 := blk_frozen BK280.out 6
    have hfz66_7 := blk_frozen BK280.out 7
    have hfz66_8 := blk_frozen BK280.out 8
    have hfz66_9 := blk_frozen BK280.out 9
    have hfz66_10 := blk_frozen BK280.out 10
    have hfz66_11 := blk_frozen BK280.out 11
    have hnb67 := NB261_262.out
    have hnc67 := NB262_261.out
    have hnb68 := NB261_281.out
    have hnc68 := NB281_261.out
    have hcz69_0 : wc.cell? ⟨gb261, 0, none⟩ = some (.int .i64 a0_0) := (blk_cell BK261.out 0).trans rfl
    have hcz69_1 : wc.cell? ⟨gb261, 1, none⟩ = some (.bool a0_1) := (blk_cell BK261.out 1).trans rfl
    have hcz69_2 : wc.cell? ⟨gb261, 2, none⟩ = some (.bool a0_2) := (blk_cell BK261.out 2).trans rfl
    have hcz69_3 : wc.cell? ⟨gb261, 3, none⟩ = some (.bool a0_3) := (blk_cell BK261.out 3).trans rfl
    have hcz69_4 : wc.cell? ⟨gb261, 4, none⟩ = some (.bool a0_4) := (blk_cell BK261.out 4).trans rfl
    have hcz69_5 : wc.cell? ⟨gb261, 5, none⟩ = some (.bool a0_5) := (blk_cell BK261.out 5).trans rfl
    have hcz69_6 : wc.cell? ⟨gb261, 6, none⟩ = some (.int .i64 a0_6) := (blk_cell BK261.out 6).trans rfl
    have hcz69_7 : wc.cell? ⟨gb261, 7, none⟩ = some (.int .i64 a0_7) := (blk_cell BK261.out 7).trans rfl
    have hcz69_8 : wc.cell? ⟨gb261, 8, none⟩ = some (.string a0_8) := (blk_cell BK261.out 8).trans rfl
    have hcz69_9 : wc.cell? ⟨gb261, 9, none⟩ = some (.string a0_9) := (blk_cell BK261.out 9).trans rfl
    have hcz69_10 : wc.cell? ⟨gb261, 10, none⟩ = some (.int .u32 a0_10) := (blk_cell BK261.out 10).trans rfl
    have hcz69_11 : wc.cell? ⟨gb261, 11, none⟩ = some (.int .u32 a0_11) := (blk_cell BK261.out 11).trans rfl
    have hfz69_0 := blk_frozen BK261.out 0
    have hfz69_1 := blk_frozen BK261.out 1
    have hfz69_2 := blk_frozen BK261.out 2
    have hfz69_3 := blk_frozen BK261.out 3
    have hfz69_4 := blk_frozen BK261.out 4
    have hfz69_5 := blk_frozen BK261.out 5
    have hfz69_6 := blk_frozen BK261.out 6
    have hfz69_7 := blk_frozen BK261.out 7
    have hfz69_8 := blk_frozen BK261.out 8
    have hfz69_9 := blk_frozen BK261.out 9
    have hfz69_10 := blk_frozen BK261.out 10
    have hfz69_11 := blk_frozen BK261.out 11
    go_wp2_with (first | (go_at_call 14; (with_reducible refine (headgateref03_Iqn.calls kj14 t273 true _ A52.out).mono ?_); rintro e w' ⟨rfl, ⟨nd, rfl⟩⟩; have hnb70 := NB281_262.out; have hnc70 := NB262_281.out; have hcz71_0 : wc.cell? ⟨gb281, 0, none⟩ = some (.string t277) := (blk_cell BK281.out 0).trans rfl; have hcz71_1 : wc.cell? ⟨gb281, 1, none⟩ = some (.string t278) := (blk_cell BK281.out 1).trans rfl; have hfz71_0 := blk_frozen BK281.out 0; have hfz71_1 := blk_frozen BK281.out 1; have p57 : 0 ≤ (36 : Int) := (by omega); have q57 : 36 < t277.size := (by have : (36 : Int) < (t277.size : Int) := of_decide_eq_true (by first | (with_reducible assumption) | assumption); omega); have hx57 : ∀ h : 36 < t277.size, ((t277[36]'h).toNat : Int) = bt t277 36 := bt_at t277 36; clear p57; have qi57 : (36 < (t277.size : Int)) = True := eq_true (of_decide_eq_true (by first | (with_reducible assumption) | assumption)); replace q57 := eq_true q57; have p60 : 0 ≤ (37 : Int) := (by omega); have q60 : 37 < t277.size := (by have : (37 : Int) < (t277.size : Int) := of_decide_eq_true (by first | (with_reducible assumption) | assumption); omega); have hx60 : ∀ h : 37 < t277.size, ((t277[37]'h).toNat : Int) = bt t277 37 := bt_at t277 37; clear p60; have qi60 : (37 < (t277.size : Int)) = True := eq_true (of_decide_eq_true (by first | (with_reducible assumption) | assumption)); replace q60 := eq_true q60) | (go_at_call 8; (with_reducible refine (headgatelaw22_wakes.calls kj14  t310 _ ?side1 A62.out).mono ?_); (case side1 => first | ((refine Glob.keep HG.out ?_); (repeat (first | (with_reducible first | exact HB.out | apply below_alloc | apply pw_below_drewN | apply below_drew1 | refine below_set ?_ GE261.out | refine below_set ?_ GE262.out | refine below_set ?_ GE280.out | refine below_set ?_ GE281.out) | exact HB.out)); done) | exact HG.out); rintro e w72 ⟨rfl, hb⟩; have n0_ := Aside0.mk (blk_below (bk_ BK261) hb); have n1_ := Aside0.mk (blk_below (bk_ BK262) hb); have n2_ := Aside0.mk (blk_below (bk_ BK280) hb); have n3_ := Aside0.mk (blk_below (bk_ BK281) hb); have n4_ := Aside0.mk (below_step (hb_ HB) hb); clear BK261; clear BK262; clear BK280; clear BK281; clear HB; have BK261 := n0_; have BK262 := n1_; have BK280 := n2_; have BK281 := n3_; have HB := n4_; clear n0_ n1_ n2_ n3_ n4_; (try clear hb); (try clear hb2); (try clear hk); (try clear hi)))
    go_ret
    exact ⟨by first | rfl | (simp [errW_none, errW_some] <;> rfl) | (simp [*, errW_none, errW_some] <;> rfl) | (simp [bt, *]; done) | (unfold bt; simp [*]; done), by repeat (first | (with_reducible first | exact HB.out | apply below_alloc | apply pw_below_drewN | apply below_drew1 | refine below_set ?_ GE261.out | refine below_set ?_ GE262.out | refine below_set ?_ GE280.out | refine below_set ?_ GE281.out) | exact HB.out)⟩
   replace c49 := Bool.eq_false_iff.mpr c49
   subst c49
   have H1 := H
   rw [if_neg (show ¬ (false = true) by decide)] at H1
   clear H
   have H := H1
   clear H1
   replace H := Option.bind_eq_some_iff.mp H
   obtain ⟨⟨t283, t284, t285, t286, t287, t288, t289, t290, t291, t292, t293, t294⟩, A1080, H⟩ := H
   try dsimp only at H
   have A108 := Aside0.mk A1080
   clear A1080
   replace H := Option.bind_eq_some_iff.mp H
   obtain ⟨⟨t295, t296, t297, t298, t299, t300, t301, t302, t303, t304, t305, t306⟩, A1090, H⟩ := H
   try dsimp only at H
   have A109 := Aside0.mk A1090
   clear A1090
   replace H := Option.bind_eq_some_iff.mp H
   obtain ⟨t307, A1100, H⟩ := H
   try dsimp only at H
   have A110 := Aside0.mk A1100
   clear A1100
   refine neg_first (p := (t307 = true)) (fun c111 => ?_) (fun c111 => ?_)
   ·replace c111 := Bool.eq_false_iff.mpr c111
    subst c111
    have H1 := H
    rw [if_neg (show ¬ (false = true) by decide)] at H1
    clear H
    have H := H1
    clear H1
    exact absurd ((Option.some.inj H).trans HT0.out) (by decide)

   subst c111
   have H1 := H
   rw [if_pos rfl] at H1
   clear H
   have H := H1
   clear H1
   refine neg_first (p := (t278.toList = ([] : List UInt8))) (fun c112 => ?_) (fun c112 => ?_)
   ·rw [if_neg c112] at H
    have c112b0 : (t278.toList == ([] : List UInt8)) = false := beq_eq_false_iff_ne.mpr c112
    have c112b1 : (t278.toList != ([] : List UInt8)) = true := bne_iff_ne.mpr c112
    (try (have c112b2 : (t278 = ByteArray.empty) = False := eq_false (fun h_ => c112 (by rw [h_, ByteArray.toList_eq]; rfl))))
    exact absurd ((Option.some.inj H).trans HT0.out) (by decide)
   rw [if_pos c112] at H
   have c112b0 : (t278.toList == ([] : List UInt8)) = true := beq_iff_eq.mpr c112
   have c112b1 : (t278.toList != ([] : List UInt8)) = false := bne_eq_false_iff_eq.mpr c112
   (try (have c112b2 : (t278 = ByteArray.empty) = True := eq_true (by have h_ := c112; rw [ByteArray.toList_eq] at h_; exact ByteArray.ext (Array.toList_eq_nil_iff.mp h_))))
   clear c112
   refine neg_first (p := (1 < (t277.size : Int))) (fun c113 => ?_) (fun c113 => ?_)
   ·rw [if_neg c113] at H
    exact absurd H (by simp)
   rw [if_pos c113] at H
   have c113b0 : decide (1 < (t277.size : Int)) = true := decide_eq_true c113
   have c113b1 : decide (1 < t277.size) = true := decide_eq_true (by omega)
   clear c113
   refine neg_first (p := ((bt t277 1) = 0)) (fun c115 => ?_) (fun c115 => ?_)
   ·rw [if_neg c115] at H
    have c115b0 : ((bt t277 1) == 0) = false := beq_eq_false_iff_ne.mpr c115
    have c115b1 : ((bt t277 1) != 0) = true := bne_iff_ne.mpr c115
    exact absurd ((Option.some.inj H).trans HT0.out) (by decide)
   rw [if_pos c115] at H
   have c115b0 : ((bt t277 1) == 0) = true := beq_iff_eq.mpr c115
   have c115b1 : ((bt t277 1) != 0) = false := bne_eq_false_iff_eq.mpr c115
   clear c115
   refine neg_first (p := (36 < (t277.size : Int))) (fun c116 => ?_) (fun c116 => ?_)
   ·rw [if_neg c116] at H
    exact absurd H (by simp)
   rw [if_pos c116] at H
   have c116b0 : decide (36 < (t277.size : Int)) = true := decide_eq_true c116
   have c116b1 : decide (36 < t277.size) = true := decide_eq_true (by omega)
   clear c116
   refine neg_first (p := ((bt t277 36) = 2)) (fun c118 => ?_) (fun c118 => ?_)
   ·rw [if_neg c118] at H
    have c118b0 : ((bt t277 36) == 2) = false := beq_eq_false_iff_ne.mpr c118
    have c118b1 : ((bt t277 36) != 2) = true := bne_iff_ne.mpr c118
    exact absurd ((Option.some.inj H).trans HT0.out) (by decide)
   rw [if_pos c118] at H
   have c118b0 : ((bt t277 36) == 2) = true := beq_iff_eq.mpr c118
   have c118b1 : ((bt t277 36) != 2) = false := bne_eq_false_iff_eq.mpr c118
   clear c118
   replace H := Option.bind_eq_some_iff.mp H
   obtain ⟨t308, A1190, H⟩ := H
   try dsimp only at H
   have A119 := Aside0.mk A1190
   clear A1190
   obtain rfl := Option.some.inj H
   have hnb120 := NB280_261.out
   have hnc120 := NB261_280.out
   have hnb121 := NB280_262.out
   have hnc121 := NB262_280.out
   have hnb122 := NB280_281.out
   have hnc122 := NB281_280.out
   have hcz123_0 : wc.cell? ⟨gb280, 0, none⟩ = some (.int .i64 t265) := (blk_cell BK280.out 0).trans rfl
   have hcz123_1 : wc.cell? ⟨gb280, 1, none⟩ = some (.bool t266) := (blk_cell BK280.out 1).trans rfl
   have hcz123_2 : wc.cell? ⟨gb280, 2, none⟩ = some (.bool t267) := (blk_cell BK280.out 2).trans rfl
   have hcz123_3 : wc.cell? ⟨gb280, 3, none⟩ = some (.bool t268) := (blk_cell BK280.out 3).trans rfl
   have hcz123_4 : wc.cell? ⟨gb280, 4, none⟩ = some (.bool t269) := (blk_cell BK280.out 4).trans rfl
   have hcz123_5 : wc.cell? ⟨gb280, 5, none⟩ = some (.bool t270) := (blk_cell BK280.out 5).trans rfl
   have hcz123_6 : wc.cell? ⟨gb280, 6, none⟩ = some (.int .i64 t271) := (blk_cell BK280.out 6).trans rfl
   have hcz123_7 : wc.cell? ⟨gb280, 7, none⟩ = some (.int .i64 t272) := (blk_cell BK280.out 7).trans rfl
   have hcz123_8 : wc.cell? ⟨gb280, 8, none⟩ = some (.string t273) := (blk_cell BK280.out 8).trans rfl
   have hcz123_9 : wc.cell? ⟨gb280, 9, none⟩ = some (.string t274) := (blk_cell BK280.out 9).trans rfl
   have hcz123_10 : wc.cell? ⟨gb280, 10, none⟩ = some (.int .u32 t275) := (blk_cell BK280.out 10).trans rfl
   have hcz123_11 : wc.cell? ⟨gb280, 11, none⟩ = some (.int .u32 t276) := (blk_cell BK280.out 11).trans rfl
   have hfz123_0 := blk_frozen BK280.out 0
   have hfz123_1 := blk_frozen BK280.out 1
   have hfz123_2 := blk_frozen BK280.out 2
   have hfz123_3 := blk_frozen BK280.out 3
   have hfz123_4 := blk_frozen BK280.out 4
   have hfz123_5 := blk_frozen BK280.out 5
   have hfz123_6 := blk_frozen BK280.out 6
   have hfz123_7 := blk_frozen BK280.out 7
   have hfz123_8 := blk_frozen BK280.out 8
   have hfz123_9 := blk_frozen BK280.out 9
   have hfz123_10 := blk_frozen BK280.out 10
   have hfz123_11 := blk_frozen BK280.out 11
   try go_wp2_with (first | ((with_reducible refine gate_dst (N := 10) rfl ?_); refine box_event ?hg (N := 10) ?hd (cs := #[.int .i64 0, .bool false, .bool false, .bool false, .bool false, .bool false, .int .i64 0, .int .i64 0, .string (⟨#[]⟩ : ByteArray), .string (⟨#[]⟩ : ByteArray), .int .u32 0, .int .u32 0]) (t := 27) ?hr ?_; (case hd => rfl); (case hg => rfl); (case hr => first | (go_simp; done) | (go_simp; rfl)); intro gb282 hg w124 hbox hb; have n0_ := Aside0.mk (blk_below (bk_ BK261) hb); have n1_ := Aside0.mk (blk_below (bk_ BK262) hb); have n2_ := Aside0.mk (blk_below (bk_ BK280) hb); have n3_ := Aside0.mk (blk_below (bk_ BK281) hb); have n4_ := Aside0.mk (below_step (hb_ HB) hb); have n5_ := Aside0.mk (hbox); have n6_ := Aside0.mk ((by rw [hg]; exact (below_size (hb_ HB)) : w.heap.size ≤ gb282)); have n7_ := Aside0.mk ((by rw [hg]; exact (below_size (hb_ HB)) : w.heap.size ≤ gb282)); have n8_ := Aside0.mk ((by rw [hg]; exact Nat.ne_of_lt (blk_lt (g := gb261) (o := .cells #[.int .i64 a0_0, .bool a0_1, .bool a0_2, .bool a0_3, .bool a0_4, .bool a0_5, .int .i64 a0_6, .int .i64 a0_7, .string a0_8, .string a0_9, .int .u32 a0_10, .int .u32 a0_11] 27 (0, 0)) (bk_ BK261)) : gb261 ≠ gb282)); have n9_ := Aside0.mk ((by rw [hg]; exact Nat.ne_of_gt (blk_lt (g := gb261) (o := .cells #[.int .i64 a0_0, .bool a0_1, .bool a0_2, .bool a0_3, .bool a0_4, .bool a0_5, .int .i64 a0_6, .int .i64 a0_7, .string a0_8, .string a0_9, .int .u32 a0_10, .int .u32 a0_11] 27 (0, 0)) (bk_ BK261)) : gb282 ≠ gb261)); have n10_ := Aside0.mk ((by rw [hg]; exact Nat.ne_of_lt (blk_lt (g := gb262) (o := .cells #[.string a2_0, .string a2_1] 35 (0, 0)) (bk_ BK262)) : gb262 ≠ gb282)); have n11_ := Aside0.mk ((by rw [hg]; exact Nat.ne_of_gt (blk_lt (g := gb262) (o := .cells #[.string a2_0, .string a2_1] 35 (0, 0)) (bk_ BK262)) : gb282 ≠ gb262)); have n12_ := Aside0.mk ((by rw [hg]; exact Nat.ne_of_lt (blk_lt (g := gb280) (o := .cells #[.int .i64 t265, .bool t266, .bool t267, .bool t268, .bool t269, .bool t270, .int .i64 t271, .int .i64 t272, .string t273, .string t274, .int .u32 t275, .int .u32 t276] 27 (0, 0)) (bk_ BK280)) : gb280 ≠ gb282)); have n13_ := Aside0.mk ((by rw [hg]; exact Nat.ne_of_gt (blk_lt (g := gb280) (o := .cells #[.int .i64 t265, .bool t266, .bool t267, .bool t268, .bool t269, .bool t270, .int .i64 t271, .int .i64 t272, .string t273, .string t274, .int .u32 t275, .int .u32 t276] 27 (0, 0)) (bk_ BK280)) : gb282 ≠ gb280)); have n14_ := Aside0.mk ((by rw [hg]; exact Nat.ne_of_lt (blk_lt (g := gb281) (o := .cells #[.string t277, .string t278] 35 (0, 0)) (bk_ BK281)) : gb281 ≠ gb282)); have n15_ := Aside0.mk ((by rw [hg]; exact Nat.ne_of_gt (blk_lt (g := gb281) (o := .cells #[.string t277, .string t278] 35 (0, 0)) (bk_ BK281)) : gb282 ≠ gb281)); clear BK261; clear BK262; clear BK280; clear BK281; clear HB; have BK261 := n0_; have BK262 := n1_; have BK280 := n2_; have BK281 := n3_; have HB := n4_; have BK282 := n5_; have GW282 := n6_; have GE282 := n7_; have NB261_282 := n8_; have NB282_261 := n9_; have NB262_282 := n10_; have NB282_262 := n11_; have NB280_282 := n12_; have NB282_280 := n13_; have NB281_282 := n14_; have NB282_281 := n15_; clear n0_ n1_ n2_ n3_ n4_ n5_ n6_ n7_ n8_ n9_ n10_ n11_ n12_ n13_ n14_ n15_; clear hb hbox hg; have hnb125 := NB282_261.out; have hnc125 := NB261_282.out; have hnb126 := NB282_262.out; have hnc126 := NB262_282.out; have hnb127 := NB282_280.out; have hnc127 := NB280_282.out; have hnb128 := NB282_281.out; have hnc128 := NB281_282.out; have hcz129_0 : w124.cell? ⟨gb282, 0, none⟩ = some (.int .i64 0) := (blk_cell BK282.out 0).trans rfl; have hcz129_1 : w124.cell? ⟨gb282, 1, none⟩ = some (.bool false) := (blk_cell BK282.out 1).trans rfl; have hcz129_2 : w124.cell? ⟨gb282, 2, none⟩ = some (.bool false) := (blk_cell BK282.out 2).trans rfl; have hcz129_3 : w124.cell? ⟨gb282, 3, none⟩ = some (.bool false) := (blk_cell BK282.out 3).trans rfl; have hcz129_4 : w124.cell? ⟨gb282, 4, none⟩ = some (.bool false) := (blk_cell BK282.out 4).trans rfl; have hcz129_5 : w124.cell? ⟨gb282, 5, none⟩ = some (.bool false) := (blk_cell BK282.out 5).trans rfl; have hcz129_6 : w124.cell? ⟨gb282, 6, none⟩ = some (.int .i64 0) := (blk_cell BK282.out 6).trans rfl; have hcz129_7 : w124.cell? ⟨gb282, 7, none⟩ = some (.int .i64 0) := (blk_cell BK282.out 7).trans rfl; have hcz129_8 : w124.cell? ⟨gb282, 8, none⟩ = some (.string (⟨#[]⟩ : ByteArray)) := (blk_cell BK282.out 8).trans rfl; have hcz129_9 : w124.cell? ⟨gb282, 9, none⟩ = some (.string (⟨#[]⟩ : ByteArray)) := (blk_cell BK282.out 9).trans rfl; have hcz129_10 : w124.cell? ⟨gb282, 10, none⟩ = some (.int .u32 0) := (blk_cell BK282.out 10).trans rfl; have hcz129_11 : w124.cell? ⟨gb282, 11, none⟩ = some (.int .u32 0) := (blk_cell BK282.out 11).trans rfl; have hfz129_0 := blk_frozen BK282.out 0; have hfz129_1 := blk_frozen BK282.out 1; have hfz129_2 := blk_frozen BK282.out 2; have hfz129_3 := blk_frozen BK282.out 3; have hfz129_4 := blk_frozen BK282.out 4; have hfz129_5 := blk_frozen BK282.out 5; have hfz129_6 := blk_frozen BK282.out 6; have hfz129_7 := blk_frozen BK282.out 7; have hfz129_8 := blk_frozen BK282.out 8; have hfz129_9 := blk_frozen BK282.out 9; have hfz129_10 := blk_frozen BK282.out 10; have hfz129_11 := blk_frozen BK282.out 11))
   have n0_ : Aside0 ((((((((((((((w124.setCell ⟨gb282, 0, none⟩ (.int .i64 t265)).setCell ⟨gb282, 1, none⟩ (.bool t266)).setCell ⟨gb282, 2, none⟩ (.bool t267)).setCell ⟨gb282, 3, none⟩ (.bool t268)).setCell ⟨gb282, 4, none⟩ (.bool t269)).setCell ⟨gb282, 5, none⟩ (.bool t270)).setCell ⟨gb282, 6, none⟩ (.int .i64 t271)).setCell ⟨gb282, 7, none⟩ (.int .i64 t272)).setCell ⟨gb282, 8, none⟩ (.string t273)).setCell ⟨gb282, 9, none⟩ (.string t274)).setCell ⟨gb282, 10, none⟩ (.int .u32 t275)).setCell ⟨gb282, 11, none⟩ (.int .u32 t276)).setCell ⟨gb282, 11, none⟩ (.int .u32 ((t276 - 1) % 4294967296))).heap[gb261]? = some (.cells #[.int .i64 a0_0, .bool a0_1, .bool a0_2, .bool a0_3, .bool a0_4, .bool a0_5, .int .i64 a0_6, .int .i64 a0_7, .string a0_8, .string a0_9, .int .u32 a0_10, .int .u32 a0_11] 27 (0, 0))) := ⟨by (with_reducible repeat (first | refine blk_drewN ?_ _ | refine blk_drew ?_ | refine blk_alloc ?_ _ | refine blk_far ?_ NB261_282.out _)); exact BK261.out⟩
   have n1_ : Aside0 ((((((((((((((w124.setCell ⟨gb282, 0, none⟩ (.int .i64 t265)).setCell ⟨gb282, 1, none⟩ (.bool t266)).setCell ⟨gb282, 2, none⟩ (.bool t267)).setCell ⟨gb282, 3, none⟩ (.bool t268)).setCell ⟨gb282, 4, none⟩ (.bool t269)).setCell ⟨gb282, 5, none⟩ (.bool t270)).setCell ⟨gb282, 6, none⟩ (.int .i64 t271)).setCell ⟨gb282, 7, none⟩ (.int .i64 t272)).setCell ⟨gb282, 8, none⟩ (.string t273)).setCell ⟨gb282, 9, none⟩ (.string t274)).setCell ⟨gb282, 10, none⟩ (.int .u32 t275)).setCell ⟨gb282, 11, none⟩ (.int .u32 t276)).setCell ⟨gb282, 11, none⟩ (.int .u32 ((t276 - 1) % 4294967296))).heap[gb262]? = some (.cells #[.string a2_0, .string a2_1] 35 (0, 0))) := ⟨by (with_reducible repeat (first | refine blk_drewN ?_ _ | refine blk_drew ?_ | refine blk_alloc ?_ _ | refine blk_far ?_ NB262_282.out _)); exact BK262.out⟩
   have n2_ : Aside0 ((((((((((((((w124.setCell ⟨gb282, 0, none⟩ (.int .i64 t265)).setCell ⟨gb282, 1, none⟩ (.bool t266)).setCell ⟨gb282, 2, none⟩ (.bool t267)).setCell ⟨gb282, 3, none⟩ (.bool t268)).setCell ⟨gb282, 4, none⟩ (.bool t269)).setCell ⟨gb282, 5, none⟩ (.bool t270)).setCell ⟨gb282, 6, none⟩ (.int .i64 t271)).setCell ⟨gb282, 7, none⟩ (.int .i64 t272)).setCell ⟨gb282, 8, none⟩ (.string t273)).setCell ⟨gb282, 9, none⟩ (.string t274)).setCell ⟨gb282, 10, none⟩ (.int .u32 t275)).setCell ⟨gb282, 11, none⟩ (.int .u32 t276)).setCell ⟨gb282, 11, none⟩ (.int .u32 ((t276 - 1) % 4294967296))).heap[gb280]? = some (.cells #[.int .i64 t265, .bool t266, .bool t267, .bool t268, .bool t269, .bool t270, .int .i64 t271, .int .i64 t272, .string t273, .string t274, .int .u32 t275, .int .u32 t276] 27 (0, 0))) := ⟨by (with_reducible repeat (first | refine blk_drewN ?_ _ | refine blk_drew ?_ | refine blk_alloc ?_ _ | refine blk_far ?_ NB280_282.out _)); exact BK280.out⟩
   have n3_ : Aside0 ((((((((((((((w124.setCell ⟨gb282, 0, none⟩ (.int .i64 t265)).setCell ⟨gb282, 1, none⟩ (.bool t266)).setCell ⟨gb282, 2, none⟩ (.bool t267)).setCell ⟨gb282, 3, none⟩ (.bool t268)).setCell ⟨gb282, 4, none⟩ (.bool t269)).setCell ⟨gb282, 5, none⟩ (.bool t270)).setCell ⟨gb282, 6, none⟩ (.int .i64 t271)).setCell ⟨gb282, 7, none⟩ (.int .i64 t272)).setCell ⟨gb282, 8, none⟩ (.string t273)).setCell ⟨gb282, 9, none⟩ (.string t274)).setCell ⟨gb282, 10, none⟩ (.int .u32 t275)).setCell ⟨gb282, 11, none⟩ (.int .u32 t276)).setCell ⟨gb282, 11, none⟩ (.int .u32 ((t276 - 1) % 4294967296))).heap[gb281]? = some (.cells #[.string t277, .string t278] 35 (0, 0))) := ⟨by (with_reducible repeat (first | refine blk_drewN ?_ _ | refine blk_drew ?_ | refine blk_alloc ?_ _ | refine blk_far ?_ NB281_282.out _)); exact BK281.out⟩
   have n4_ : Aside0 ((((((((((((((w124.setCell ⟨gb282, 0, none⟩ (.int .i64 t265)).setCell ⟨gb282, 1, none⟩ (.bool t266)).setCell ⟨gb282, 2, none⟩ (.bool t267)).setCell ⟨gb282, 3, none⟩ (.bool t268)).setCell ⟨gb282, 4, none⟩ (.bool t269)).setCell ⟨gb282, 5, none⟩ (.bool t270)).setCell ⟨gb282, 6, none⟩ (.int .i64 t271)).setCell ⟨gb282, 7, none⟩ (.int .i64 t272)).setCell ⟨gb282, 8, none⟩ (.string t273)).setCell ⟨gb282, 9, none⟩ (.string t274)).setCell ⟨gb282, 10, none⟩ (.int .u32 t275)).setCell ⟨gb282, 11, none⟩ (.int .u32 t276)).setCell ⟨gb282, 11, none⟩ (.int .u32 ((t276 - 1) % 4294967296))).heap[gb282]? = some (.cells #[.int .i64 t265, .bool t266, .bool t267, .bool t268, .bool t269, .bool t270, .int .i64 t271, .int .i64 t272, .string t273, .string t274, .int .u32 t275, .int .u32 ((t276 - 1) % 4294967296)] 27 (0, 0))) := ⟨by (with_reducible repeat (first | refine blk_drewN ?_ _ | refine blk_drew ?_ | refine blk_alloc ?_ _)); refine blk_put (cs := #[.int .i64 t265, .bool t266, .bool t267, .bool t268, .bool t269, .bool t270, .int .i64 t271, .int .i64 t272, .string t273, .string t274, .int .u32 t275, .int .u32 t276]) ?_ 11 _ rfl; (with_reducible repeat (first | refine blk_drewN ?_ _ | refine blk_drew ?_ | refine blk_alloc ?_ _)); refine blk_put (cs := #[.int .i64 t265, .bool t266, .bool t267, .bool t268, .bool t269, .bool t270, .int .i64 t271, .int .i64 t272, .string t273, .string t274, .int .u32 t275, .int .u32 0]) ?_ 11 _ rfl; (with_reducible repeat (first | refine blk_drewN ?_ _ | refine blk_drew ?_ | refine blk_alloc ?_ _)); refine blk_put (cs := #[.int .i64 t265, .bool t266, .bool t267, .bool t268, .bool t269, .bool t270, .int .i64 t271, .int .i64 t272, .string t273, .string t274, .int .u32 0, .int .u32 0]) ?_ 10 _ rfl; (with_reducible repeat (first | refine blk_drewN ?_ _ | refine blk_drew ?_ | refine blk_alloc ?_ _)); refine blk_put (cs := #[.int .i64 t265, .bool t266, .bool t267, .bool t268, .bool t269, .bool t270, .int .i64 t271, .int .i64 t272, .string t273, .string (⟨#[]⟩ : ByteArray), .int .u32 0, .int .u32 0]) ?_ 9 _ rfl; (with_reducible repeat (first | refine blk_drewN ?_ _ | refine blk_drew ?_ | refine blk_alloc ?_ _)); refine blk_put (cs := #[.int .i64 t265, .bool t266, .bool t267, .bool t268, .bool t269, .bool t270, .int .i64 t271, .int .i64 t272, .string (⟨#[]⟩ : ByteArray), .string (⟨#[]⟩ : ByteArray), .int .u32 0, .int .u32 0]) ?_ 8 _ rfl; (with_reducible repeat (first | refine blk_drewN ?_ _ | refine blk_drew ?_ | refine blk_alloc ?_ _)); refine blk_put (cs := #[.int .i64 t265, .bool t266, .bool t267, .bool t268, .bool t269, .bool t270, .int .i64 t271, .int .i64 0, .string (⟨#[]⟩ : ByteArray), .string (⟨#[]⟩ : ByteArray), .int .u32 0, .int .u32 0]) ?_ 7 _ rfl; (with_reducible repeat (first | refine blk_drewN ?_ _ | refine blk_drew ?_ | refine blk_alloc ?_ _)); refine blk_put (cs := #[.int .i64 t265, .bool t266, .bool t267, .bool t268, .bool t269, .bool t270, .int .i64 0, .int .i64 0, .string (⟨#[]⟩ : ByteArray), .string (⟨#[]⟩ : ByteArray), .int .u32 0, .int .u32 0]) ?_ 6 _ rfl; (with_reducible repeat (first | refine blk_drewN ?_ _ | refine blk_drew ?_ | refine blk_alloc ?_ _)); refine blk_put (cs := #[.int .i64 t265, .bool t266, .bool t267, .bool t268, .bool t269, .bool false, .int .i64 0, .int .i64 0, .string (⟨#[]⟩ : ByteArray), .string (⟨#[]⟩ : ByteArray), .int .u32 0, .int .u32 0]) ?_ 5 _ rfl; (with_reducible repeat (first | refine blk_drewN ?_ _ | refine blk_drew ?_ | refine blk_alloc ?_ _)); refine blk_put (cs := #[.int .i64 t265, .bool t266, .bool t267, .bool t268, .bool false, .bool false, .int .i64 0, .int .i64 0, .string (⟨#[]⟩ : ByteArray), .string (⟨#[]⟩ : ByteArray), .int .u32 0, .int .u32 0]) ?_ 4 _ rfl; (with_reducible repeat (first | refine blk_drewN ?_ _ | refine blk_drew ?_ | refine blk_alloc ?_ _)); refine blk_put (cs := #[.int .i64 t265, .bool t266, .bool t267, .bool false, .bool false, .bool false, .int .i64 0, .int .i64 0, .string (⟨#[]⟩ : ByteArray), .string (⟨#[]⟩ : ByteArray), .int .u32 0, .int .u32 0]) ?_ 3 _ rfl; (with_reducible repeat (first | refine blk_drewN ?_ _ | refine blk_drew ?_ | refine blk_alloc ?_ _)); refine blk_put (cs := #[.int .i64 t265, .bool t266, .bool false, .bool false, .bool false, .bool false, .int .i64 0, .int .i64 0, .string (⟨#[]⟩ : ByteArray), .string (⟨#[]⟩ : ByteArray), .int .u32 0, .int .u32 0]) ?_ 2 _ rfl; (with_reducible repeat (first | refine blk_drewN ?_ _ | refine blk_drew ?_ | refine blk_alloc ?_ _)); refine blk_put (cs := #[.int .i64 t265, .bool false, .bool false, .bool false, .bool false, .bool false, .int .i64 0, .int .i64 0, .string (⟨#[]⟩ : ByteArray), .string (⟨#[]⟩ : ByteArray), .int .u32 0, .int .u32 0]) ?_ 1 _ rfl; (with_reducible repeat (first | refine blk_drewN ?_ _ | refine blk_drew ?_ | refine blk_alloc ?_ _)); refine blk_put (cs := #[.int .i64 0, .bool false, .bool false, .bool false, .bool false, .bool false, .int .i64 0, .int .i64 0, .string (⟨#[]⟩ : ByteArray), .string (⟨#[]⟩ : ByteArray), .int .u32 0, .int .u32 0]) ?_ 0 _ rfl; (with_reducible repeat (first | refine blk_drewN ?_ _ | refine blk_drew ?_ | refine blk_alloc ?_ _)); exact BK282.out⟩
   have n5_ : Aside0 (Below w.heap.size w (((((((((((((w124.setCell ⟨gb282, 0, none⟩ (.int .i64 t265)).setCell ⟨gb282, 1, none⟩ (.bool t266)).setCell ⟨gb282, 2, none⟩ (.bool t267)).setCell ⟨gb282, 3, none⟩ (.bool t268)).setCell ⟨gb282, 4, none⟩ (.bool t269)).setCell ⟨gb282, 5, none⟩ (.bool t270)).setCell ⟨gb282, 6, none⟩ (.int .i64 t271)).setCell ⟨gb282, 7, none⟩ (.int .i64 t272)).setCell ⟨gb282, 8, none⟩ (.string t273)).setCell ⟨gb282, 9, none⟩ (.string t274)).setCell ⟨gb282, 10, none⟩ (.int .u32 t275)).setCell ⟨gb282, 11, none⟩ (.int .u32 t276)).setCell ⟨gb282, 11, none⟩ (.int .u32 ((t276 - 1) % 4294967296)))) := ⟨hb_ HB⟩
   (try clear BK261)
   (try clear BK262)
   (try clear BK280)
   (try clear BK281)
   (try clear BK282)
   (try clear HB)
   generalize (((((((((((((w124.setCell ⟨gb282, 0, none⟩ (.int .i64 t265)).setCell ⟨gb282, 1, none⟩ (.bool t266)).setCell ⟨gb282, 2, none⟩ (.bool t267)).setCell ⟨gb282, 3, none⟩ (.bool t268)).setCell ⟨gb282, 4, none⟩ (.bool t269)).setCell ⟨gb282, 5, none⟩ (.bool t270)).setCell ⟨gb282, 6, none⟩ (.int .i64 t271)).setCell ⟨gb282, 7, none⟩ (.int .i64 t272)).setCell ⟨gb282, 8, none⟩ (.string t273)).setCell ⟨gb282, 9, none⟩ (.string t274)).setCell ⟨gb282, 10, none⟩ (.int .u32 t275)).setCell ⟨gb282, 11, none⟩ (.int .u32 t276)).setCell ⟨gb282, 11, none⟩ (.int .u32 ((t276 - 1) % 4294967296))) = w130 at n0_ n1_ n2_ n3_ n4_ n5_ ⊢
   have BK261 := n0_
   have BK262 := n1_
   have BK280 := n2_
   have BK281 := n3_
   have BK282 := n4_
   have HB := n5_
   clear n0_ n1_ n2_ n3_ n4_ n5_
   have n0_ := Aside0.mk (blk_drew BK261.out)
   have n1_ := Aside0.mk (blk_drew BK262.out)
   have n2_ := Aside0.mk (blk_drew BK280.out)
   have n3_ := Aside0.mk (blk_drew BK281.out)
   have n4_ := Aside0.mk (blk_drew BK282.out)
   have n5_ := Aside0.mk (below_drew1 HB.out)
   clear BK261
   clear BK262
   clear BK280
   clear BK281
   clear BK282
   clear HB
   have BK261 := n0_
   have BK262 := n1_
   have BK280 := n2_
   have BK281 := n3_
   have BK282 := n4_
   have HB := n5_
   clear n0_ n1_ n2_ n3_ n4_ n5_
   refine start_ (n := 26) (S := fun w' => w'.cell? ⟨gb282, 0, none⟩ = some (.int .i64 t265) ∧ w'.cell? ⟨gb282, 1, none⟩ = some (.bool t266) ∧ w'.cell? ⟨gb282, 2, none⟩ = some (.bool t267) ∧ w'.cell? ⟨gb282, 3, none⟩ = some (.bool t268) ∧ w'.cell? ⟨gb282, 4, none⟩ = some (.bool t269) ∧ w'.cell? ⟨gb282, 5, none⟩ = some (.bool t270) ∧ w'.cell? ⟨gb282, 6, none⟩ = some (.int .i64 t271) ∧ w'.cell? ⟨gb282, 7, none⟩ = some (.int .i64 t272) ∧ w'.cell? ⟨gb282, 8, none⟩ = some (.string t273) ∧ w'.cell? ⟨gb282, 9, none⟩ = some (.string t274) ∧ w'.cell? ⟨gb282, 10, none⟩ = some (.int .u32 t275) ∧ w'.cell? ⟨gb282, 11, none⟩ = some (.int .u32 ((t276 - 1) % 4294967296)) ∧ w'.cell? ⟨gb261, 0, none⟩ = some (.int .i64 a0_0) ∧ w'.cell? ⟨gb261, 1, none⟩ = some (.bool a0_1) ∧ w'.cell? ⟨gb261, 2, none⟩ = some (.bool a0_2) ∧ w'.cell? ⟨gb261, 3, none⟩ = some (.bool a0_3) ∧ w'.cell? ⟨gb261, 4, none⟩ = some (.bool a0_4) ∧ w'.cell? ⟨gb261, 5, none⟩ = some (.bool a0_5) ∧ w'.cell? ⟨gb261, 6, none⟩ = some (.int .i64 a0_6) ∧ w'.cell? ⟨gb261, 7, none⟩ = some (.int .i64 a0_7) ∧ w'.cell? ⟨gb261, 8, none⟩ = some (.string a0_8) ∧ w'.cell? ⟨gb261, 9, none⟩ = some (.string a0_9) ∧ w'.cell? ⟨gb261, 10, none⟩ = some (.int .u32 a0_10) ∧ w'.cell? ⟨gb261, 11, none⟩ = some (.int .u32 a0_11) ∧ w'.cell? ⟨gb281, 0, none⟩ = some (.string t277) ∧ w'.cell? ⟨gb281, 1, none⟩ = some (.string t278)) (ds := []) d4x0 (by kernel_rfl) rfl rfl ⟨(blk_cell BK282.out 0).trans rfl, (blk_cell BK282.out 1).trans rfl, (blk_cell BK282.out 2).trans rfl, (blk_cell BK282.out 3).trans rfl, (blk_cell BK282.out 4).trans rfl, (blk_cell BK282.out 5).trans rfl, (blk_cell BK282.out 6).trans rfl, (blk_cell BK282.out 7).trans rfl, (blk_cell BK282.out 8).trans rfl, (blk_cell BK282.out 9).trans rfl, (blk_cell BK282.out 10).trans rfl, (blk_cell BK282.out 11).trans rfl, (blk_cell BK261.out 0).trans rfl, (blk_cell BK261.out 1).trans rfl, (blk_cell BK261.out 2).trans rfl, (blk_cell BK261.out 3).trans rfl, (blk_cell BK261.out 4).trans rfl, (blk_cell BK261.out 5).trans rfl, (blk_cell BK261.out 6).trans rfl, (blk_cell BK261.out 7).trans rfl, (blk_cell BK261.out 8).trans rfl, (blk_cell BK261.out 9).trans rfl, (blk_cell BK261.out 10).trans rfl, (blk_cell BK261.out 11).trans rfl, (blk_cell BK281.out 0).trans rfl, (blk_cell BK281.out 1).trans rfl⟩ (fun hHeld => ?_); refine with_tabW headgatelaw22_LoginThrough.tab9 headgatelaw22_LoginThrough.bits9 (fun HT_ HW_ => ?_)
   generalize w130.drew = w131 at BK261 BK262 BK280 BK281 BK282 HB hHeld ⊢
   refine ptk_ 0 (some 43) d4x1 HT_.out HW_.out hHeld ?_
   refine ptk_ 2 (some 45) d4x2 HT_.out HW_.out hHeld ?_
   refine one_ (i := 1) (N := some 44) d4x3 rfl rfl (one_of HT_.out (by kernel_rfl)) (by decide) (fun K hK => ?_)
   refine goes_ Tryz.func12 (by kernel_rfl) rfl #[.agg #[.int .i64 t265, .bool t266, .bool t267, .bool t268, .bool t269, .bool t270, .int .i64 t271, .int .i64 t272, .string t273, .string t274, .int .u32 t275, .int .u32 ((t276 - 1) % 4294967296)]] (by rfl) rfl rfl (by (try simp only [List.map_toArray, List.map_cons, List.map_nil]); first | done | rfl | (simp only [List.length_drop, List.length_take]; rfl)) ?_
   with_reducible refine (headgatelaw22_Own.calls t265 t266 t267 t268 t269 t270 t271 t272 t273 t274 t275 ((t276 - 1) % 4294967296) t283 t284 t285 t286 t287 t288 t289 t290 t291 t292 t293 t294 _ A108.out).mono ?_
   rintro e w132 ⟨rfl, hb⟩
   refine ⟨_, rfl, ?_⟩
   have n0_ := Aside0.mk (blk_below (bk_ BK261) hb)
   have n1_ := Aside0.mk (blk_below (bk_ BK262) hb)
   have n2_ := Aside0.mk (blk_below (bk_ BK280) hb)
   have n3_ := Aside0.mk (blk_below (bk_ BK281) hb)
   have n4_ := Aside0.mk (blk_below (bk_ BK282) hb)
   have n5_ := Aside0.mk (below_step (hb_ HB) hb)
   clear BK261
   clear BK262
   clear BK280
   clear BK281
   clear BK282
   clear HB
   have BK261 := n0_
   have BK262 := n1_
   have BK280 := n2_
   have BK281 := n3_
   have BK282 := n4_
   have HB := n5_
   clear n0_ n1_ n2_ n3_ n4_ n5_
   (try clear hb)
   (try clear hb2)
   (try clear hk)
   (try clear hi)
   refine hK.out _ _ ⟨(blk_cell BK282.out 0).trans rfl, (blk_cell BK282.out 1).trans rfl, (blk_cell BK282.out 2).trans rfl, (blk_cell BK282.out 3).trans rfl, (blk_cell BK282.out 4).trans rfl, (blk_cell BK282.out 5).trans rfl, (blk_cell BK282.out 6).trans rfl, (blk_cell BK282.out 7).trans rfl, (blk_cell BK282.out 8).trans rfl, (blk_cell BK282.out 9).trans rfl, (blk_cell BK282.out 10).trans rfl, (blk_cell BK282.out 11).trans rfl, (blk_cell BK261.out 0).trans rfl, (blk_cell BK261.out 1).trans rfl, (blk_cell BK261.out 2).trans rfl, (blk_cell BK261.out 3).trans rfl, (blk_cell BK261.out 4).trans rfl, (blk_cell BK261.out 5).trans rfl, (blk_cell BK261.out 6).trans rfl, (blk_cell BK261.out 7).trans rfl, (blk_cell BK261.out 8).trans rfl, (blk_cell BK261.out 9).trans rfl, (blk_cell BK261.out 10).trans rfl, (blk_cell BK261.out 11).trans rfl, (blk_cell BK281.out 0).trans rfl, (blk_cell BK281.out 1).trans rfl⟩ (fun hHeld => ?_)
   clear hK K
   refine norm_ (a' := ?_) ?_ ?_
   rotate_left
   ·show Act.put _ (some 44) _ = _
    simp only [Act.put, la_, lb_, lc_, i64_w, i32_w]
    rfl
   refine one_ (i := 3) (N := some 46) d4x4 rfl rfl (one_of HT_.out (by kernel_rfl)) (by decide) (fun K hK => ?_)
   refine goes_ Tryz.func12 (by kernel_rfl) rfl #[.agg #[.int .i64 a0_0, .bool a0_1, .bool a0_2, .bool a0_3, .bool a0_4, .bool a0_5, .int .i64 a0_6, .int .i64 a0_7, .string a0_8, .string a0_9, .int .u32 a0_10, .int .u32 a0_11]] (by rfl) rfl rfl (by (try simp only [List.map_toArray, List.map_cons, List.map_nil]); first | done | rfl | (simp only [List.length_drop, List.length_take]; rfl)) ?_
   with_reducible refine (headgatelaw22_Own.calls a0_0 a0_1 a0_2 a0_3 a0_4 a0_5 a0_6 a0_7 a0_8 a0_9 a0_10 a0_11 t295 t296 t297 t298 t299 t300 t301 t302 t303 t304 t305 t306 _ A109.out).mono ?_
   rintro e w133 ⟨rfl, hb⟩
   refine ⟨_, rfl, ?_⟩
   have n0_ := Aside0.mk (blk_below (bk_ BK261) hb)
   have n1_ := Aside0.mk (blk_below (bk_ BK262) hb)
   have n2_ := Aside0.mk (blk_below (bk_ BK280) hb)
   have n3_ := Aside0.mk (blk_below (bk_ BK281) hb)
   have n4_ := Aside0.mk (blk_below (bk_ BK282) hb)
   have n5_ := Aside0.mk (below_step (hb_ HB) hb)
   clear BK261
   clear BK262
   clear BK280
   clear BK281
   clear BK282
   clear HB
   have BK261 := n0_
   have BK262 := n1_
   have BK280 := n2_
   have BK281 := n3_
   have BK282 := n4_
   have HB := n5_
   clear n0_ n1_ n2_ n3_ n4_ n5_
   (try clear hb)
   (try clear hb2)
   (try clear hk)
   (try clear hi)
   refine hK.out _ _ ⟨(blk_cell BK282.out 0).trans rfl, (blk_cell BK282.out 1).trans rfl, (blk_cell BK282.out 2).trans rfl, (blk_cell BK282.out 3).trans rfl, (blk_cell BK282.out 4).trans rfl, (blk_cell BK282.out 5).trans rfl, (blk_cell BK282.out 6).trans rfl, (blk_cell BK282.out 7).trans rfl, (blk_cell BK282.out 8).trans rfl, (blk_cell BK282.out 9).trans rfl, (blk_cell BK282.out 10).trans rfl, (blk_cell BK282.out 11).trans rfl, (blk_cell BK261.out 0).trans rfl, (blk_cell BK261.out 1).trans rfl, (blk_cell BK261.out 2).trans rfl, (blk_cell BK261.out 3).trans rfl, (blk_cell BK261.out 4).trans rfl, (blk_cell BK261.out 5).trans rfl, (blk_cell BK261.out 6).trans rfl, (blk_cell BK261.out 7).trans rfl, (blk_cell BK261.out 8).trans rfl, (blk_cell BK261.out 9).trans rfl, (blk_cell BK261.out 10).trans rfl, (blk_cell BK261.out 11).trans rfl, (blk_cell BK281.out 0).trans rfl, (blk_cell BK281.out 1).trans rfl⟩ (fun hHeld => ?_)
   clear hK K
   refine norm_ (a' := ?_) ?_ ?_
   rotate_left
   ·show Act.put _ (some 46) _ = _
    simp only [Act.put, la_, lb_, lc_, i64_w, i32_w]
    rfl
   refine one_ (i := 4) (N := some 47) d4x5 rfl rfl (one_of HT_.out (by kernel_rfl)) (by decide) (fun K hK => ?_)
   refine goes_ Tryz.func11 (by kernel_rfl) rfl #[.agg #[.int .i64 t283, .bool t284, .bool t285, .bool t286, .bool t287, .bool t288, .int .i64 t289, .int .i64 t290, .string t291, .string t292, .int .u32 t293, .int .u32 t294], .agg #[.int .i64 t295, .bool t296, .bool t297, .bool t298, .bool t299, .bool t300, .int .i64 t301, .int .i64 t302, .string t303, .string t304, .int .u32 t305, .int .u32 t306]] (by rfl) rfl rfl (by (try simp only [List.map_toArray, List.map_cons, List.map_nil]); first | done | rfl | (simp only [List.length_drop, List.length_take]; rfl)) ?_
   with_reducible refine (headgateref22_Same.calls t283 t284 t285 t286 t287 t288 t289 t290 t291 t292 t293 t294 t295 t296 t297 t298 t299 t300 t301 t302 t303 t304 t305 t306 true _ A110.out).mono ?_
   rintro e w134 ⟨rfl, hb⟩
   refine ⟨_, rfl, ?_⟩
   have n0_ := Aside0.mk (blk_below (bk_ BK261) hb)
   have n1_ := Aside0.mk (blk_below (bk_ BK262) hb)
   have n2_ := Aside0.mk (blk_below (bk_ BK280) hb)
   have n3_ := Aside0.mk (blk_below (bk_ BK281) hb)
   have n4_ := Aside0.mk (blk_below (bk_ BK282) hb)
   have n5_ := Aside0.mk (below_step (hb_ HB) hb)
   clear BK261
   clear BK262
   clear BK280
   clear BK281
   clear BK282
   clear HB
   have BK261 := n0_
   have BK262 := n1_
   have BK280 := n2_
   have BK281 := n3_
   have BK282 := n4_
   have HB := n5_
   clear n0_ n1_ n2_ n3_ n4_ n5_
   (try clear hb)
   (try clear hb2)
   (try clear hk)
   (try clear hi)
   have p114 : 0 ≤ (1 : Int) := (by omega)
   have q114 : 1 < t277.size := (by have : (1 : Int) < (t277.size : Int) := of_decide_eq_true (by first | (with_reducible assumption) | assumption); omega)
   have hx114 : ∀ h : 1 < t277.size, ((t277[1]'h).toNat : Int) = bt t277 1 := bt_at t277 1
   clear p114
   have qi114 : (1 < (t277.size : Int)) = True := eq_true (of_decide_eq_true (by first | (with_reducible assumption) | assumption))
   replace q114 := eq_true q114
   have p117 : 0 ≤ (36 : Int) := (by omega)
   have q117 : 36 < t277.size := (by have : (36 : Int) < (t277.size : Int) := of_decide_eq_true (by first | (with_reducible assumption) | assumption); omega)
   have hx117 : ∀ h : 36 < t277.size, ((t277[36]'h).toNat : Int) = bt t277 36 := bt_at t277 36
   clear p117
   have qi117 : (36 < (t277.size : Int)) = True := eq_true (of_decide_eq_true (by first | (with_reducible assumption) | assumption))
   replace q117 := eq_true q117
   refine hK.out _ _ ⟨(blk_cell BK282.out 0).trans rfl, (blk_cell BK282.out 1).trans rfl, (blk_cell BK282.out 2).trans rfl, (blk_cell BK282.out 3).trans rfl, (blk_cell BK282.out 4).trans rfl, (blk_cell BK282.out 5).trans rfl, (blk_cell BK282.out 6).trans rfl, (blk_cell BK282.out 7).trans rfl, (blk_cell BK282.out 8).trans rfl, (blk_cell BK282.out 9).trans rfl, (blk_cell BK282.out 10).trans rfl, (blk_cell BK282.out 11).trans rfl, (blk_cell BK261.out 0).trans rfl, (blk_cell BK261.out 1).trans rfl, (blk_cell BK261.out 2).trans rfl, (blk_cell BK261.out 3).trans rfl, (blk_cell BK261.out 4).trans rfl, (blk_cell BK261.out 5).trans rfl, (blk_cell BK261.out 6).trans rfl, (blk_cell BK261.out 7).trans rfl, (blk_cell BK261.out 8).trans rfl, (blk_cell BK261.out 9).trans rfl, (blk_cell BK261.out 10).trans rfl, (blk_cell BK261.out 11).trans rfl, (blk_cell BK281.out 0).trans rfl, (blk_cell BK281.out 1).trans rfl⟩ (fun hHeld => ?_)
   clear hK K
   refine norm_ (a' := ?_) ?_ ?_
   rotate_left
   ·show Act.put _ (some 47) _ = _
    simp only [Act.put, la_, lb_, lc_, i64_w, i32_w]
    rfl
   refine pon_ 5 (some 48) d4x6 HT_.out ?_
   refine pon_ 6 (some 49) d4x7 HT_.out ?_
   refine ptk_ 7 (some 50) d4x8 HT_.out HW_.out hHeld ?_
   refine pon_ 8 (some 51) d4x9 HT_.out ?_
   refine pon_ 9 (some 52) d4x10 HT_.out ?_
   refine pon_ 10 (some 53) d4x11 HT_.out ?_
   refine pon_ 11 (some 54) d4x12 HT_.out ?_
   refine ptk_ 12 (some 55) d4x13 HT_.out HW_.out hHeld ?_
   refine ptk_ 13 (some 56) d4x14 HT_.out HW_.out hHeld ?_
   refine pon_ 14 (some 57) d4x15 HT_.out ?_
   refine pon_ 15 (some 58) d4x16 HT_.out ?_
   refine pon_ 16 (some 59) d4x17 HT_.out ?_
   refine pon_ 17 (some 60) d4x18 HT_.out ?_
   refine ptk_ 18 (some 61) d4x19 HT_.out HW_.out hHeld ?_
   refine ptk_ 19 (some 62) d4x20 HT_.out HW_.out hHeld ?_
   refine pon_ 20 (some 63) d4x21 HT_.out ?_
   refine pon_ 21 (some 64) d4x22 HT_.out ?_
   refine pon_ 22 (some 65) d4x23 HT_.out ?_
   refine one_ (i := 23) (N := some 66) d4x24 rfl rfl (one_of HT_.out (by kernel_rfl)) (by decide) (fun K hK => ?_)
   refine goes_ Tryz.func8 (by kernel_rfl) rfl #[] (by rfl) rfl rfl (by (try simp only [List.map_toArray, List.map_cons, List.map_nil]); first | done | rfl | (simp only [List.length_drop, List.length_take]; rfl)) ?_
   with_reducible refine (headgatelaw22_wakes.calls kj14  t308 _ ?side1 A119.out).mono ?_
   (case side1 => first | ((refine Glob.keep HG.out ?_); (repeat (first | (with_reducible first | exact HB.out | apply below_alloc | apply pw_below_drewN | apply below_drew1 | refine below_set ?_ GE261.out | refine below_set ?_ GE262.out | refine below_set ?_ GE280.out | refine below_set ?_ GE281.out | refine below_set ?_ GE282.out) | exact HB.out)); done) | exact HG.out)
   rintro e w135 ⟨rfl, hb⟩
   refine ⟨_, rfl, ?_⟩
   have n0_ := Aside0.mk (blk_below (bk_ BK261) hb)
   have n1_ := Aside0.mk (blk_below (bk_ BK262) hb)
   have n2_ := Aside0.mk (blk_below (bk_ BK280) hb)
   have n3_ := Aside0.mk (blk_below (bk_ BK281) hb)
   have n4_ := Aside0.mk (blk_below (bk_ BK282) hb)
   have n5_ := Aside0.mk (below_step (hb_ HB) hb)
   clear BK261
   clear BK262
   clear BK280
   clear BK281
   clear BK282
   clear HB
   have BK261 := n0_
   have BK262 := n1_
   have BK280 := n2_
   have BK281 := n3_
   have BK282 := n4_
   have HB := n5_
   clear n0_ n1_ n2_ n3_ n4_ n5_
   (try clear hb)
   (try clear hb2)
   (try clear hk)
   (try clear hi)
   refine hK.out _ _ ⟨(blk_cell BK282.out 0).trans rfl, (blk_cell BK282.out 1).trans rfl, (blk_cell BK282.out 2).trans rfl, (blk_cell BK282.out 3).trans rfl, (blk_cell BK282.out 4).trans rfl, (blk_cell BK282.out 5).trans rfl, (blk_cell BK282.out 6).trans rfl, (blk_cell BK282.out 7).trans rfl, (blk_cell BK282.out 8).trans rfl, (blk_cell BK282.out 9).trans rfl, (blk_cell BK282.out 10).trans rfl, (blk_cell BK282.out 11).trans rfl, (blk_cell BK261.out 0).trans rfl, (blk_cell BK261.out 1).trans rfl, (blk_cell BK261.out 2).trans rfl, (blk_cell BK261.out 3).trans rfl, (blk_cell BK261.out 4).trans rfl, (blk_cell BK261.out 5).trans rfl, (blk_cell BK261.out 6).trans rfl, (blk_cell BK261.out 7).trans rfl, (blk_cell BK261.out 8).trans rfl, (blk_cell BK261.out 9).trans rfl, (blk_cell BK261.out 10).trans rfl, (blk_cell BK261.out 11).trans rfl, (blk_cell BK281.out 0).trans rfl, (blk_cell BK281.out 1).trans rfl⟩ (fun hHeld => ?_)
   clear hK K
   refine norm_ (a' := ?_) ?_ ?_
   rotate_left
   ·show Act.put _ (some 66) _ = _
    simp only [Act.put, la_, lb_, lc_, i64_w, i32_w]
    rfl
   refine pon_ 24 (some 67) d4x25 HT_.out ?_
   refine pon_ 25 (some 6) d4x26 HT_.out ?_
   refine done_ (done_of HT_.out (by kernel_rfl)) ?_
   try go_wp2
   go_ret
   exact ⟨by first | rfl | (simp [errW_none, errW_some] <;> rfl) | (simp [*, errW_none, errW_some] <;> rfl) | (simp [bt, *]; done) | (unfold bt; simp [*]; done), by repeat (first | (with_reducible first | exact HB.out | apply below_alloc | apply pw_below_drewN | apply below_drew1 | refine below_set ?_ GE261.out | refine below_set ?_ GE262.out | refine below_set ?_ GE280.out | refine below_set ?_ GE281.out | refine below_set ?_ GE282.out) | exact HB.out)⟩

end Go.Proofs.YthglbmihbmneaaaGreatDoor.P
