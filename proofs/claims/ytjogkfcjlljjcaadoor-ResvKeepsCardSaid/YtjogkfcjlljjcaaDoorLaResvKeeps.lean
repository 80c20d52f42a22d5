-- written by this session's patched copy of the printer (wip/tools/patch_print.py); Lean checks it
import Derived.Test.YtjogkfcjlljjcaaDoorXaResvKeeps
namespace Go.Proofs.YtjogkfcjlljjcaaDoor.P
open Go.RowKit Go.Proofs.YtjogkfcjlljjcaaDoorW.PrintWords Go.Proofs.YtjogkfcjlljjcaaDoorW.PrintLast Go.Proofs.YtjogkfcjlljjcaaDoorW.PrintMore
attribute [local go_sem] max2_int min2_int max_two min_two max_three min_three max_four min_four   -- for this text's walks alone
set_option linter.unusedVariables false
set_option linter.unusedSimpArgs false
set_option linter.unnecessarySimpa false

/-! ### headgatelaw11_ResvKeeps: function 4 -/
mutual
def headgatelaw11_ResvKeeps.j0 : Nat → Bool → List (S53) → Int → ByteArray → Int → Bool → Int → Int → ByteArray → Int → Int → ByteArray → Bool → List (S100) → Int → Int → Int → Int → Bool → Int → Option (Bool)
 | 0, _, _, _, _, _, _, _, _, _, _, _, _, _, _, _, _, _, _, _, _ => none
 | k + 1, x14, x322000, x322001, x322002, x322003, x322004, x323000, x323001, x323002, x323003, x323004, x323005, x323006, x323007, x323008, x323009, x323010, x323011, x323012, x323013 => if x14 = true then ((headgatelaw11_wakes.f k).bind fun t325 => (some t325)) else ((headgatekeep_CopyTable.f x322000 x322001 x322002 x322003 x322004).bind fun bt326 => ((resv_Do.f k bt326.1 bt326.2.1 bt326.2.2.1 bt326.2.2.2.1 bt326.2.2.2.2 x323000 x323001 x323002 x323003 x323004 x323005 x323006 x323007 x323008 x323009 x323010 x323011 x323012 x323013).bind fun bt333 => (headgatelaw11_ResvKeeps.l0 k bt333.2.2.2.2.2.1 bt333.2.2.2.2.2.2 0 x322000 x322001 x322002 x322003 x322004 x323000 x323001 x323002 x323003 x323004 x323005 x323006 x323007 x323008 x323009 x323010 x323011 x323012 x323013 bt333.1 bt333.2.1 bt333.2.2.1 bt333.2.2.2.1 bt333.2.2.2.2.1)))
def headgatelaw11_ResvKeeps.l0 : Nat → List (S46) → Int → Int → List (S53) → Int → ByteArray → Int → Bool → Int → Int → ByteArray → Int → Int → ByteArray → Bool → List (S100) → Int → Int → Int → Int → Bool → Int → List (S53) → Int → ByteArray → Int → Bool → Option (Bool)
 | 0, _, _, _, _, _, _, _, _, _, _, _, _, _, _, _, _, _, _, _, _, _, _, _, _, _, _, _ => none
 | k + 1, x6, x7, x8, x322000, x322001, x322002, x322003, x322004, x323000, x323001, x323002, x323003, x323004, x323005, x323006, x323007, x323008, x323009, x323010, x323011, x323012, x323013, x345000, x345001, x345002, x345003, x345004 => if x8 < (x6.length : Int) then (if 0 ≤ x8 then (if ((rd_T46 x6 x8).f0).toList = x323002.toList then (some false) else ((headgateref11_Key.f k x322000 x322001 x322002 x322003 x322004 ((rd_T46 x6 x8).f0)).bind fun t347 => (if t347 = 0 then (some false) else (headgatelaw11_ResvKeeps.l0 k x6 x7 (wrap64 (x8 + 1)) x322000 x322001 x322002 x322003 x322004 x323000 x323001 x323002 x323003 x323004 x323005 x323006 x323007 x323008 x323009 x323010 x323011 x323012 x323013 x345000 x345001 x345002 x345003 x345004)))) else (none)) else (if x7 = 1 then ((headgateref11_Good.f k x322000 x322001 x322002 x322003 x322004).bind fun t348 => (if t348 = true then ((resv_Good.f x345000 x345001 x345002 x345003 x345004).bind fun t349 => (if t349 = true then (if x345003 = x322003 then ((headgatelaw11_wakes.f k).bind fun t350 => (some t350)) else (if x345003 = ((x322003 + 1) % 4294967296) then ((headgatelaw11_wakes.f k).bind fun t351 => (some t351)) else (some false))) else (some false))) else (some false))) else ((headgatekeep_Tables.f k x322000 x322001 x322002 x322003 x322004 x345000 x345001 x345002 x345003 x345004).bind fun t352 => (if t352 = true then (if (x6.length : Int) = 0 then ((headgatelaw11_wakes.f k).bind fun t353 => (some t353)) else (some false)) else (some false))))
end
def headgatelaw11_ResvKeeps.f (k : Nat) (l0_0 : List (S53)) (a0_1 : Int) (a0_2 : ByteArray) (a0_3 : Int) (a0_4 : Bool) (a1_0 : Int) (a1_1 : Int) (a1_2 : ByteArray) (a1_3 : Int) (a1_4 : Int) (a1_5 : ByteArray) (a1_6 : Bool) (l1_7 : List (S100)) (a1_8 : Int) (a1_9 : Int) (a1_10 : Int) (a1_11 : Int) (a1_12 : Bool) (a1_13 : Int) : Option (Bool) := (headgatelaw10_Large.f k l0_0 a0_1 a0_2 a0_3 a0_4).bind fun t323 => (if t323 = true then (headgatelaw11_ResvKeeps.j0 k true l0_0 a0_1 a0_2 a0_3 a0_4 a1_0 a1_1 a1_2 a1_3 a1_4 a1_5 a1_6 l1_7 a1_8 a1_9 a1_10 a1_11 a1_12 a1_13) else ((headgatelaw11_large.f a1_0 a1_1 a1_2 a1_3 a1_4 a1_5 a1_6 l1_7 a1_8 a1_9 a1_10 a1_11 a1_12 a1_13).bind fun t324 => (headgatelaw11_ResvKeeps.j0 k t324 l0_0 a0_1 a0_2 a0_3 a0_4 a1_0 a1_1 a1_2 a1_3 a1_4 a1_5 a1_6 l1_7 a1_8 a1_9 a1_10 a1_11 a1_12 a1_13)))
theorem headgatelaw11_ResvKeeps.mono_l : ∀ k, (∀ y0 y1 y2 y3 y4 y5 y6 y7 y8 y9 y10 y11 y12 y13 y14 y15 y16 y17 y18 y19, LeO (headgatelaw11_ResvKeeps.j0 k y0 y1 y2 y3 y4 y5 y6 y7 y8 y9 y10 y11 y12 y13 y14 y15 y16 y17 y18 y19) (headgatelaw11_ResvKeeps.j0 (k + 1) y0 y1 y2 y3 y4 y5 y6 y7 y8 y9 y10 y11 y12 y13 y14 y15 y16 y17 y18 y19)) ∧ (∀ y0 y1 y2 y3 y4 y5 y6 y7 y8 y9 y10 y11 y12 y13 y14 y15 y16 y17 y18 y19 y20 y21 y22 y23 y24 y25 y26, LeO (headgatelaw11_ResvKeeps.l0 k y0 y1 y2 y3 y4 y5 y6 y7 y8 y9 y10 y11 y12 y13 y14 y15 y16 y17 y18 y19 y20 y21 y22 y23 y24 y25 y26) (headgatelaw11_ResvKeeps.l0 (k + 1) y0 y1 y2 y3 y4 y5 y6 y7 y8 y9 y10 y11 y12 y13 y14 y15 y16 y17 y18 y19 y20 y21 y22 y23 y24 y25 y26))
 | 0 => ⟨fun _ _ _ _ _ _ _ _ _ _ _ _ _ _ _ _ _ _ _ _ r h => by simp [headgatelaw11_ResvKeeps.j0] at h, fun _ _ _ _ _ _ _ _ _ _ _ _ _ _ _ _ _ _ _ _ _ _ _ _ _ _ _ r h => by simp [headgatelaw11_ResvKeeps.l0] at h⟩
 | k + 1 => by
  obtain ⟨ih0, ih1⟩ := headgatelaw11_ResvKeeps.mono_l k
  refine ⟨?_, ?_⟩
  ·intro y0 y1 y2 y3 y4 y5 y6 y7 y8 y9 y10 y11 y12 y13 y14 y15 y16 y17 y18 y19
   unfold headgatelaw11_ResvKeeps.j0
   repeat' first
   | (with_reducible exact ih0 _ _ _ _ _ _ _ _ _ _ _ _ _ _ _ _ _ _ _ _)
   | (with_reducible exact ih1 _ _ _ _ _ _ _ _ _ _ _ _ _ _ _ _ _ _ _ _ _ _ _ _ _ _ _)
   | (with_reducible exact headgatekeep_Tables.mono _ _ _ _ _ _ _ _ _ _ _)
   | (with_reducible exact headgatelaw10_Large.mono _ _ _ _ _ _)
   | (with_reducible exact headgatelaw11_wakes.mono _)
   | (with_reducible exact headgateref11_Good.mono _ _ _ _ _ _)
   | (with_reducible exact headgateref11_Key.mono _ _ _ _ _ _ _)
   | (with_reducible exact resv_Do.mono _ _ _ _ _ _ _ _ _ _ _ _ _ _ _ _ _ _ _ _)
   | (with_reducible exact LeO.refl _)
   | (with_reducible exact LeO.none _)
   | (with_reducible refine LeO.ite ?_ ?_)
   | (with_reducible refine LeO.bind ?_ (fun _ => ?_))
   | exact ih0 _ _ _ _ _ _ _ _ _ _ _ _ _ _ _ _ _ _ _ _
   | exact ih1 _ _ _ _ _ _ _ _ _ _ _ _ _ _ _ _ _ _ _ _ _ _ _ _ _ _ _
   | exact headgatekeep_Tables.mono _ _ _ _ _ _ _ _ _ _ _
   | exact headgatelaw10_Large.mono _ _ _ _ _ _
   | exact headgatelaw11_wakes.mono _
   | exact headgateref11_Good.mono _ _ _ _ _ _
   | exact headgateref11_Key.mono _ _ _ _ _ _ _
   | exact resv_Do.mono _ _ _ _ _ _ _ _ _ _ _ _ _ _ _ _ _ _ _ _
   | exact LeO.none _
   | refine LeO.ite ?_ ?_
   | refine LeO.bind ?_ (fun _ => ?_)
  ·intro y0 y1 y2 y3 y4 y5 y6 y7 y8 y9 y10 y11 y12 y13 y14 y15 y16 y17 y18 y19 y20 y21 y22 y23 y24 y25 y26
   unfold headgatelaw11_ResvKeeps.l0
   repeat' first
   | (with_reducible exact ih0 _ _ _ _ _ _ _ _ _ _ _ _ _ _ _ _ _ _ _ _)
   | (with_reducible exact ih1 _ _ _ _ _ _ _ _ _ _ _ _ _ _ _ _ _ _ _ _ _ _ _ _ _ _ _)
   | (with_reducible exact headgatekeep_Tables.mono _ _ _ _ _ _ _ _ _ _ _)
   | (with_reducible exact headgatelaw10_Large.mono _ _ _ _ _ _)
   | (with_reducible exact headgatelaw11_wakes.mono _)
   | (with_reducible exact headgateref11_Good.mono _ _ _ _ _ _)
   | (with_reducible exact headgateref11_Key.mono _ _ _ _ _ _ _)
   | (with_reducible exact resv_Do.mono _ _ _ _ _ _ _ _ _ _ _ _ _ _ _ _ _ _ _ _)
   | (with_reducible exact LeO.refl _)
   | (with_reducible exact LeO.none _)
   | (with_reducible refine LeO.ite ?_ ?_)
   | (with_reducible refine LeO.bind ?_ (fun _ => ?_))
   | exact ih0 _ _ _ _ _ _ _ _ _ _ _ _ _ _ _ _ _ _ _ _
   | exact ih1 _ _ _ _ _ _ _ _ _ _ _ _ _ _ _ _ _ _ _ _ _ _ _ _ _ _ _
   | exact headgatekeep_Tables.mono _ _ _ _ _ _ _ _ _ _ _
   | exact headgatelaw10_Large.mono _ _ _ _ _ _
   | exact headgatelaw11_wakes.mono _
   | exact headgateref11_Good.mono _ _ _ _ _ _
   | exact headgateref11_Key.mono _ _ _ _ _ _ _
   | exact resv_Do.mono _ _ _ _ _ _ _ _ _ _ _ _ _ _ _ _ _ _ _ _
   | exact LeO.none _
   | refine LeO.ite ?_ ?_
   | refine LeO.bind ?_ (fun _ => ?_)
theorem headgatelaw11_ResvKeeps.mono : ∀ a0 a1 a2 a3 a4 a5 a6 a7 a8 a9 a10 a11 a12 a13 a14 a15 a16 a17 a18 k, LeO (headgatelaw11_ResvKeeps.f k a0 a1 a2 a3 a4 a5 a6 a7 a8 a9 a10 a11 a12 a13 a14 a15 a16 a17 a18) (headgatelaw11_ResvKeeps.f (k + 1) a0 a1 a2 a3 a4 a5 a6 a7 a8 a9 a10 a11 a12 a13 a14 a15 a16 a17 a18) := by
 intro a0 a1 a2 a3 a4 a5 a6 a7 a8 a9 a10 a11 a12 a13 a14 a15 a16 a17 a18 k
 obtain ⟨ih0, ih1⟩ := headgatelaw11_ResvKeeps.mono_l k
 unfold headgatelaw11_ResvKeeps.f
 repeat' first
   | (with_reducible exact ih0 _ _ _ _ _ _ _ _ _ _ _ _ _ _ _ _ _ _ _ _)
   | (with_reducible exact ih1 _ _ _ _ _ _ _ _ _ _ _ _ _ _ _ _ _ _ _ _ _ _ _ _ _ _ _)
   | (with_reducible exact headgatekeep_Tables.mono _ _ _ _ _ _ _ _ _ _ _)
   | (with_reducible exact headgatelaw10_Large.mono _ _ _ _ _ _)
   | (with_reducible exact headgatelaw11_wakes.mono _)
   | (with_reducible exact headgateref11_Good.mono _ _ _ _ _ _)
   | (with_reducible exact headgateref11_Key.mono _ _ _ _ _ _ _)
   | (with_reducible exact resv_Do.mono _ _ _ _ _ _ _ _ _ _ _ _ _ _ _ _ _ _ _ _)
   | (with_reducible exact LeO.refl _)
   | (with_reducible exact LeO.none _)
   | (with_reducible refine LeO.ite ?_ ?_)
   | (with_reducible refine LeO.bind ?_ (fun _ => ?_))
   | exact ih0 _ _ _ _ _ _ _ _ _ _ _ _ _ _ _ _ _ _ _ _
   | exact ih1 _ _ _ _ _ _ _ _ _ _ _ _ _ _ _ _ _ _ _ _ _ _ _ _ _ _ _
   | exact headgatekeep_Tables.mono _ _ _ _ _ _ _ _ _ _ _
   | exact headgatelaw10_Large.mono _ _ _ _ _ _
   | exact headgatelaw11_wakes.mono _
   | exact headgateref11_Good.mono _ _ _ _ _ _
   | exact headgateref11_Key.mono _ _ _ _ _ _ _
   | exact resv_Do.mono _ _ _ _ _ _ _ _ _ _ _ _ _ _ _ _ _ _ _ _
   | exact LeO.none _
   | refine LeO.ite ?_ ?_
   | refine LeO.bind ?_ (fun _ => ?_)
def headgatelaw11_ResvKeeps.T3 : Bool × List (List Nat × List Nat) := (true, [([], []), ([0], [0]), ([], []), ([1, 2, 1], [1, 2]), ([3], [3]), ([4], [4]), ([4], [4]), ([4], [4]), ([], []), ([8, 5, 3, 0, 1, 2, 3, 4, 5, 8], [5, 8]), ([6, 9, 0, 1, 2, 3, 4, 5, 6, 8, 9], [6]), ([7, 10, 0, 1, 2, 3, 4, 5, 6, 7, 8, 9, 10], [7])])
def headgatelaw11_ResvKeeps.B3 : List Nat := [0, 1, 0, 7, 15, 31, 31, 31, 0, 319, 895, 2047]
theorem headgatelaw11_ResvKeeps.tab3 : rtab .any (opsOf Tryd.f4 3) = headgatelaw11_ResvKeeps.T3 := by kernel_rfl
theorem headgatelaw11_ResvKeeps.bits3 : waitsOk headgatelaw11_ResvKeeps.T3.2 headgatelaw11_ResvKeeps.B3 = true := by kernel_rfl
def headgatelaw11_ResvKeeps.T7 : Bool × List (List Nat × List Nat) := (true, [([], []), ([], []), ([0, 1], [0, 1]), ([2], [2]), ([3], [3]), ([], []), ([5], [5]), ([4, 6], [4, 6]), ([7], [7]), ([8], [8]), ([8], [8]), ([8], [8]), ([10, 11, 8], [8, 10, 11]), ([12, 8], [8, 12]), ([13, 8], [8, 13]), ([9, 14, 8, 8], [8, 9, 14]), ([15, 8], [8, 15]), ([8, 16], [8, 16])])
def headgatelaw11_ResvKeeps.B7 : List Nat := [0, 0, 3, 7, 15, 0, 32, 127, 255, 511, 511, 511, 3583, 7679, 15871, 32767, 65535, 131071]
theorem headgatelaw11_ResvKeeps.tab7 : rtab .any (opsOf Tryd.f4 7) = headgatelaw11_ResvKeeps.T7 := by kernel_rfl
theorem headgatelaw11_ResvKeeps.bits7 : waitsOk headgatelaw11_ResvKeeps.T7.2 headgatelaw11_ResvKeeps.B7 = true := by kernel_rfl
abbrev d4x0 : Array Bool := #[false, false, false, false, false, false, false, false, false, false, false, false, false, false, false, false, false, false]
abbrev d4x1 : Array Bool := #[false, false, false, false, false, false, false, false, false, false, false, false]
abbrev d4x2 : Array Bool := dB 18 1
abbrev d4x3 : Array Bool := dB 12 1
abbrev d4x4 : Array Bool := dB 12 5
abbrev d4x5 : Array Bool := dB 12 261
abbrev d4x6 : Array Bool := dB 18 3
abbrev d4x7 : Array Bool := dB 18 7
abbrev d4x8 : Array Bool := dB 12 7
abbrev d4x9 : Array Bool := dB 12 263
abbrev d4x10 : Array Bool := dB 18 15
abbrev d4x11 : Array Bool := dB 12 15
abbrev d4x12 : Array Bool := dB 12 271
abbrev d4x13 : Array Bool := dB 18 47
abbrev d4x14 : Array Bool := dB 12 31
abbrev d4x15 : Array Bool := dB 12 287
abbrev d4x16 : Array Bool := dB 18 63
abbrev d4x17 : Array Bool := dB 12 63
abbrev d4x18 : Array Bool := dB 12 319
abbrev d4x19 : Array Bool := dB 18 127
abbrev d4x20 : Array Bool := dB 12 127
abbrev d4x21 : Array Bool := dB 12 383
abbrev d4x22 : Array Bool := dB 18 255
abbrev d4x23 : Array Bool := dB 12 255
abbrev d4x24 : Array Bool := dB 18 511
abbrev d4x25 : Array Bool := dB 12 511
abbrev d4x26 : Array Bool := dB 18 1535
abbrev d4x27 : Array Bool := dB 18 3583
abbrev d4x28 : Array Bool := dB 18 7679
abbrev d4x29 : Array Bool := dB 18 15871
abbrev d4x30 : Array Bool := dB 12 1023
abbrev d4x31 : Array Bool := dB 12 2047
abbrev d4x32 : Array Bool := dB 18 16383
abbrev d4x33 : Array Bool := dB 18 32767
abbrev d4x34 : Array Bool := dB 18 65535
abbrev d4x35 : Array Bool := dB 18 131071
abbrev d4x36 : Array Bool := dB 18 262143
abbrev d4x37 : Array Bool := dB 12 4095
set_option maxHeartbeats 8000000 in
set_option maxRecDepth 100000 in
theorem headgatelaw11_ResvKeeps.calls (k : Nat) (A0_0 : Option Addr) (c0_0 : Nat) (l0_0 : List (S53)) (a0_1 : Int) (a0_2 : ByteArray) (a0_3 : Int) (a0_4 : Bool) (a1_0 : Int) (a1_1 : Int) (a1_2 : ByteArray) (a1_3 : Int) (a1_4 : Int) (a1_5 : ByteArray) (a1_6 : Bool) (A1_7 : Option Addr) (c1_7 : Nat) (l1_7 : List (S100)) (a1_8 : Int) (a1_9 : Int) (a1_10 : Int) (a1_11 : Int) (a1_12 : Bool) (a1_13 : Int) (r : Bool) (w : World) (hr0_0 : Kd.C k53 w A0_0 l0_0.length l0_0) (hc0_0 : l0_0.length ≤ c0_0) (hr1_7 : Kd.C k100 w A1_7 l1_7.length l1_7) (hc1_7 : l1_7.length ≤ c1_7) (hG : Glob w) (hT : r = true) (h : headgatelaw11_ResvKeeps.f k l0_0 a0_1 a0_2 a0_3 a0_4 a1_0 a1_1 a1_2 a1_3 a1_4 a1_5 a1_6 l1_7 a1_8 a1_9 a1_10 a1_11 a1_12 a1_13 = some r) :
  Calls Tryd.prog 4 #[.agg #[.slice A0_0 l0_0.length c0_0, .int .i64 a0_1, .string a0_2, .int .u32 a0_3, .bool a0_4], .agg #[.int .i64 a1_0, .int .i64 a1_1, .string a1_2, .int .i64 a1_3, .int .i64 a1_4, .string a1_5, .bool a1_6, .slice A1_7 l1_7.length c1_7, .int .u64 a1_8, .int .u64 a1_9, .int .u64 a1_10, .int .i64 a1_11, .bool a1_12, .int .i64 a1_13]] w fun e w' => e = .returned (.bool r) ∧ Below w.heap.size w w' := by
 have hu27 := Tryd.underlying27
 have hu31 := Tryd.underlying31
 have HT0 := Aside0.mk hT
 clear hT
 have HG := Aside0.mk hG
 clear hG
 have HR0_0 := Aside0.mk hr0_0
 have HC0_0 := Aside0.mk hc0_0
 clear hr0_0 hc0_0
 have HR1_7 := Aside0.mk hr1_7
 have HC1_7 := Aside0.mk hc1_7
 clear hr1_7 hc1_7
 have HB := Aside0.mk (Below.refl w.heap.size w)
 have H : ((headgatelaw10_Large.f k l0_0 a0_1 a0_2 a0_3 a0_4).bind fun t323 => (if t323 = true then (headgatelaw11_ResvKeeps.j0 k true l0_0 a0_1 a0_2 a0_3 a0_4 a1_0 a1_1 a1_2 a1_3 a1_4 a1_5 a1_6 l1_7 a1_8 a1_9 a1_10 a1_11 a1_12 a1_13) else ((headgatelaw11_large.f a1_0 a1_1 a1_2 a1_3 a1_4 a1_5 a1_6 l1_7 a1_8 a1_9 a1_10 a1_11 a1_12 a1_13).bind fun t324 => (headgatelaw11_ResvKeeps.j0 k t324 l0_0 a0_1 a0_2 a0_3 a0_4 a1_0 a1_1 a1_2 a1_3 a1_4 a1_5 a1_6 l1_7 a1_8 a1_9 a1_10 a1_11 a1_12 a1_13)))) = some r := h
 clear h
 have HC3 := Aside0.mk H
 clear H
 go_enter Tryd.func4, Tryd.ntmps4
 go_upto_region 1 with (first | ((with_reducible refine gate_dst (N := 2) rfl ?_); refine box_event ?hg (N := 2) ?hd (cs := #[.slice A0_0 l0_0.length c0_0, .int .i64 a0_1, .string a0_2, .int .u32 a0_3, .bool a0_4]) (t := 27) ?hr ?_; (case hd => rfl); (case hg => rfl); (case hr => first | (go_simp; done) | (go_simp; rfl)); intro gb321 hg w4 hbox hb; have n0_ := Aside0.mk (below_step (hb_ HB) hb); have n1_ := Aside0.mk (hbox); have n2_ := Aside0.mk ((by rw [hg]; exact (below_size (hb_ HB)) : w.heap.size ≤ gb321)); have n3_ := Aside0.mk ((by rw [hg]; exact (below_size (hb_ HB)) : w.heap.size ≤ gb321)); clear HB; have HB := n0_; have BK321 := n1_; have GW321 := n2_; have GE321 := n3_; clear n0_ n1_ n2_ n3_; clear hb hbox hg) | ((with_reducible refine gate_dst (N := 3) rfl ?_); refine box_event ?hg (N := 3) ?hd (cs := #[.int .i64 a1_0, .int .i64 a1_1, .string a1_2, .int .i64 a1_3, .int .i64 a1_4, .string a1_5, .bool a1_6, .slice A1_7 l1_7.length c1_7, .int .u64 a1_8, .int .u64 a1_9, .int .u64 a1_10, .int .i64 a1_11, .bool a1_12, .int .i64 a1_13]) (t := 31) ?hr ?_; (case hd => rfl); (case hg => rfl); (case hr => first | (go_simp; done) | (go_simp; rfl)); intro gb322 hg w5 hbox hb; have n0_ := Aside0.mk (blk_below (bk_ BK321) hb); have n1_ := Aside0.mk (below_step (hb_ HB) hb); have n2_ := Aside0.mk (hbox); have n3_ := Aside0.mk ((by rw [hg]; exact (below_size (hb_ HB)) : w.heap.size ≤ gb322)); have n4_ := Aside0.mk ((by rw [hg]; exact (below_size (hb_ HB)) : w.heap.size ≤ gb322)); have n5_ := Aside0.mk ((by rw [hg]; exact Nat.ne_of_lt (blk_lt (g := gb321) (o := .cells #[.slice A0_0 l0_0.length c0_0, .int .i64 a0_1, .string a0_2, .int .u32 a0_3, .bool a0_4] 27 (0, 0)) (bk_ BK321)) : gb321 ≠ gb322)); have n6_ := Aside0.mk ((by rw [hg]; exact Nat.ne_of_gt (blk_lt (g := gb321) (o := .cells #[.slice A0_0 l0_0.length c0_0, .int .i64 a0_1, .string a0_2, .int .u32 a0_3, .bool a0_4] 27 (0, 0)) (bk_ BK321)) : gb322 ≠ gb321)); clear BK321; clear HB; have BK321 := n0_; have HB := n1_; have BK322 := n2_; have GW322 := n3_; have GE322 := n4_; have NB321_322 := n5_; have NB322_321 := n6_; clear n0_ n1_ n2_ n3_ n4_ n5_ n6_; clear hb hbox hg))
 (try simp only [Act.put, la_, lb_, lc_])
 go_cut [14] (fun v14 wc => ∃ (kq : Nat) (x14_2 : Bool), v14 = .bool x14_2 ∧ Aside0 (headgatelaw11_ResvKeeps.j0 kq x14_2 l0_0 a0_1 a0_2 a0_3 a0_4 a1_0 a1_1 a1_2 a1_3 a1_4 a1_5 a1_6 l1_7 a1_8 a1_9 a1_10 a1_11 a1_12 a1_13 = some r) ∧ Aside0 (kq ≤ k) ∧ Aside0 (wc.heap[gb321]? = some (.cells #[(.slice A0_0 l0_0.length c0_0), .int .i64 a0_1, .string a0_2, .int .u32 a0_3, .bool a0_4] 27 (0, 0))) ∧ Aside0 (wc.heap[gb322]? = some (.cells #[.int .i64 a1_0, .int .i64 a1_1, .string a1_2, .int .i64 a1_3, .int .i64 a1_4, .string a1_5, .bool a1_6, (.slice A1_7 l1_7.length c1_7), .int .u64 a1_8, .int .u64 a1_9, .int .u64 a1_10, .int .i64 a1_11, .bool a1_12, .int .i64 a1_13] 31 (0, 0))) ∧ Aside0 (Below w.heap.size w wc))
 case first =>
  have H := HC3.out
  clear HC3
  replace H := Option.bind_eq_some_iff.mp H
  obtain ⟨t323, A60, H⟩ := H
  try dsimp only at H
  have A6 := Aside0.mk A60
  clear A60
  by_cases c7 : t323 = true
  ·subst c7
   have H1 := H
   rw [if_pos rfl] at H1
   clear H
   have H := H1
   clear H1
   have H' := Aside0.mk H
   clear H
   have hnb8 := NB321_322.out
   have hnc8 := NB322_321.out
   have hcz9_0 : w5.cell? ⟨gb321, 0, none⟩ = some (.slice A0_0 l0_0.length c0_0) := (blk_cell BK321.out 0).trans rfl
   have hcz9_1 : w5.cell? ⟨gb321, 1, none⟩ = some (.int .i64 a0_1) := (blk_cell BK321.out 1).trans rfl
   have hcz9_2 : w5.cell? ⟨gb321, 2, none⟩ = some (.string a0_2) := (blk_cell BK321.out 2).trans rfl
   have hcz9_3 : w5.cell? ⟨gb321, 3, none⟩ = some (.int .u32 a0_3) := (blk_cell BK321.out 3).trans rfl
   have hcz9_4 : w5.cell? ⟨gb321, 4, none⟩ = some (.bool a0_4) := (blk_cell BK321.out 4).trans rfl
   have hfz9_0 := blk_frozen BK321.out 0
   have hfz9_1 := blk_frozen BK321.out 1
   have hfz9_2 := blk_frozen BK321.out 2
   have hfz9_3 := blk_frozen BK321.out 3
   have hfz9_4 := blk_frozen BK321.out 4
   go_wp2_with (first | ((with_reducible refine gate_callee (f := 11) rfl ?_); refine goesL_ (some 10) rfl rfl Tryd.func11 (by kernel_rfl) rfl #[.agg #[.slice A0_0 l0_0.length c0_0, .int .i64 a0_1, .string a0_2, .int .u32 a0_3, .bool a0_4]] rfl (by (try simp only [List.map_toArray, List.map_cons, List.map_nil]); first | done | rfl | (simp only [List.length_drop, List.length_take]; rfl)) ?_; (with_reducible refine (headgatelaw10_Large.calls k _ _ l0_0 a0_1 a0_2 a0_3 a0_4 true _ ?side1 ?side2 A6.out).mono ?_); (case side1 => repeat (first | exact (Kd.C_below HR0_0.out HB.out) | (with_reducible refine Kd.C_alloc ?_ _) | (with_reducible refine Kd.C_drewN ?_ _) | (with_reducible refine Kd.C_drew ?_))); (case side2 => exact HC0_0.out); rintro e w10 ⟨rfl, hb⟩; refine ⟨_, rfl, ?_⟩; have n0_ := Aside0.mk (blk_below (bk_ BK321) hb); have n1_ := Aside0.mk (blk_below (bk_ BK322) hb); have n2_ := Aside0.mk (below_step (hb_ HB) hb); clear BK321; clear BK322; clear HB; have BK321 := n0_; have BK322 := n1_; have HB := n2_; clear n0_ n1_ n2_; (try clear hb); (try clear hb2); (try clear hk); (try clear hi)))
   go_meet
   case rel => exact ⟨_, (true), (by first | rfl | (simp; done) | (simp [*]; done)), H', ⟨by first | omega | exact Nat.le_refl _⟩, ⟨bk_ BK321⟩, ⟨bk_ BK322⟩, ⟨hb_ HB⟩⟩
  replace c7 := Bool.eq_false_iff.mpr c7
  subst c7
  have H1 := H
  rw [if_neg (show ¬ (false = true) by decide)] at H1
  clear H
  have H := H1
  clear H1
  replace H := Option.bind_eq_some_iff.mp H
  obtain ⟨t324, A110, H⟩ := H
  try dsimp only at H
  have A11 := Aside0.mk A110
  clear A110
  have H' := Aside0.mk H
  clear H
  have hnb12 := NB321_322.out
  have hnc12 := NB322_321.out
  have hcz13_0 : w5.cell? ⟨gb321, 0, none⟩ = some (.slice A0_0 l0_0.length c0_0) := (blk_cell BK321.out 0).trans rfl
  have hcz13_1 : w5.cell? ⟨gb321, 1, none⟩ = some (.int .i64 a0_1) := (blk_cell BK321.out 1).trans rfl
  have hcz13_2 : w5.cell? ⟨gb321, 2, none⟩ = some (.string a0_2) := (blk_cell BK321.out 2).trans rfl
  have hcz13_3 : w5.cell? ⟨gb321, 3, none⟩ = some (.int .u32 a0_3) := (blk_cell BK321.out 3).trans rfl
  have hcz13_4 : w5.cell? ⟨gb321, 4, none⟩ = some (.bool a0_4) := (blk_cell BK321.out 4).trans rfl
  have hfz13_0 := blk_frozen BK321.out 0
  have hfz13_1 := blk_frozen BK321.out 1
  have hfz13_2 := blk_frozen BK321.out 2
  have hfz13_3 := blk_frozen BK321.out 3
  have hfz13_4 := blk_frozen BK321.out 4
  go_wp2_with (first | ((with_reducible refine gate_callee (f := 11) rfl ?_); refine goesL_ (some 10) rfl rfl Tryd.func11 (by kernel_rfl) rfl #[.agg #[.slice A0_0 l0_0.length c0_0, .int .i64 a0_1, .string a0_2, .int .u32 a0_3, .bool a0_4]] rfl (by (try simp only [List.map_toArray, List.map_cons, List.map_nil]); first | done | rfl | (simp only [List.length_drop, List.length_take]; rfl)) ?_; (with_reducible refine (headgatelaw10_Large.calls k _ _ l0_0 a0_1 a0_2 a0_3 a0_4 false _ ?side1 ?side2 A6.out).mono ?_); (case side1 => repeat (first | exact (Kd.C_below HR0_0.out HB.out) | (with_reducible refine Kd.C_alloc ?_ _) | (with_reducible refine Kd.C_drewN ?_ _) | (with_reducible refine Kd.C_drew ?_))); (case side2 => exact HC0_0.out); rintro e w14 ⟨rfl, hb⟩; refine ⟨_, rfl, ?_⟩; have n0_ := Aside0.mk (blk_below (bk_ BK321) hb); have n1_ := Aside0.mk (blk_below (bk_ BK322) hb); have n2_ := Aside0.mk (below_step (hb_ HB) hb); clear BK321; clear BK322; clear HB; have BK321 := n0_; have BK322 := n1_; have HB := n2_; clear n0_ n1_ n2_; (try clear hb); (try clear hb2); (try clear hk); (try clear hi); have hcz15_0 : w14.cell? ⟨gb322, 0, none⟩ = some (.int .i64 a1_0) := (blk_cell BK322.out 0).trans rfl; have hcz15_1 : w14.cell? ⟨gb322, 1, none⟩ = some (.int .i64 a1_1) := (blk_cell BK322.out 1).trans rfl; have hcz15_2 : w14.cell? ⟨gb322, 2, none⟩ = some (.string a1_2) := (blk_cell BK322.out 2).trans rfl; have hcz15_3 : w14.cell? ⟨gb322, 3, none⟩ = some (.int .i64 a1_3) := (blk_cell BK322.out 3).trans rfl; have hcz15_4 : w14.cell? ⟨gb322, 4, none⟩ = some (.int .i64 a1_4) := (blk_cell BK322.out 4).trans rfl; have hcz15_5 : w14.cell? ⟨gb322, 5, none⟩ = some (.string a1_5) := (blk_cell BK322.out 5).trans rfl; have hcz15_6 : w14.cell? ⟨gb322, 6, none⟩ = some (.bool a1_6) := (blk_cell BK322.out 6).trans rfl; have hcz15_7 : w14.cell? ⟨gb322, 7, none⟩ = some (.slice A1_7 l1_7.length c1_7) := (blk_cell BK322.out 7).trans rfl; have hcz15_8 : w14.cell? ⟨gb322, 8, none⟩ = some (.int .u64 a1_8) := (blk_cell BK322.out 8).trans rfl; have hcz15_9 : w14.cell? ⟨gb322, 9, none⟩ = some (.int .u64 a1_9) := (blk_cell BK322.out 9).trans rfl; have hcz15_10 : w14.cell? ⟨gb322, 10, none⟩ = some (.int .u64 a1_10) := (blk_cell BK322.out 10).trans rfl; have hcz15_11 : w14.cell? ⟨gb322, 11, none⟩ = some (.int .i64 a1_11) := (blk_cell BK322.out 11).trans rfl; have hcz15_12 : w14.cell? ⟨gb322, 12, none⟩ = some (.bool a1_12) := (blk_cell BK322.out 12).trans rfl; have hcz15_13 : w14.cell? ⟨gb322, 13, none⟩ = some (.int .i64 a1_13) := (blk_cell BK322.out 13).trans rfl; have hfz15_0 := blk_frozen BK322.out 0; have hfz15_1 := blk_frozen BK322.out 1; have hfz15_2 := blk_frozen BK322.out 2; have hfz15_3 := blk_frozen BK322.out 3; have hfz15_4 := blk_frozen BK322.out 4; have hfz15_5 := blk_frozen BK322.out 5; have hfz15_6 := blk_frozen BK322.out 6; have hfz15_7 := blk_frozen BK322.out 7; have hfz15_8 := blk_frozen BK322.out 8; have hfz15_9 := blk_frozen BK322.out 9; have hfz15_10 := blk_frozen BK322.out 10; have hfz15_11 := blk_frozen BK322.out 11; have hfz15_12 := blk_frozen BK322.out 12; have hfz15_13 := blk_frozen BK322.out 13) | (go_at_call 12; (with_reducible refine (headgatelaw11_large.calls a1_0 a1_1 a1_2 a1_3 a1_4 a1_5 a1_6 _ _ l1_7 a1_8 a1_9 a1_10 a1_11 a1_12 a1_13 t324 _ ?side1 ?side2 A11.out).mono ?_); (case side1 => repeat (first | exact (Kd.C_below HR1_7.out HB.out) | (with_reducible refine Kd.C_alloc ?_ _) | (with_reducible refine Kd.C_drewN ?_ _) | (with_reducible refine Kd.C_drew ?_))); (case side2 => exact HC1_7.out); rintro e w16 ⟨rfl, hb⟩; have n0_ := Aside0.mk (blk_below (bk_ BK321) hb); have n1_ := Aside0.mk (blk_below (bk_ BK322) hb); have n2_ := Aside0.mk (below_step (hb_ HB) hb); clear BK321; clear BK322; clear HB; have BK321 := n0_; have BK322 := n1_; have HB := n2_; clear n0_ n1_ n2_; (try clear hb); (try clear hb2); (try clear hk); (try clear hi)))
  go_meet
  case rel => exact ⟨_, (t324), (by first | rfl | (simp; done) | (simp [*]; done)), H', ⟨by first | omega | exact Nat.le_refl _⟩, ⟨bk_ BK321⟩, ⟨bk_ BK322⟩, ⟨hb_ HB⟩⟩
 case rest =>
  clear HC3
  try clear c1
  try clear p2
  try clear c4
  try clear c7
  try clear c8
  try clear c11
  try clear c12
  try clear hcz13_0
  try clear hcz13_1
  try clear hcz13_2
  try clear hcz13_3
  try clear hcz13_4
  try clear hcz15_0
  try clear hcz15_1
  try clear hcz15_10
  try clear hcz15_11
  try clear hcz15_12
  try clear hcz15_13
  try clear hcz15_2
  try clear hcz15_3
  try clear hcz15_4
  try clear hcz15_5
  try clear hcz15_6
  try clear hcz15_7
  try clear hcz15_8
  try clear hcz15_9
  try clear hcz9_0
  try clear hcz9_1
  try clear hcz9_2
  try clear hcz9_3
  try clear hcz9_4
  try clear hfz13_0
  try clear hfz13_1
  try clear hfz13_2
  try clear hfz13_3
  try clear hfz13_4
  try clear hfz15_0
  try clear hfz15_1
  try clear hfz15_10
  try clear hfz15_11
  try clear hfz15_12
  try clear hfz15_13
  try clear hfz15_2
  try clear hfz15_3
  try clear hfz15_4
  try clear hfz15_5
  try clear hfz15_6
  try clear hfz15_7
  try clear hfz15_8
  try clear hfz15_9
  try clear hfz9_0
  try clear hfz9_1
  try clear hfz9_2
  try clear hfz9_3
  try clear hfz9_4
  obtain ⟨kq, x14_2, rfl, HA, HJ2, BK321, BK322, HB⟩ := hcut
  cases kq with
  | zero => exact absurd HA.out (by simp [headgatelaw11_ResvKeeps.j0])
  | succ kj2 =>
   have H := HA.out
   clear HA
   simp only [headgatelaw11_ResvKeeps.j0] at H
   by_cases c17 : x14_2 = true
   ·subst c17
    have H1 := H
    rw [if_pos rfl] at H1
    clear H
    have H := H1
    clear H1
    replace H := Option.bind_eq_some_iff.mp H
    obtain ⟨t325, A180, H⟩ := H
    try dsimp only at H
    have A18 := Aside0.mk A180
    clear A180
    obtain rfl := Option.some.inj H
    go_wp2_with (first | ((with_reducible refine gate_callee (f := 13) rfl ?_); refine goesL_ (some 15) rfl rfl Tryd.func13 (by kernel_rfl) rfl #[] rfl (by (try simp only [List.map_toArray, List.map_cons, List.map_nil]); first | done | rfl | (simp only [List.length_drop, List.length_take]; rfl)) ?_; (with_reducible refine (headgatelaw11_wakes.calls kj2  t325 _ ?side1 A18.out).mono ?_); (case side1 => first | ((refine Glob.keep HG.out ?_); (repeat (first | (with_reducible first | exact HB.out | apply below_alloc | apply pw_below_drewN | apply below_drew1 | refine below_set ?_ GE321.out | refine below_set ?_ GE322.out) | exact HB.out)); done) | exact HG.out); rintro e w19 ⟨rfl, hb⟩; refine ⟨_, rfl, ?_⟩; have n0_ := Aside0.mk (blk_below (bk_ BK321) hb); have n1_ := Aside0.mk (blk_below (bk_ BK322) hb); have n2_ := Aside0.mk (below_step (hb_ HB) hb); clear BK321; clear BK322; clear HB; have BK321 := n0_; have BK322 := n1_; have HB := n2_; clear n0_ n1_ n2_; (try clear hb); (try clear hb2); (try clear hk); (try clear hi)))
    go_ret
    exact ⟨by first | rfl | (simp [errW_none, errW_some] <;> rfl) | (simp [*, errW_none, errW_some] <;> rfl) | (simp [bt, *]; done) | (unfold bt; simp [*]; done), by repeat (first | (with_reducible first | exact HB.out | apply below_alloc | apply pw_below_drewN | apply below_drew1 | refine below_set ?_ GE321.out | refine below_set ?_ GE322.out) | exact HB.out)⟩
   replace c17 := Bool.eq_false_iff.mpr c17
   subst c17
   have H1 := H
   rw [if_neg (show ¬ (false = true) by decide)] at H1
   clear H
   have H := H1
   clear H1
   replace H := Option.bind_eq_some_iff.mp H
   obtain ⟨⟨t326, t329, t330, t331, t332⟩, A200, H⟩ := H
   try dsimp only at H
   have A20 := Aside0.mk A200
   clear A200
   replace H := Option.bind_eq_some_iff.mp H
   obtain ⟨⟨t333, t336, t337, t338, t339, t340, t343⟩, A210, H⟩ := H
   try dsimp only at H
   have A21 := Aside0.mk A210
   clear A210
   have H' := Aside0.mk H
   clear H
   try go_wp2
   have n0_ := Aside0.mk (blk_drew BK321.out)
   have n1_ := Aside0.mk (blk_drew BK322.out)
   have n2_ := Aside0.mk (below_drew1 HB.out)
   clear BK321
   clear BK322
   clear HB
   have BK321 := n0_
   have BK322 := n1_
   have HB := n2_
   clear n0_ n1_ n2_
   refine start_ (n := 12) (S := fun w' => w'.cell? ⟨gb321, 0, none⟩ = some (.slice A0_0 l0_0.length c0_0) ∧ w'.cell? ⟨gb321, 1, none⟩ = some (.int .i64 a0_1) ∧ w'.cell? ⟨gb321, 2, none⟩ = some (.string a0_2) ∧ w'.cell? ⟨gb321, 3, none⟩ = some (.int .u32 a0_3) ∧ w'.cell? ⟨gb321, 4, none⟩ = some (.bool a0_4) ∧ w'.cell? ⟨gb322, 0, none⟩ = some (.int .i64 a1_0) ∧ w'.cell? ⟨gb322, 1, none⟩ = some (.int .i64 a1_1) ∧ w'.cell? ⟨gb322, 2, none⟩ = some (.string a1_2) ∧ w'.cell? ⟨gb322, 3, none⟩ = some (.int .i64 a1_3) ∧ w'.cell? ⟨gb322, 4, none⟩ = some (.int .i64 a1_4) ∧ w'.cell? ⟨gb322, 5, none⟩ = some (.string a1_5) ∧ w'.cell? ⟨gb322, 6, none⟩ = some (.bool a1_6) ∧ w'.cell? ⟨gb322, 7, none⟩ = some (.slice A1_7 l1_7.length c1_7) ∧ w'.cell? ⟨gb322, 8, none⟩ = some (.int .u64 a1_8) ∧ w'.cell? ⟨gb322, 9, none⟩ = some (.int .u64 a1_9) ∧ w'.cell? ⟨gb322, 10, none⟩ = some (.int .u64 a1_10) ∧ w'.cell? ⟨gb322, 11, none⟩ = some (.int .i64 a1_11) ∧ w'.cell? ⟨gb322, 12, none⟩ = some (.bool a1_12) ∧ w'.cell? ⟨gb322, 13, none⟩ = some (.int .i64 a1_13)) (ds := []) d4x1 (by kernel_rfl) rfl rfl ⟨(blk_cell BK321.out 0).trans rfl, (blk_cell BK321.out 1).trans rfl, (blk_cell BK321.out 2).trans rfl, (blk_cell BK321.out 3).trans rfl, (blk_cell BK321.out 4).trans rfl, (blk_cell BK322.out 0).trans rfl, (blk_cell BK322.out 1).trans rfl, (blk_cell BK322.out 2).trans rfl, (blk_cell BK322.out 3).trans rfl, (blk_cell BK322.out 4).trans rfl, (blk_cell BK322.out 5).trans rfl, (blk_cell BK322.out 6).trans rfl, (blk_cell BK322.out 7).trans rfl, (blk_cell BK322.out 8).trans rfl, (blk_cell BK322.out 9).trans rfl, (blk_cell BK322.out 10).trans rfl, (blk_cell BK322.out 11).trans rfl, (blk_cell BK322.out 12).trans rfl, (blk_cell BK322.out 13).trans rfl⟩ (fun hHeld => ?_); refine with_tabW headgatelaw11_ResvKeeps.tab3 headgatelaw11_ResvKeeps.bits3 (fun HT_ HW_ => ?_)
   generalize wc.drew = w22 at BK321 BK322 HB hHeld ⊢
   refine ptk_ 0 (some 17) d4x3 HT_.out HW_.out hHeld ?_
   refine ptk_ 2 (some 19) d4x4 HT_.out HW_.out hHeld ?_
   refine join_ (σ := Value × Value × Value × Nat) 3 d4x25 (fun s_ => [(18, .agg #[s_.1, .int .i64 t329, .string t330, .int .u32 t331, .bool t332]), (20, .tuple #[.agg #[s_.2.1, .int .i64 t336, .string t337, .int .u32 t338, .bool t339], s_.2.2.1, .int .i64 t343]), (5, .pointer (some ⟨s_.2.2.2, 0, none⟩)), (16, .tuple #[.agg #[s_.2.1, .int .i64 t336, .string t337, .int .u32 t338, .bool t339], s_.2.2.1, .int .i64 t343]), (21, .agg #[s_.2.1, .int .i64 t336, .string t337, .int .u32 t338, .bool t339]), (22, s_.2.2.1), (23, .int .i64 t343)]) (fun s_ w' => (w'.cell? ⟨gb321, 0, none⟩ = some (.slice A0_0 l0_0.length c0_0) ∧ w'.cell? ⟨gb321, 1, none⟩ = some (.int .i64 a0_1) ∧ w'.cell? ⟨gb321, 2, none⟩ = some (.string a0_2) ∧ w'.cell? ⟨gb321, 3, none⟩ = some (.int .u32 a0_3) ∧ w'.cell? ⟨gb321, 4, none⟩ = some (.bool a0_4) ∧ w'.cell? ⟨gb322, 0, none⟩ = some (.int .i64 a1_0) ∧ w'.cell? ⟨gb322, 1, none⟩ = some (.int .i64 a1_1) ∧ w'.cell? ⟨gb322, 2, none⟩ = some (.string a1_2) ∧ w'.cell? ⟨gb322, 3, none⟩ = some (.int .i64 a1_3) ∧ w'.cell? ⟨gb322, 4, none⟩ = some (.int .i64 a1_4) ∧ w'.cell? ⟨gb322, 5, none⟩ = some (.string a1_5) ∧ w'.cell? ⟨gb322, 6, none⟩ = some (.bool a1_6) ∧ w'.cell? ⟨gb322, 7, none⟩ = some (.slice A1_7 l1_7.length c1_7) ∧ w'.cell? ⟨gb322, 8, none⟩ = some (.int .u64 a1_8) ∧ w'.cell? ⟨gb322, 9, none⟩ = some (.int .u64 a1_9) ∧ w'.cell? ⟨gb322, 10, none⟩ = some (.int .u64 a1_10) ∧ w'.cell? ⟨gb322, 11, none⟩ = some (.int .i64 a1_11) ∧ w'.cell? ⟨gb322, 12, none⟩ = some (.bool a1_12) ∧ w'.cell? ⟨gb322, 13, none⟩ = some (.int .i64 a1_13)) ∧ (Kd.R k53 53 w' w.heap.size (fun _ => True) s_.1 t326) ∧ (Kd.V k53 53 w' w.heap.size (fun k_ => some k_ ≠ (s_.2.2.1 : Value).ownBlock ∧ k_ ≠ gb321 ∧ k_ ≠ gb322 ∧ k_ ≠ s_.2.2.2) s_.2.1 t333) ∧ (Kd.R k46 46 w' w.heap.size (fun _ => True) s_.2.2.1 t340) ∧ (w'.heap[gb321]? = some (.cells #[.slice A0_0 l0_0.length c0_0, .int .i64 a0_1, .string a0_2, .int .u32 a0_3, .bool a0_4] 27 (0, 0))) ∧ (w'.heap[gb322]? = some (.cells #[.int .i64 a1_0, .int .i64 a1_1, .string a1_2, .int .i64 a1_3, .int .i64 a1_4, .string a1_5, .bool a1_6, .slice A1_7 l1_7.length c1_7, .int .u64 a1_8, .int .u64 a1_9, .int .u64 a1_10, .int .i64 a1_11, .bool a1_12, .int .i64 a1_13] 31 (0, 0))) ∧ (w'.heap[s_.2.2.2]? = some (.cells #[.slice none 0 0, .int .i64 0, .string (⟨#[]⟩ : ByteArray), .int .u32 0, .bool false] 27 (0, 0))) ∧ (w.heap.size ≤ s_.2.2.2) ∧ (w.heap.size ≤ s_.2.2.2) ∧ (gb321 ≠ s_.2.2.2) ∧ (s_.2.2.2 ≠ gb321) ∧ (gb322 ≠ s_.2.2.2) ∧ (s_.2.2.2 ≠ gb322) ∧ (Below w.heap.size w w')) ?_ ?_
   rotate_left
   ·intro hCont
    refine two_ (i := 1) (j := 8) (Ni := some 18) (Nj := some 5) d4x8 d4x5 rfl rfl rfl rfl (two_of HT_.out (by kernel_rfl)) (by decide) (by decide) (fun K hK => ?_) (fun K hK => ?_)
    ·skip
     refine goes_ Tryd.func14 (by kernel_rfl) rfl #[.agg #[.slice A0_0 l0_0.length c0_0, .int .i64 a0_1, .string a0_2, .int .u32 a0_3, .bool a0_4]] (by rfl) rfl rfl (by (try simp only [List.map_toArray, List.map_cons, List.map_nil]); first | done | rfl | (simp only [List.length_drop, List.length_take]; rfl)) ?_
     with_reducible refine (headgatekeep_CopyTable.calls _ _ l0_0 a0_1 a0_2 a0_3 a0_4 t326 t329 t330 t331 t332 _ ?side1 ?side2 A20.out).mono ?_
     (case side1 => repeat (first | exact (Kd.C_below HR0_0.out HB.out) | (with_reducible refine Kd.C_alloc ?_ _) | (with_reducible refine Kd.C_drewN ?_ _) | (with_reducible refine Kd.C_drew ?_)))
     (case side2 => exact HC0_0.out)
     rintro e w23 ⟨v327, rfl, ho0, hb⟩
     refine ⟨_, rfl, ?_⟩
     have n0_ := Aside0.mk (Kd.R_lower ho0 (below_size (hb_ HB)))
     have n1_ := Aside0.mk (blk_below (bk_ BK321) hb)
     have n2_ := Aside0.mk (blk_below (bk_ BK322) hb)
     have n3_ := Aside0.mk (below_step (hb_ HB) hb)
     clear BK321
     clear BK322
     clear HB
     have HO328 := n0_
     have BK321 := n1_
     have BK322 := n2_
     have HB := n3_
     clear n0_ n1_ n2_ n3_
     (try clear hb)
     (try clear hb2)
     (try clear hk)
     (try clear hi)
     (try clear ho0)
     obtain ⟨Ao24, co24, eo24⟩ := Kd.R_slice HO328.out
     (first | subst eo24 | (injection eo24 with f1_ f2_ f3_; have f4_ := f1_.symm; have f5_ := f3_.symm; clear f1_ f2_ f3_; subst f4_; subst f5_))
     refine hK.out _ _ ⟨(blk_cell BK321.out 0).trans rfl, (blk_cell BK321.out 1).trans rfl, (blk_cell BK321.out 2).trans rfl, (blk_cell BK321.out 3).trans rfl, (blk_cell BK321.out 4).trans rfl, (blk_cell BK322.out 0).trans rfl, (blk_cell BK322.out 1).trans rfl, (blk_cell BK322.out 2).trans rfl, (blk_cell BK322.out 3).trans rfl, (blk_cell BK322.out 4).trans rfl, (blk_cell BK322.out 5).trans rfl, (blk_cell BK322.out 6).trans rfl, (blk_cell BK322.out 7).trans rfl, (blk_cell BK322.out 8).trans rfl, (blk_cell BK322.out 9).trans rfl, (blk_cell BK322.out 10).trans rfl, (blk_cell BK322.out 11).trans rfl, (blk_cell BK322.out 12).trans rfl, (blk_cell BK322.out 13).trans rfl⟩ (fun hHeld => ?_)
     clear hK K
     refine norm_ (a' := ?_) ?_ ?_
     rotate_left
     ·show Act.put _ (some 18) _ = _
      simp only [Act.put, la_, lb_, lc_, i64_w, i32_w]
      rfl
     refine two_ (i := 3) (j := 8) (Ni := some 20) (Nj := some 5) d4x11 d4x9 rfl rfl rfl rfl (two_of HT_.out (by kernel_rfl)) (by decide) (by decide) (fun K hK => ?_) (fun K hK => ?_)
     ·skip
      refine goes_ Tryd.func15 (by kernel_rfl) rfl #[.agg #[.slice Ao24 t326.length co24, .int .i64 t329, .string t330, .int .u32 t331, .bool t332], .agg #[.int .i64 a1_0, .int .i64 a1_1, .string a1_2, .int .i64 a1_3, .int .i64 a1_4, .string a1_5, .bool a1_6, .slice A1_7 l1_7.length c1_7, .int .u64 a1_8, .int .u64 a1_9, .int .u64 a1_10, .int .i64 a1_11, .bool a1_12, .int .i64 a1_13]] (by rfl) rfl rfl (by (try simp only [List.map_toArray, List.map_cons, List.map_nil]); first | done | rfl | (simp only [List.length_drop, List.length_take]; rfl)) ?_
      with_reducible refine (resv_Do.calls kj2 (fun k_ => some k_ = (.slice Ao24 t326.length co24 : Value).ownBlock) _ _ t326 t329 t330 t331 t332 a1_0 a1_1 a1_2 a1_3 a1_4 a1_5 a1_6 _ _ l1_7 a1_8 a1_9 a1_10 a1_11 a1_12 a1_13 t333 t336 t337 t338 t339 t340 t343 _ ?side1 ?side2 ?side3 ?side4 A21.out).mono ?_
      (case side1 => exact Kd.R_V (Kd.R_tight rfl (Kd.R_types (Kd.R_types (HO328.out) BK321.out (by decide)) BK322.out (by decide))))
      (case side2 => repeat (first | exact (Kd.C_below HR1_7.out HB.out) | (with_reducible refine Kd.C_alloc ?_ _) | (with_reducible refine Kd.C_drewN ?_ _) | (with_reducible refine Kd.C_drew ?_)))
      (case side3 => exact HC1_7.out)
      (case side4 => first | ((refine Glob.keep HG.out ?_); (repeat (first | (with_reducible first | exact HB.out | apply below_alloc | apply pw_below_drewN | apply below_drew1 | refine below_set ?_ GE321.out | refine below_set ?_ GE322.out) | exact HB.out)); done) | exact HG.out)
      rintro e w25 ⟨v334, v341, rfl, ho0, ho1, hb⟩
      refine ⟨_, rfl, ?_⟩
      have n0_ := Aside0.mk (Kd.R_below (by (with_reducible repeat (first | apply Kd.R_alloc | apply Kd.R_drewN | apply Kd.R_drew)); exact HO328.out) hb)
      have n1_ := Aside0.mk (Kd.V_lower (Kd.V_mono (ok' := fun k_ => some k_ ≠ (v341 : Value).ownBlock ∧ k_ ≠ gb321 ∧ k_ ≠ gb322) ho0 (fun k_ hk_ => ⟨hk_.2, Or.elim hk_.1 (fun hs_ => ((Kd.R_types (Kd.R_types (HO328.out) BK321.out (by decide)) BK322.out (by decide)).1 k_ hs_.symm).1.2) (fun hn_ => (Kd.freshB (g := gb321) (o := .cells #[.slice A0_0 l0_0.length c0_0, .int .i64 a0_1, .string a0_2, .int .u32 a0_3, .bool a0_4] 27 (0, 0)) (bk_ BK321) k_ hn_)), Or.elim hk_.1 (fun hs_ => ((Kd.R_types (Kd.R_types (HO328.out) BK321.out (by decide)) BK322.out (by decide)).1 k_ hs_.symm).2) (fun hn_ => (Kd.freshB (g := gb322) (o := .cells #[.int .i64 a1_0, .int .i64 a1_1, .string a1_2, .int .i64 a1_3, .int .i64 a1_4, .string a1_5, .bool a1_6, .slice A1_7 l1_7.length c1_7, .int .u64 a1_8, .int .u64 a1_9, .int .u64 a1_10, .int .i64 a1_11, .bool a1_12, .int .i64 a1_13] 31 (0, 0)) (bk_ BK322) k_ hn_))⟩)) (below_size (hb_ HB)))
      have n2_ := Aside0.mk (Kd.R_lower (Kd.R_mono (ok' := fun k_ => True) ho1 (fun _ hk_ => trivial)) (below_size (hb_ HB)))
      have n3_ := Aside0.mk (blk_below (bk_ BK321) hb)
      have n4_ := Aside0.mk (blk_below (bk_ BK322) hb)
      have n5_ := Aside0.mk (below_step (hb_ HB) hb)
      clear HO328
      clear BK321
      clear BK322
      clear HB
      have HO328 := n0_
      have HO335 := n1_
      have HO342 := n2_
      have BK321 := n3_
      have BK322 := n4_
      have HB := n5_
      clear n0_ n1_ n2_ n3_ n4_ n5_
      (try clear hb)
      (try clear hb2)
      (try clear hk)
      (try clear hi)
      (try clear ho0)
      (try clear ho1)
      refine hK.out _ _ ⟨(blk_cell BK321.out 0).trans rfl, (blk_cell BK321.out 1).trans rfl, (blk_cell BK321.out 2).trans rfl, (blk_cell BK321.out 3).trans rfl, (blk_cell BK321.out 4).trans rfl, (blk_cell BK322.out 0).trans rfl, (blk_cell BK322.out 1).trans rfl, (blk_cell BK322.out 2).trans rfl, (blk_cell BK322.out 3).trans rfl, (blk_cell BK322.out 4).trans rfl, (blk_cell BK322.out 5).trans rfl, (blk_cell BK322.out 6).trans rfl, (blk_cell BK322.out 7).trans rfl, (blk_cell BK322.out 8).trans rfl, (blk_cell BK322.out 9).trans rfl, (blk_cell BK322.out 10).trans rfl, (blk_cell BK322.out 11).trans rfl, (blk_cell BK322.out 12).trans rfl, (blk_cell BK322.out 13).trans rfl⟩ (fun hHeld => ?_)
      clear hK K
      refine norm_ (a' := ?_) ?_ ?_
      rotate_left
      ·show Act.put _ (some 20) _ = _
       simp only [Act.put, la_, lb_, lc_, i64_w, i32_w]
       rfl
      refine pon_ 4 (some 16) d4x14 HT_.out ?_
      refine pon_ 5 (some 21) d4x17 HT_.out ?_
      refine pon_ 6 (some 22) d4x20 HT_.out ?_
      refine pon_ 7 (some 23) d4x23 HT_.out ?_
      refine one_ (i := 8) (N := some 5) d4x25 rfl rfl (one_of HT_.out (by kernel_rfl)) (by decide) (fun K hK => ?_)
      refine box_step ?hg (N := 5) ?hd (cs := #[.slice none 0 0, .int .i64 0, .string (⟨#[]⟩ : ByteArray), .int .u32 0, .bool false]) (t := 27) ?hr ?_; (case hd => rfl); (case hg => rfl); (case hr => first | (go_simp; done) | (go_simp; rfl))
      intro gb344 hg w26 hbox hb
      have n0_ := Aside0.mk (Kd.R_below (by (with_reducible repeat (first | apply Kd.R_alloc | apply Kd.R_drewN | apply Kd.R_drew)); exact HO328.out) hb)
      have n1_ := Aside0.mk (Kd.V_below (Kd.V_elderB (by (with_reducible repeat (first | apply Kd.V_alloc | apply Kd.V_drewN | apply Kd.V_drew)); exact HO335.out) gb344 (Nat.le_of_eq hg.symm)) hb)
      have n2_ := Aside0.mk (Kd.R_below (by (with_reducible repeat (first | apply Kd.R_alloc | apply Kd.R_drewN | apply Kd.R_drew)); exact HO342.out) hb)
      have n3_ := Aside0.mk (blk_below (bk_ BK321) hb)
      have n4_ := Aside0.mk (blk_below (bk_ BK322) hb)
      have n5_ := Aside0.mk (below_step (hb_ HB) hb)
      have n6_ := Aside0.mk (hbox)
      have n7_ := Aside0.mk ((by rw [hg]; exact (below_size (hb_ HB)) : w.heap.size ≤ gb344))
      have n8_ := Aside0.mk ((by rw [hg]; exact (below_size (hb_ HB)) : w.heap.size ≤ gb344))
      have n9_ := Aside0.mk ((by rw [hg]; exact Nat.ne_of_lt (blk_lt (g := gb321) (o := .cells #[.slice A0_0 l0_0.length c0_0, .int .i64 a0_1, .string a0_2, .int .u32 a0_3, .bool a0_4] 27 (0, 0)) (bk_ BK321)) : gb321 ≠ gb344))
      have n10_ := Aside0.mk ((by rw [hg]; exact Nat.ne_of_gt (blk_lt (g := gb321) (o := .cells #[.slice A0_0 l0_0.length c0_0, .int .i64 a0_1, .string a0_2, .int .u32 a0_3, .bool a0_4] 27 (0, 0)) (bk_ BK321)) : gb344 ≠ gb321))
      have n11_ := Aside0.mk ((by rw [hg]; exact Nat.ne_of_lt (blk_lt (g := gb322) (o := .cells #[.int .i64 a1_0, .int .i64 a1_1, .string a1_2, .int .i64 a1_3, .int .i64 a1_4, .string a1_5, .bool a1_6, .slice A1_7 l1_7.length c1_7, .int .u64 a1_8, .int .u64 a1_9, .int .u64 a1_10, .int .i64 a1_11, .bool a1_12, .int .i64 a1_13] 31 (0, 0)) (bk_ BK322)) : gb322 ≠ gb344))
      have n12_ := Aside0.mk ((by rw [hg]; exact Nat.ne_of_gt (blk_lt (g := gb322) (o := .cells #[.int .i64 a1_0, .int .i64 a1_1, .string a1_2, .int .i64 a1_3, .int .i64 a1_4, .string a1_5, .bool a1_6, .slice A1_7 l1_7.length c1_7, .int .u64 a1_8, .int .u64 a1_9, .int .u64 a1_10, .int .i64 a1_11, .bool a1_12, .int .i64 a1_13] 31 (0, 0)) (bk_ BK322)) : gb344 ≠ gb322))
      clear HO328
      clear HO335
      clear HO342
      clear BK321
      clear BK322
      clear HB
      have HO328 := n0_
      have HO335 := n1_
      have HO342 := n2_
      have BK321 := n3_
      have BK322 := n4_
      have HB := n5_
      have BK344 := n6_
      have GW344 := n7_
      have GE344 := n8_
      have NB321_344 := n9_
      have NB344_321 := n10_
      have NB322_344 := n11_
      have NB344_322 := n12_
      clear n0_ n1_ n2_ n3_ n4_ n5_ n6_ n7_ n8_ n9_ n10_ n11_ n12_
      clear hb hbox hg
      refine hK.out _ _ ⟨(blk_cell BK321.out 0).trans rfl, (blk_cell BK321.out 1).trans rfl, (blk_cell BK321.out 2).trans rfl, (blk_cell BK321.out 3).trans rfl, (blk_cell BK321.out 4).trans rfl, (blk_cell BK322.out 0).trans rfl, (blk_cell BK322.out 1).trans rfl, (blk_cell BK322.out 2).trans rfl, (blk_cell BK322.out 3).trans rfl, (blk_cell BK322.out 4).trans rfl, (blk_cell BK322.out 5).trans rfl, (blk_cell BK322.out 6).trans rfl, (blk_cell BK322.out 7).trans rfl, (blk_cell BK322.out 8).trans rfl, (blk_cell BK322.out 9).trans rfl, (blk_cell BK322.out 10).trans rfl, (blk_cell BK322.out 11).trans rfl, (blk_cell BK322.out 12).trans rfl, (blk_cell BK322.out 13).trans rfl⟩ (fun hHeld => ?_)
      clear hK K
      refine norm_ (a' := ?_) ?_ ?_
      rotate_left
      ·show Act.put _ (some 5) _ = _
       simp only [Act.put, la_, lb_, lc_, i64_w, i32_w]
       rfl
      exact norm_ (by simp only [putAll, Act.put, la_, lb_, lc_]) (hCont (.slice Ao24 t326.length co24, v334, v341, gb344) _ ⟨hHeld, (by (with_reducible repeat (first | apply Kd.R_alloc | apply Kd.R_drewN | apply Kd.R_drew)); exact HO328.out), (by (with_reducible repeat (first | apply Kd.V_alloc | apply Kd.V_drewN | apply Kd.V_drew)); exact Kd.V_mono HO335.out (fun _ hk => ⟨hk.1.1, ⟨hk.1.2.1, ⟨hk.1.2.2, hk.2⟩⟩⟩)), (by (with_reducible repeat (first | apply Kd.R_alloc | apply Kd.R_drewN | apply Kd.R_drew)); exact HO342.out), (bk_ BK321), (bk_ BK322), (bk_ BK344), GW344.out, GE344.out, NB321_344.out, NB344_321.out, NB322_344.out, NB344_322.out, (hb_ HB)⟩)
     ·skip
      refine box_step ?hg (N := 5) ?hd (cs := #[.slice none 0 0, .int .i64 0, .string (⟨#[]⟩ : ByteArray), .int .u32 0, .bool false]) (t := 27) ?hr ?_; (case hd => rfl); (case hg => rfl); (case hr => first | (go_simp; done) | (go_simp; rfl))
      intro gb344 hg w24 hbox hb
      have n0_ := Aside0.mk (Kd.R_below (by (with_reducible repeat (first | apply Kd.R_alloc | apply Kd.R_drewN | apply Kd.R_drew)); exact HO328.out) hb)
      have n1_ := Aside0.mk (blk_below (bk_ BK321) hb)
      have n2_ := Aside0.mk (blk_below (bk_ BK322) hb)
      have n3_ := Aside0.mk (below_step (hb_ HB) hb)
      have n4_ := Aside0.mk (hbox)
      have n5_ := Aside0.mk ((by rw [hg]; exact (below_size (hb_ HB)) : w.heap.size ≤ gb344))
      have n6_ := Aside0.mk ((by rw [hg]; exact (below_size (hb_ HB)) : w.heap.size ≤ gb344))
      have n7_ := Aside0.mk ((by rw [hg]; exact Nat.ne_of_lt (blk_lt (g := gb321) (o := .cells #[.slice A0_0 l0_0.length c0_0, .int .i64 a0_1, .string a0_2, .int .u32 a0_3, .bool a0_4] 27 (0, 0)) (bk_ BK321)) : gb321 ≠ gb344))
      have n8_ := Aside0.mk ((by rw [hg]; exact Nat.ne_of_gt (blk_lt (g := gb321) (o := .cells #[.slice A0_0 l0_0.length c0_0, .int .i64 a0_1, .string a0_2, .int .u32 a0_3, .bool a0_4] 27 (0, 0)) (bk_ BK321)) : gb344 ≠ gb321))
      have n9_ := Aside0.mk ((by rw [hg]; exact Nat.ne_of_lt (blk_lt (g := gb322) (o := .cells #[.int .i64 a1_0, .int .i64 a1_1, .string a1_2, .int .i64 a1_3, .int .i64 a1_4, .string a1_5, .bool a1_6, .slice A1_7 l1_7.length c1_7, .int .u64 a1_8, .int .u64 a1_9, .int .u64 a1_10, .int .i64 a1_11, .bool a1_12, .int .i64 a1_13] 31 (0, 0)) (bk_ BK322)) : gb322 ≠ gb344))
      have n10_ := Aside0.mk ((by rw [hg]; exact Nat.ne_of_gt (blk_lt (g := gb322) (o := .cells #[.int .i64 a1_0, .int .i64 a1_1, .string a1_2, .int .i64 a1_3, .int .i64 a1_4, .string a1_5, .bool a1_6, .slice A1_7 l1_7.length c1_7, .int .u64 a1_8, .int .u64 a1_9, .int .u64 a1_10, .int .i64 a1_11, .bool a1_12, .int .i64 a1_13] 31 (0, 0)) (bk_ BK322)) : gb344 ≠ gb322))
      clear HO328
      clear BK321
      clear BK322
      clear HB
      have HO328 := n0_
      have BK321 := n1_
      have BK322 := n2_
      have HB := n3_
      have BK344 := n4_
      have GW344 := n5_
      have GE344 := n6_
      have NB321_344 := n7_
      have NB344_321 := n8_
      have NB322_344 := n9_
      have NB344_322 := n10_
      clear n0_ n1_ n2_ n3_ n4_ n5_ n6_ n7_ n8_ n9_ n10_
      clear hb hbox hg
      obtain ⟨Ao25, co25, eo25⟩ := Kd.R_slice HO328.out
      (first | subst eo25 | (injection eo25 with f1_ f2_ f3_; have f4_ := f1_.symm; have f5_ := f3_.symm; clear f1_ f2_ f3_; subst f4_; subst f5_))
      refine hK.out _ _ ⟨(blk_cell BK321.out 0).trans rfl, (blk_cell BK321.out 1).trans rfl, (blk_cell BK321.out 2).trans rfl, (blk_cell BK321.out 3).trans rfl, (blk_cell BK321.out 4).trans rfl, (blk_cell BK322.out 0).trans rfl, (blk_cell BK322.out 1).trans rfl, (blk_cell BK322.out 2).trans rfl, (blk_cell BK322.out 3).trans rfl, (blk_cell BK322.out 4).trans rfl, (blk_cell BK322.out 5).trans rfl, (blk_cell BK322.out 6).trans rfl, (blk_cell BK322.out 7).trans rfl, (blk_cell BK322.out 8).trans rfl, (blk_cell BK322.out 9).trans rfl, (blk_cell BK322.out 10).trans rfl, (blk_cell BK322.out 11).trans rfl, (blk_cell BK322.out 12).trans rfl, (blk_cell BK322.out 13).trans rfl⟩ (fun hHeld => ?_)
      clear hK K
      refine norm_ (a' := ?_) ?_ ?_
      rotate_left
      ·show Act.put _ (some 5) _ = _
       simp only [Act.put, la_, lb_, lc_, i64_w, i32_w]
       rfl
      refine one_ (i := 3) (N := some 20) d4x12 rfl rfl (one_of HT_.out (by kernel_rfl)) (by decide) (fun K hK => ?_)
      refine goes_ Tryd.func15 (by kernel_rfl) rfl #[.agg #[.slice Ao25 t326.length co25, .int .i64 t329, .string t330, .int .u32 t331, .bool t332], .agg #[.int .i64 a1_0, .int .i64 a1_1, .string a1_2, .int .i64 a1_3, .int .i64 a1_4, .string a1_5, .bool a1_6, .slice A1_7 l1_7.length c1_7, .int .u64 a1_8, .int .u64 a1_9, .int .u64 a1_10, .int .i64 a1_11, .bool a1_12, .int .i64 a1_13]] (by rfl) rfl rfl (by (try simp only [List.map_toArray, List.map_cons, List.map_nil]); first | done | rfl | (simp only [List.length_drop, List.length_take]; rfl)) ?_
      with_reducible refine (resv_Do.calls kj2 (fun k_ => some k_ = (.slice Ao25 t326.length co25 : Value).ownBlock) _ _ t326 t329 t330 t331 t332 a1_0 a1_1 a1_2 a1_3 a1_4 a1_5 a1_6 _ _ l1_7 a1_8 a1_9 a1_10 a1_11 a1_12 a1_13 t333 t336 t337 t338 t339 t340 t343 _ ?side1 ?side2 ?side3 ?side4 A21.out).mono ?_
      (case side1 => exact Kd.R_V (Kd.R_tight rfl (Kd.R_types (Kd.R_types (Kd.R_types (HO328.out) BK321.out (by decide)) BK322.out (by decide)) BK344.out (by decide))))
      (case side2 => repeat (first | exact (Kd.C_below HR1_7.out HB.out) | (with_reducible refine Kd.C_alloc ?_ _) | (with_reducible refine Kd.C_drewN ?_ _) | (with_reducible refine Kd.C_drew ?_)))
      (case side3 => exact HC1_7.out)
      (case side4 => first | ((refine Glob.keep HG.out ?_); (repeat (first | (with_reducible first | exact HB.out | apply below_alloc | apply pw_below_drewN | apply below_drew1 | refine below_set ?_ GE321.out | refine below_set ?_ GE322.out | refine below_set ?_ GE344.out) | exact HB.out)); done) | exact HG.out)
      rintro e w26 ⟨v334, v341, rfl, ho0, ho1, hb⟩
      refine ⟨_, rfl, ?_⟩
      have n0_ := Aside0.mk (Kd.R_below (by (with_reducible repeat (first | apply Kd.R_alloc | apply Kd.R_drewN | apply Kd.R_drew)); exact HO328.out) hb)
      have n1_ := Aside0.mk (Kd.V_lower (Kd.V_mono (ok' := fun k_ => some k_ ≠ (v341 : Value).ownBlock ∧ k_ ≠ gb321 ∧ k_ ≠ gb322 ∧ k_ ≠ gb344) ho0 (fun k_ hk_ => ⟨hk_.2, Or.elim hk_.1 (fun hs_ => ((Kd.R_types (Kd.R_types (Kd.R_types (HO328.out) BK321.out (by decide)) BK322.out (by decide)) BK344.out (by decide)).1 k_ hs_.symm).1.1.2) (fun hn_ => (Kd.freshB (g := gb321) (o := .cells #[.slice A0_0 l0_0.length c0_0, .int .i64 a0_1, .string a0_2, .int .u32 a0_3, .bool a0_4] 27 (0, 0)) (bk_ BK321) k_ hn_)), Or.elim hk_.1 (fun hs_ => ((Kd.R_types (Kd.R_types (Kd.R_types (HO328.out) BK321.out (by decide)) BK322.out (by decide)) BK344.out (by decide)).1 k_ hs_.symm).1.2) (fun hn_ => (Kd.freshB (g := gb322) (o := .cells #[.int .i64 a1_0, .int .i64 a1_1, .string a1_2, .int .i64 a1_3, .int .i64 a1_4, .string a1_5, .bool a1_6, .slice A1_7 l1_7.length c1_7, .int .u64 a1_8, .int .u64 a1_9, .int .u64 a1_10, .int .i64 a1_11, .bool a1_12, .int .i64 a1_13] 31 (0, 0)) (bk_ BK322) k_ hn_)), Or.elim hk_.1 (fun hs_ => ((Kd.R_types (Kd.R_types (Kd.R_types (HO328.out) BK321.out (by decide)) BK322.out (by decide)) BK344.out (by decide)).1 k_ hs_.symm).2) (fun hn_ => (Kd.freshB (g := gb344) (o := .cells #[.slice none 0 0, .int .i64 0, .string (⟨#[]⟩ : ByteArray), .int .u32 0, .bool false] 27 (0, 0)) (bk_ BK344) k_ hn_))⟩)) (below_size (hb_ HB)))
      have n2_ := Aside0.mk (Kd.R_lower (Kd.R_mono (ok' := fun k_ => True) ho1 (fun _ hk_ => trivial)) (below_size (hb_ HB)))
      have n3_ := Aside0.mk (blk_below (bk_ BK321) hb)
      have n4_ := Aside0.mk (blk_below (bk_ BK322) hb)
      have n5_ := Aside0.mk (blk_below (bk_ BK344) hb)
      have n6_ := Aside0.mk (below_step (hb_ HB) hb)
      clear HO328
      clear BK321
      clear BK322
      clear BK344
      clear HB
      have HO328 := n0_
      have HO335 := n1_
      have HO342 := n2_
      have BK321 := n3_
      have BK322 := n4_
      have BK344 := n5_
      have HB := n6_
      clear n0_ n1_ n2_ n3_ n4_ n5_ n6_
      (try clear hb)
      (try clear hb2)
      (try clear hk)
      (try clear hi)
      (try clear ho0)
      (try clear ho1)
      refine hK.out _ _ ⟨(blk_cell BK321.out 0).trans rfl, (blk_cell BK321.out 1).trans rfl, (blk_cell BK321.out 2).trans rfl, (blk_cell BK321.out 3).trans rfl, (blk_cell BK321.out 4).trans rfl, (blk_cell BK322.out 0).trans rfl, (blk_cell BK322.out 1).trans rfl, (blk_cell BK322.out 2).trans rfl, (blk_cell BK322.out 3).trans rfl, (blk_cell BK322.out 4).trans rfl, (blk_cell BK322.out 5).trans rfl, (blk_cell BK322.out 6).trans rfl, (blk_cell BK322.out 7).trans rfl, (blk_cell BK322.out 8).trans rfl, (blk_cell BK322.out 9).trans rfl, (blk_cell BK322.out 10).trans rfl, (blk_cell BK322.out 11).trans rfl, (blk_cell BK322.out 12).trans rfl, (blk_cell BK322.out 13).trans rfl⟩ (fun hHeld => ?_)
      clear hK K
      refine norm_ (a' := ?_) ?_ ?_
      rotate_left
      ·show Act.put _ (some 20) _ = _
       simp only [Act.put, la_, lb_, lc_, i64_w, i32_w]
       rfl
      refine pon_ 4 (some 16) d4x15 HT_.out ?_
      refine pon_ 5 (some 21) d4x18 HT_.out ?_
      refine pon_ 6 (some 22) d4x21 HT_.out ?_
      refine pon_ 7 (some 23) d4x25 HT_.out ?_
      exact norm_ (by simp only [putAll, Act.put, la_, lb_, lc_]) (hCont (.slice Ao25 t326.length co25, v334, v341, gb344) _ ⟨hHeld, (by (with_reducible repeat (first | apply Kd.R_alloc | apply Kd.R_drewN | apply Kd.R_drew)); exact HO328.out), (by (with_reducible repeat (first | apply Kd.V_alloc | apply Kd.V_drewN | apply Kd.V_drew)); exact HO335.out), (by (with_reducible repeat (first | apply Kd.R_alloc | apply Kd.R_drewN | apply Kd.R_drew)); exact HO342.out), (bk_ BK321), (bk_ BK322), (bk_ BK344), GW344.out, GE344.out, NB321_344.out, NB344_321.out, NB322_344.out, NB344_322.out, (hb_ HB)⟩)
    ·skip
     refine box_step ?hg (N := 5) ?hd (cs := #[.slice none 0 0, .int .i64 0, .string (⟨#[]⟩ : ByteArray), .int .u32 0, .bool false]) (t := 27) ?hr ?_; (case hd => rfl); (case hg => rfl); (case hr => first | (go_simp; done) | (go_simp; rfl))
     intro gb344 hg w23 hbox hb
     have n0_ := Aside0.mk (blk_below (bk_ BK321) hb)
     have n1_ := Aside0.mk (blk_below (bk_ BK322) hb)
     have n2_ := Aside0.mk (below_step (hb_ HB) hb)
     have n3_ := Aside0.mk (hbox)
     have n4_ := Aside0.mk ((by rw [hg]; exact (below_size (hb_ HB)) : w.heap.size ≤ gb344))
     have n5_ := Aside0.mk ((by rw [hg]; exact (below_size (hb_ HB)) : w.heap.size ≤ gb344))
     have n6_ := Aside0.mk ((by rw [hg]; exact Nat.ne_of_lt (blk_lt (g := gb321) (o := .cells #[.slice A0_0 l0_0.length c0_0, .int .i64 a0_1, .string a0_2, .int .u32 a0_3, .bool a0_4] 27 (0, 0)) (bk_ BK321)) : gb321 ≠ gb344))
     have n7_ := Aside0.mk ((by rw [hg]; exact Nat.ne_of_gt (blk_lt (g := gb321) (o := .cells #[.slice A0_0 l0_0.length c0_0, .int .i64 a0_1, .string a0_2, .int .u32 a0_3, .bool a0_4] 27 (0, 0)) (bk_ BK321)) : gb344 ≠ gb321))
     have n8_ := Aside0.mk ((by rw [hg]; exact Nat.ne_of_lt (blk_lt (g := gb322) (o := .cells #[.int .i64 a1_0, .int .i64 a1_1, .string a1_2, .int .i64 a1_3, .int .i64 a1_4, .string a1_5, .bool a1_6, .slice A1_7 l1_7.length c1_7, .int .u64 a1_8, .int .u64 a1_9, .int .u64 a1_10, .int .i64 a1_11, .bool a1_12, .int .i64 a1_13] 31 (0, 0)) (bk_ BK322)) : gb322 ≠ gb344))
     have n9_ := Aside0.mk ((by rw [hg]; exact Nat.ne_of_gt (blk_lt (g := gb322) (o := .cells #[.int .i64 a1_0, .int .i64 a1_1, .string a1_2, .int .i64 a1_3, .int .i64 a1_4, .string a1_5, .bool a1_6, .slice A1_7 l1_7.length c1_7, .int .u64 a1_8, .int .u64 a1_9, .int .u64 a1_10, .int .i64 a1_11, .bool a1_12, .int .i64 a1_13] 31 (0, 0)) (bk_ BK322)) : gb344 ≠ gb322))
     clear BK321
     clear BK322
     clear HB
     have BK321 := n0_
     have BK322 := n1_
     have HB := n2_
     have BK344 := n3_
     have GW344 := n4_
     have GE344 := n5_
     have NB321_344 := n6_
     have NB344_321 := n7_
     have NB322_344 := n8_
     have NB344_322 := n9_
     clear n0_ n1_ n2_ n3_ n4_ n5_ n6_ n7_ n8_ n9_
     clear hb hbox hg
     refine hK.out _ _ ⟨(blk_cell BK321.out 0).trans rfl, (blk_cell BK321.out 1).trans rfl, (blk_cell BK321.out 2).trans rfl, (blk_cell BK321.out 3).trans rfl, (blk_cell BK321.out 4).trans rfl, (blk_cell BK322.out 0).trans rfl, (blk_cell BK322.out 1).trans rfl, (blk_cell BK322.out 2).trans rfl, (blk_cell BK322.out 3).trans rfl, (blk_cell BK322.out 4).trans rfl, (blk_cell BK322.out 5).trans rfl, (blk_cell BK322.out 6).trans rfl, (blk_cell BK322.out 7).trans rfl, (blk_cell BK322.out 8).trans rfl, (blk_cell BK322.out 9).trans rfl, (blk_cell BK322.out 10).trans rfl, (blk_cell BK322.out 11).trans rfl, (blk_cell BK322.out 12).trans rfl, (blk_cell BK322.out 13).trans rfl⟩ (fun hHeld => ?_)
     clear hK K
     refine norm_ (a' := ?_) ?_ ?_
     rotate_left
     ·show Act.put _ (some 5) _ = _
      simp only [Act.put, la_, lb_, lc_, i64_w, i32_w]
      rfl
     refine one_ (i := 1) (N := some 18) d4x9 rfl rfl (one_of HT_.out (by kernel_rfl)) (by decide) (fun K hK => ?_)
     refine goes_ Tryd.func14 (by kernel_rfl) rfl #[.agg #[.slice A0_0 l0_0.length c0_0, .int .i64 a0_1, .string a0_2, .int .u32 a0_3, .bool a0_4]] (by rfl) rfl rfl (by (try simp only [List.map_toArray, List.map_cons, List.map_nil]); first | done | rfl | (simp only [List.length_drop, List.length_take]; rfl)) ?_
     with_reducible refine (headgatekeep_CopyTable.calls _ _ l0_0 a0_1 a0_2 a0_3 a0_4 t326 t329 t330 t331 t332 _ ?side1 ?side2 A20.out).mono ?_
     (case side1 => repeat (first | exact (Kd.C_below HR0_0.out HB.out) | (with_reducible refine Kd.C_alloc ?_ _) | (with_reducible refine Kd.C_drewN ?_ _) | (with_reducible refine Kd.C_drew ?_)))
     (case side2 => exact HC0_0.out)
     rintro e w24 ⟨v327, rfl, ho0, hb⟩
     refine ⟨_, rfl, ?_⟩
     have n0_ := Aside0.mk (Kd.R_lower ho0 (below_size (hb_ HB)))
     have n1_ := Aside0.mk (blk_below (bk_ BK321) hb)
     have n2_ := Aside0.mk (blk_below (bk_ BK322) hb)
     have n3_ := Aside0.mk (blk_below (bk_ BK344) hb)
     have n4_ := Aside0.mk (below_step (hb_ HB) hb)
     clear BK321
     clear BK322
     clear BK344
     clear HB
     have HO328 := n0_
     have BK321 := n1_
     have BK322 := n2_
     have BK344 := n3_
     have HB := n4_
     clear n0_ n1_ n2_ n3_ n4_
     (try clear hb)
     (try clear hb2)
     (try clear hk)
     (try clear hi)
     (try clear ho0)
     obtain ⟨Ao25, co25, eo25⟩ := Kd.R_slice HO328.out
     (first | subst eo25 | (injection eo25 with f1_ f2_ f3_; have f4_ := f1_.symm; have f5_ := f3_.symm; clear f1_ f2_ f3_; subst f4_; subst f5_))
     refine hK.out _ _ ⟨(blk_cell BK321.out 0).trans rfl, (blk_cell BK321.out 1).trans rfl, (blk_cell BK321.out 2).trans rfl, (blk_cell BK321.out 3).trans rfl, (blk_cell BK321.out 4).trans rfl, (blk_cell BK322.out 0).trans rfl, (blk_cell BK322.out 1).trans rfl, (blk_cell BK322.out 2).trans rfl, (blk_cell BK322.out 3).trans rfl, (blk_cell BK322.out 4).trans rfl, (blk_cell BK322.out 5).trans rfl, (blk_cell BK322.out 6).trans rfl, (blk_cell BK322.out 7).trans rfl, (blk_cell BK322.out 8).trans rfl, (blk_cell BK322.out 9).trans rfl, (blk_cell BK322.out 10).trans rfl, (blk_cell BK322.out 11).trans rfl, (blk_cell BK322.out 12).trans rfl, (blk_cell BK322.out 13).trans rfl⟩ (fun hHeld => ?_)
     clear hK K
     refine norm_ (a' := ?_) ?_ ?_
     rotate_left
     ·show Act.put _ (some 18) _ = _
      simp only [Act.put, la_, lb_, lc_, i64_w, i32_w]
      rfl
     refine one_ (i := 3) (N := some 20) d4x12 rfl rfl (one_of HT_.out (by kernel_rfl)) (by decide) (fun K hK => ?_)
     refine goes_ Tryd.func15 (by kernel_rfl) rfl #[.agg #[.slice Ao25 t326.length co25, .int .i64 t329, .string t330, .int .u32 t331, .bool t332], .agg #[.int .i64 a1_0, .int .i64 a1_1, .string a1_2, .int .i64 a1_3, .int .i64 a1_4, .string a1_5, .bool a1_6, .slice A1_7 l1_7.length c1_7, .int .u64 a1_8, .int .u64 a1_9, .int .u64 a1_10, .int .i64 a1_11, .bool a1_12, .int .i64 a1_13]] (by rfl) rfl rfl (by (try simp only [List.map_toArray, List.map_cons, List.map_nil]); first | done | rfl | (simp only [List.length_drop, List.length_take]; rfl)) ?_
     with_reducible refine (resv_Do.calls kj2 (fun k_ => some k_ = (.slice Ao25 t326.length co25 : Value).ownBlock) _ _ t326 t329 t330 t331 t332 a1_0 a1_1 a1_2 a1_3 a1_4 a1_5 a1_6 _ _ l1_7 a1_8 a1_9 a1_10 a1_11 a1_12 a1_13 t333 t336 t337 t338 t339 t340 t343 _ ?side1 ?side2 ?side3 ?side4 A21.out).mono ?_
     (case side1 => exact Kd.R_V (Kd.R_tight rfl (Kd.R_types (Kd.R_types (Kd.R_types (HO328.out) BK321.out (by decide)) BK322.out (by decide)) BK344.out (by decide))))
     (case side2 => repeat (first | exact (Kd.C_below HR1_7.out HB.out) | (with_reducible refine Kd.C_alloc ?_ _) | (with_reducible refine Kd.C_drewN ?_ _) | (with_reducible refine Kd.C_drew ?_)))
     (case side3 => exact HC1_7.out)
     (case side4 => first | ((refine Glob.keep HG.out ?_); (repeat (first | (with_reducible first | exact HB.out | apply below_alloc | apply pw_below_drewN | apply below_drew1 | refine below_set ?_ GE321.out | refine below_set ?_ GE322.out | refine below_set ?_ GE344.out) | exact HB.out)); done) | exact HG.out)
     rintro e w26 ⟨v334, v341, rfl, ho0, ho1, hb⟩
     refine ⟨_, rfl, ?_⟩
     have n0_ := Aside0.mk (Kd.R_below (by (with_reducible repeat (first | apply Kd.R_alloc | apply Kd.R_drewN | apply Kd.R_drew)); exact HO328.out) hb)
     have n1_ := Aside0.mk (Kd.V_lower (Kd.V_mono (ok' := fun k_ => some k_ ≠ (v341 : Value).ownBlock ∧ k_ ≠ gb321 ∧ k_ ≠ gb322 ∧ k_ ≠ gb344) ho0 (fun k_ hk_ => ⟨hk_.2, Or.elim hk_.1 (fun hs_ => ((Kd.R_types (Kd.R_types (Kd.R_types (HO328.out) BK321.out (by decide)) BK322.out (by decide)) BK344.out (by decide)).1 k_ hs_.symm).1.1.2) (fun hn_ => (Kd.freshB (g := gb321) (o := .cells #[.slice A0_0 l0_0.length c0_0, .int .i64 a0_1, .string a0_2, .int .u32 a0_3, .bool a0_4] 27 (0, 0)) (bk_ BK321) k_ hn_)), Or.elim hk_.1 (fun hs_ => ((Kd.R_types (Kd.R_types (Kd.R_types (HO328.out) BK321.out (by decide)) BK322.out (by decide)) BK344.out (by decide)).1 k_ hs_.symm).1.2) (fun hn_ => (Kd.freshB (g := gb322) (o := .cells #[.int .i64 a1_0, .int .i64 a1_1, .string a1_2, .int .i64 a1_3, .int .i64 a1_4, .string a1_5, .bool a1_6, .slice A1_7 l1_7.length c1_7, .int .u64 a1_8, .int .u64 a1_9, .int .u64 a1_10, .int .i64 a1_11, .bool a1_12, .int .i64 a1_13] 31 (0, 0)) (bk_ BK322) k_ hn_)), Or.elim hk_.1 (fun hs_ => ((Kd.R_types (Kd.R_types (Kd.R_types (HO328.out) BK321.out (by decide)) BK322.out (by decide)) BK344.out (by decide)).1 k_ hs_.symm).2) (fun hn_ => (Kd.freshB (g := gb344) (o := .cells #[.slice none 0 0, .int .i64 0, .string (⟨#[]⟩ : ByteArray), .int .u32 0, .bool false] 27 (0, 0)) (bk_ BK344) k_ hn_))⟩)) (below_size (hb_ HB)))
     have n2_ := Aside0.mk (Kd.R_lower (Kd.R_mono (ok' := fun k_ => True) ho1 (fun _ hk_ => trivial)) (below_size (hb_ HB)))
     have n3_ := Aside0.mk (blk_below (bk_ BK321) hb)
     have n4_ := Aside0.mk (blk_below (bk_ BK322) hb)
     have n5_ := Aside0.mk (blk_below (bk_ BK344) hb)
     have n6_ := Aside0.mk (below_step (hb_ HB) hb)
     clear HO328
     clear BK321
     clear BK322
     clear BK344
     clear HB
     have HO328 := n0_
     have HO335 := n1_
     have HO342 := n2_
     have BK321 := n3_
     have BK322 := n4_
     have BK344 := n5_
     have HB := n6_
     clear n0_ n1_ n2_ n3_ n4_ n5_ n6_
     (try clear hb)
     (try clear hb2)
     (try clear hk)
     (try clear hi)
     (try clear ho0)
     (try clear ho1)
     refine hK.out _ _ ⟨(blk_cell BK321.out 0).trans rfl, (blk_cell BK321.out 1).trans rfl, (blk_cell BK321.out 2).trans rfl, (blk_cell BK321.out 3).trans rfl, (blk_cell BK321.out 4).trans rfl, (blk_cell BK322.out 0).trans rfl, (blk_cell BK322.out 1).trans rfl, (blk_cell BK322.out 2).trans rfl, (blk_cell BK322.out 3).trans rfl, (blk_cell BK322.out 4).trans rfl, (blk_cell BK322.out 5).trans rfl, (blk_cell BK322.out 6).trans rfl, (blk_cell BK322.out 7).trans rfl, (blk_cell BK322.out 8).trans rfl, (blk_cell BK322.out 9).trans rfl, (blk_cell BK322.out 10).trans rfl, (blk_cell BK322.out 11).trans rfl, (blk_cell BK322.out 12).trans rfl, (blk_cell BK322.out 13).trans rfl⟩ (fun hHeld => ?_)
     clear hK K
     refine norm_ (a' := ?_) ?_ ?_
     rotate_left
     ·show Act.put _ (some 20) _ = _
      simp only [Act.put, la_, lb_, lc_, i64_w, i32_w]
      rfl
     refine pon_ 4 (some 16) d4x15 HT_.out ?_
     refine pon_ 5 (some 21) d4x18 HT_.out ?_
     refine pon_ 6 (some 22) d4x21 HT_.out ?_
     refine pon_ 7 (some 23) d4x25 HT_.out ?_
     exact norm_ (by simp only [putAll, Act.put, la_, lb_, lc_]) (hCont (.slice Ao25 t326.length co25, v334, v341, gb344) _ ⟨hHeld, (by (with_reducible repeat (first | apply Kd.R_alloc | apply Kd.R_drewN | apply Kd.R_drew)); exact HO328.out), (by (with_reducible repeat (first | apply Kd.V_alloc | apply Kd.V_drewN | apply Kd.V_drew)); exact HO335.out), (by (with_reducible repeat (first | apply Kd.R_alloc | apply Kd.R_drewN | apply Kd.R_drew)); exact HO342.out), (bk_ BK321), (bk_ BK322), (bk_ BK344), GW344.out, GE344.out, NB321_344.out, NB344_321.out, NB322_344.out, NB344_322.out, (hb_ HB)⟩)
   rintro ⟨v327, v334, v341, gb344⟩ w27 ⟨hS_, h0_, h1_, h2_, h3_, h4_, h5_, h6_, h7_, h8_, h9_, h10_, h11_, h12_⟩
   have n0_ : Aside0 (Kd.R k53 53 w27 w.heap.size (fun _ => True) v327 t326) := ⟨h0_⟩
   have n1_ : Aside0 (Kd.V k53 53 w27 w.heap.size (fun k_ => some k_ ≠ (v341 : Value).ownBlock ∧ k_ ≠ gb321 ∧ k_ ≠ gb322 ∧ k_ ≠ gb344) v334 t333) := ⟨h1_⟩
   have n2_ : Aside0 (Kd.R k46 46 w27 w.heap.size (fun _ => True) v341 t340) := ⟨h2_⟩
   have n3_ : Aside0 (w27.heap[gb321]? = some (.cells #[.slice A0_0 l0_0.length c0_0, .int .i64 a0_1, .string a0_2, .int .u32 a0_3, .bool a0_4] 27 (0, 0))) := ⟨h3_⟩
   have n4_ : Aside0 (w27.heap[gb322]? = some (.cells #[.int .i64 a1_0, .int .i64 a1_1, .string a1_2, .int .i64 a1_3, .int .i64 a1_4, .string a1_5, .bool a1_6, .slice A1_7 l1_7.length c1_7, .int .u64 a1_8, .int .u64 a1_9, .int .u64 a1_10, .int .i64 a1_11, .bool a1_12, .int .i64 a1_13] 31 (0, 0))) := ⟨h4_⟩
   have n5_ : Aside0 (w27.heap[gb344]? = some (.cells #[.slice none 0 0, .int .i64 0, .string (⟨#[]⟩ : ByteArray), .int .u32 0, .bool false] 27 (0, 0))) := ⟨h5_⟩
   have n6_ : Aside0 (w.heap.size ≤ gb344) := ⟨h6_⟩
   have n7_ : Aside0 (w.heap.size ≤ gb344) := ⟨h7_⟩
   have n8_ : Aside0 (gb321 ≠ gb344) := ⟨h8_⟩
   have n9_ : Aside0 (gb344 ≠ gb321) := ⟨h9_⟩
   have n10_ : Aside0 (gb322 ≠ gb344) := ⟨h10_⟩
   have n11_ : Aside0 (gb344 ≠ gb322) := ⟨h11_⟩
   have n12_ : Aside0 (Below w.heap.size w w27) := ⟨h12_⟩
   clear BK321
   clear BK322
   clear HB
   clear h0_ h1_ h2_ h3_ h4_ h5_ h6_ h7_ h8_ h9_ h10_ h11_ h12_
   have HO328 := n0_
   have HO335 := n1_
   have HO342 := n2_
   have BK321 := n3_
   have BK322 := n4_
   have BK344 := n5_
   have GW344 := n6_
   have GE344 := n7_
   have NB321_344 := n8_
   have NB344_321 := n9_
   have NB322_344 := n10_
   have NB344_322 := n11_
   have HB := n12_
   clear n0_ n1_ n2_ n3_ n4_ n5_ n6_ n7_ n8_ n9_ n10_ n11_ n12_
   have hHeld : w27.cell? ⟨gb321, 0, none⟩ = some (.slice A0_0 l0_0.length c0_0) ∧ w27.cell? ⟨gb321, 1, none⟩ = some (.int .i64 a0_1) ∧ w27.cell? ⟨gb321, 2, none⟩ = some (.string a0_2) ∧ w27.cell? ⟨gb321, 3, none⟩ = some (.int .u32 a0_3) ∧ w27.cell? ⟨gb321, 4, none⟩ = some (.bool a0_4) ∧ w27.cell? ⟨gb322, 0, none⟩ = some (.int .i64 a1_0) ∧ w27.cell? ⟨gb322, 1, none⟩ = some (.int .i64 a1_1) ∧ w27.cell? ⟨gb322, 2, none⟩ = some (.string a1_2) ∧ w27.cell? ⟨gb322, 3, none⟩ = some (.int .i64 a1_3) ∧ w27.cell? ⟨gb322, 4, none⟩ = some (.int .i64 a1_4) ∧ w27.cell? ⟨gb322, 5, none⟩ = some (.string a1_5) ∧ w27.cell? ⟨gb322, 6, none⟩ = some (.bool a1_6) ∧ w27.cell? ⟨gb322, 7, none⟩ = some (.slice A1_7 l1_7.length c1_7) ∧ w27.cell? ⟨gb322, 8, none⟩ = some (.int .u64 a1_8) ∧ w27.cell? ⟨gb322, 9, none⟩ = some (.int .u64 a1_9) ∧ w27.cell? ⟨gb322, 10, none⟩ = some (.int .u64 a1_10) ∧ w27.cell? ⟨gb322, 11, none⟩ = some (.int .i64 a1_11) ∧ w27.cell? ⟨gb322, 12, none⟩ = some (.bool a1_12) ∧ w27.cell? ⟨gb322, 13, none⟩ = some (.int .i64 a1_13) := hS_
   obtain ⟨Ao28, co28, eo28⟩ := Kd.V_slice HO335.out
   (first | subst eo28 | (injection eo28 with f1_ f2_ f3_; have f4_ := f1_.symm; have f5_ := f3_.symm; clear f1_ f2_ f3_; subst f4_; subst f5_))
   refine norm_ (a' := ?_) ?_ ?_
   rotate_left
   ·simp only [putAll, Act.put, la_, lb_, lc_]
    rfl
   refine one_ (i := 9) (N := none) d4x30 rfl rfl (one_of HT_.out (by kernel_rfl)) (by decide) (fun K hK => ?_)
   have hs29 : w27.cell? ⟨gb344, 0, none⟩ = some (.slice none 0 0) := (blk_cell BK344.out 0).trans rfl
   have hfs29 := blk_frozen BK344.out 0
   have hns29_0 := NB321_344.out
   have hns29_1 := NB322_344.out
   have hms29_0 := NB344_321.out
   have hms29_1 := NB344_322.out
   have hs30 : w27.cell? ⟨gb344, 1, none⟩ = some (.int .i64 0) := (blk_cell BK344.out 1).trans rfl
   have hfs30 := blk_frozen BK344.out 1
   have hns30_0 := NB321_344.out
   have hns30_1 := NB322_344.out
   have hms30_0 := NB344_321.out
   have hms30_1 := NB344_322.out
   have hs31 : w27.cell? ⟨gb344, 2, none⟩ = some (.string (⟨#[]⟩ : ByteArray)) := (blk_cell BK344.out 2).trans rfl
   have hfs31 := blk_frozen BK344.out 2
   have hns31_0 := NB321_344.out
   have hns31_1 := NB322_344.out
   have hms31_0 := NB344_321.out
   have hms31_1 := NB344_322.out
   have hs32 : w27.cell? ⟨gb344, 3, none⟩ = some (.int .u32 0) := (blk_cell BK344.out 3).trans rfl
   have hfs32 := blk_frozen BK344.out 3
   have hns32_0 := NB321_344.out
   have hns32_1 := NB322_344.out
   have hms32_0 := NB344_321.out
   have hms32_1 := NB344_322.out
   have hs33 : w27.cell? ⟨gb344, 4, none⟩ = some (.bool false) := (blk_cell BK344.out 4).trans rfl
   have hfs33 := blk_frozen BK344.out 4
   have hns33_0 := NB321_344.out
   have hns33_1 := NB322_344.out
   have hms33_0 := NB344_321.out
   have hms33_1 := NB344_322.out
   refine skip_ (w1 := ?_) (by rfl) rfl ?_ ?_
   rotate_left
   ·go_simp
    rfl
   refine hK.out _ _ ⟨((cell_far (p := ⟨gb344, _, none⟩) NB321_344.out _).trans (((cell_far (p := ⟨gb344, _, none⟩) NB321_344.out _).trans (((cell_far (p := ⟨gb344, _, none⟩) NB321_344.out _).trans (((cell_far (p := ⟨gb344, _, none⟩) NB321_344.out _).trans (((cell_far (p := ⟨gb344, _, none⟩) NB321_344.out _).trans (hHeld.1)))))))))), ((cell_far (p := ⟨gb344, _, none⟩) NB321_344.out _).trans (((cell_far (p := ⟨gb344, _, none⟩) NB321_344.out _).trans (((cell_far (p := ⟨gb344, _, none⟩) NB321_344.out _).trans (((cell_far (p := ⟨gb344, _, none⟩) NB321_344.out _).trans (((cell_far (p := ⟨gb344, _, none⟩) NB321_344.out _).trans (hHeld.2.1)))))))))), ((cell_far (p := ⟨gb344, _, none⟩) NB321_344.out _).trans (((cell_far (p := ⟨gb344, _, none⟩) NB321_344.out _).trans (((cell_far (p := ⟨gb344, _, none⟩) NB321_344.out _).trans (((cell_far (p := ⟨gb344, _, none⟩) NB321_344.out _).trans (((cell_far (p := ⟨gb344, _, none⟩) NB321_344.out _).trans (hHeld.2.2.1)))))))))), ((cell_far (p := ⟨gb344, _, none⟩) NB321_344.out _).trans (((cell_far (p := ⟨gb344, _, none⟩) NB321_344.out _).trans (((cell_far (p := ⟨gb344, _, none⟩) NB321_344.out _).trans (((cell_far (p := ⟨gb344, _, none⟩) NB321_344.out _).trans (((cell_far (p := ⟨gb344, _, none⟩) NB321_344.out _).trans (hHeld.2.2.2.1)))))))))), ((cell_far (p := ⟨gb344, _, none⟩) NB321_344.out _).trans (((cell_far (p := ⟨gb344, _, none⟩) NB321_344.out _).trans (((cell_far (p := ⟨gb344, _, none⟩) NB321_344.out _).trans (((cell_far (p := ⟨gb344, _, none⟩) NB321_344.out _).trans (((cell_far (p := ⟨gb344, _, none⟩) NB321_344.out _).trans (hHeld.2.2.2.2.1)))))))))), ((cell_far (p := ⟨gb344, _, none⟩) NB322_344.out _).trans (((cell_far (p := ⟨gb344, _, none⟩) NB322_344.out _).trans (((cell_far (p := ⟨gb344, _, none⟩) NB322_344.out _).trans (((cell_far (p := ⟨gb344, _, none⟩) NB322_344.out _).trans (((cell_far (p := ⟨gb344, _, none⟩) NB322_344.out _).trans (hHeld.2.2.2.2.2.1)))))))))), ((cell_far (p := ⟨gb344, _, none⟩) NB322_344.out _).trans (((cell_far (p := ⟨gb344, _, none⟩) NB322_344.out _).trans (((cell_far (p := ⟨gb344, _, none⟩) NB322_344.out _).trans (((cell_far (p := ⟨gb344, _, none⟩) NB322_344.out _).trans (((cell_far (p := ⟨gb344, _, none⟩) NB322_344.out _).trans (hHeld.2.2.2.2.2.2.1)))))))))), ((cell_far (p := ⟨gb344, _, none⟩) NB322_344.out _).trans (((cell_far (p := ⟨gb344, _, none⟩) NB322_344.out _).trans (((cell_far (p := ⟨gb344, _, none⟩) NB322_344.out _).trans (((cell_far (p := ⟨gb344, _, none⟩) NB322_344.out _).trans (((cell_far (p := ⟨gb344, _, none⟩) NB322_344.out _).trans (hHeld.2.2.2.2.2.2.2.1)))))))))), ((cell_far (p := ⟨gb344, _, none⟩) NB322_344.out _).trans (((cell_far (p := ⟨gb344, _, none⟩) NB322_344.out _).trans (((cell_far (p := ⟨gb344, _, none⟩) NB322_344.out _).trans (((cell_far (p := ⟨gb344, _, none⟩) NB322_344.out _).trans (((cell_far (p := ⟨gb344, _, none⟩) NB322_344.out _).trans (hHeld.2.2.2.2.2.2.2.2.1)))))))))), ((cell_far (p := ⟨gb344, _, none⟩) NB322_344.out _).trans (((cell_far (p := ⟨gb344, _, none⟩) NB322_344.out _).trans (((cell_far (p := ⟨gb344, _, none⟩) NB322_344.out _).trans (((cell_far (p := ⟨gb344, _, none⟩) NB322_344.out _).trans (((cell_far (p := ⟨gb344, _, none⟩) NB322_344.out _).trans (hHeld.2.2.2.2.2.2.2.2.2.1)))))))))), ((cell_far (p := ⟨gb344, _, none⟩) NB322_344.out _).trans (((cell_far (p := ⟨gb344, _, none⟩) NB322_344.out _).trans (((cell_far (p := ⟨gb344, _, none⟩) NB322_344.out _).trans (((cell_far (p := ⟨gb344, _, none⟩) NB322_344.out _).trans (((cell_far (p := ⟨gb344, _, none⟩) NB322_344.out _).trans (hHeld.2.2.2.2.2.2.2.2.2.2.1)))))))))), ((cell_far (p := ⟨gb344, _, none⟩) NB322_344.out _).trans (((cell_far (p := ⟨gb344, _, none⟩) NB322_344.out _).trans (((cell_far (p := ⟨gb344, _, none⟩) NB322_344.out _).trans (((cell_far (p := ⟨gb344, _, none⟩) NB322_344.out _).trans (((cell_far (p := ⟨gb344, _, none⟩) NB322_344.out _).trans (hHeld.2.2.2.2.2.2.2.2.2.2.2.1)))))))))), ((cell_far (p := ⟨gb344, _, none⟩) NB322_344.out _).trans (((cell_far (p := ⟨gb344, _, none⟩) NB322_344.out _).trans (((cell_far (p := ⟨gb344, _, none⟩) NB322_344.out _).trans (((cell_far (p := ⟨gb344, _, none⟩) NB322_344.out _).trans (((cell_far (p := ⟨gb344, _, none⟩) NB322_344.out _).trans (hHeld.2.2.2.2.2.2.2.2.2.2.2.2.1)))))))))), ((cell_far (p := ⟨gb344, _, none⟩) NB322_344.out _).trans (((cell_far (p := ⟨gb344, _, none⟩) NB322_344.out _).trans (((cell_far (p := ⟨gb344, _, none⟩) NB322_344.out _).trans (((cell_far (p := ⟨gb344, _, none⟩) NB322_344.out _).trans (((cell_far (p := ⟨gb344, _, none⟩) NB322_344.out _).trans (hHeld.2.2.2.2.2.2.2.2.2.2.2.2.2.1)))))))))), ((cell_far (p := ⟨gb344, _, none⟩) NB322_344.out _).trans (((cell_far (p := ⟨gb344, _, none⟩) NB322_344.out _).trans (((cell_far (p := ⟨gb344, _, none⟩) NB322_344.out _).trans (((cell_far (p := ⟨gb344, _, none⟩) NB322_344.out _).trans (((cell_far (p := ⟨gb344, _, none⟩) NB322_344.out _).trans (hHeld.2.2.2.2.2.2.2.2.2.2.2.2.2.2.1)))))))))), ((cell_far (p := ⟨gb344, _, none⟩) NB322_344.out _).trans (((cell_far (p := ⟨gb344, _, none⟩) NB322_344.out _).trans (((cell_far (p := ⟨gb344, _, none⟩) NB322_344.out _).trans (((cell_far (p := ⟨gb344, _, none⟩) NB322_344.out _).trans (((cell_far (p := ⟨gb344, _, none⟩) NB322_344.out _).trans (hHeld.2.2.2.2.2.2.2.2.2.2.2.2.2.2.2.1)))))))))), ((cell_far (p := ⟨gb344, _, none⟩) NB322_344.out _).trans (((cell_far (p := ⟨gb344, _, none⟩) NB322_344.out _).trans (((cell_far (p := ⟨gb344, _, none⟩) NB322_344.out _).trans (((cell_far (p := ⟨gb344, _, none⟩) NB322_344.out _).trans (((cell_far (p := ⟨gb344, _, none⟩) NB322_344.out _).trans (hHeld.2.2.2.2.2.2.2.2.2.2.2.2.2.2.2.2.1)))))))))), ((cell_far (p := ⟨gb344, _, none⟩) NB322_344.out _).trans (((cell_far (p := ⟨gb344, _, none⟩) NB322_344.out _).trans (((cell_far (p := ⟨gb344, _, none⟩) NB322_344.out _).trans (((cell_far (p := ⟨gb344, _, none⟩) NB322_344.out _).trans (((cell_far (p := ⟨gb344, _, none⟩) NB322_344.out _).trans (hHeld.2.2.2.2.2.2.2.2.2.2.2.2.2.2.2.2.2.1)))))))))), ((cell_far (p := ⟨gb344, _, none⟩) NB322_344.out _).trans (((cell_far (p := ⟨gb344, _, none⟩) NB322_344.out _).trans (((cell_far (p := ⟨gb344, _, none⟩) NB322_344.out _).trans (((cell_far (p := ⟨gb344, _, none⟩) NB322_344.out _).trans (((cell_far (p := ⟨gb344, _, none⟩) NB322_344.out _).trans (hHeld.2.2.2.2.2.2.2.2.2.2.2.2.2.2.2.2.2.2))))))))))⟩ (fun hHeld => ?_)
   clear hK K
   refine pon_ 10 (some 6) d4x31 HT_.out ?_
   refine pon_ 11 (some 7) d4x37 HT_.out ?_
   refine done_ (done_of HT_.out (by kernel_rfl)) ?_
   try go_wp2
   go_loopg [8] kj2 (fun kq v8 w' => ∃ (x8_2 : Int), v8 = .int .i64 x8_2 ∧ Aside0 (headgatelaw11_ResvKeeps.l0 kq t340 t343 x8_2 l0_0 a0_1 a0_2 a0_3 a0_4 a1_0 a1_1 a1_2 a1_3 a1_4 a1_5 a1_6 l1_7 a1_8 a1_9 a1_10 a1_11 a1_12 a1_13 t333 t336 t337 t338 t339 = some r) ∧ Aside0 (kq ≤ kj2) ∧ Aside0 (Kd.R k46 46 w' w.heap.size (fun _ => True) v341 t340) ∧ Aside0 (Kd.V k53 53 w' w.heap.size (fun k_ => some k_ ≠ (v341 : Value).ownBlock ∧ k_ ≠ gb321 ∧ k_ ≠ gb322 ∧ k_ ≠ gb344) (.slice Ao28 t333.length co28) t333) ∧ Aside0 (w'.heap[gb321]? = some (.cells #[(.slice A0_0 l0_0.length c0_0), .int .i64 a0_1, .string a0_2, .int .u32 a0_3, .bool a0_4] 27 (0, 0))) ∧ Aside0 (w'.heap[gb322]? = some (.cells #[.int .i64 a1_0, .int .i64 a1_1, .string a1_2, .int .i64 a1_3, .int .i64 a1_4, .string a1_5, .bool a1_6, (.slice A1_7 l1_7.length c1_7), .int .u64 a1_8, .int .u64 a1_9, .int .u64 a1_10, .int .i64 a1_11, .bool a1_12, .int .i64 a1_13] 31 (0, 0))) ∧ Aside0 (w'.heap[gb344]? = some (.cells #[(.slice Ao28 t333.length co28), .int .i64 t336, .string t337, .int .u32 t338, .bool t339] 27 (0, 0))) ∧ Aside0 (Below w.heap.size w w'))
   case atStart => exact ⟨(0), (by first | rfl | (simp; done) | (simp [*]; done)), H', ⟨Nat.le_refl _⟩, ⟨by (with_reducible repeat (first | apply Kd.R_alloc | apply Kd.R_drewN | apply Kd.R_drew)); exact Kd.R_mono (Kd.R_far (p := ⟨gb344, 4, none⟩) (Kd.R_far (p := ⟨gb344, 3, none⟩) (Kd.R_far (p := ⟨gb344, 2, none⟩) (Kd.R_far (p := ⟨gb344, 1, none⟩) (Kd.R_far (p := ⟨gb344, 0, none⟩) (Kd.R_types HO342.out BK344.out (by decide)) (fun _ hk => hk.2) (.slice Ao28 t333.length co28)) (fun _ hk => hk.2) (.int .i64 t336)) (fun _ hk => hk.2) (.string t337)) (fun _ hk => hk.2) (.int .u32 t338)) (fun _ hk => hk.2) (.bool t339)) (fun _ hk => trivial)⟩, ⟨by (with_reducible repeat (first | apply Kd.V_alloc | apply Kd.V_drewN | apply Kd.V_drew)); exact Kd.V_mono (Kd.V_far (p := ⟨gb344, 4, none⟩) (Kd.V_far (p := ⟨gb344, 3, none⟩) (Kd.V_far (p := ⟨gb344, 2, none⟩) (Kd.V_far (p := ⟨gb344, 1, none⟩) (Kd.V_far (p := ⟨gb344, 0, none⟩) (Kd.V_mono HO335.out (fun k_ hk => (⟨hk, hk.2.2.2⟩ : _ ∧ k_ ≠ gb344))) (fun _ hk => hk.2) (.slice Ao28 t333.length co28)) (fun _ hk => hk.2) (.int .i64 t336)) (fun _ hk => hk.2) (.string t337)) (fun _ hk => hk.2) (.int .u32 t338)) (fun _ hk => hk.2) (.bool t339)) (fun _ hk => ⟨hk.1.1, ⟨hk.1.2.1, ⟨hk.1.2.2.1, hk.1.2.2.2⟩⟩⟩)⟩, ⟨by (with_reducible repeat (first | refine blk_drewN ?_ _ | refine blk_drew ?_ | refine blk_alloc ?_ _ | refine blk_far ?_ NB321_344.out _)); exact BK321.out⟩, ⟨by (with_reducible repeat (first | refine blk_drewN ?_ _ | refine blk_drew ?_ | refine blk_alloc ?_ _ | refine blk_far ?_ NB322_344.out _)); exact BK322.out⟩, ⟨by (with_reducible repeat (first | refine blk_drewN ?_ _ | refine blk_drew ?_ | refine blk_alloc ?_ _)); refine blk_put (cs := #[.slice Ao28 t333.length co28, .int .i64 t336, .string t337, .int .u32 t338, .bool false]) ?_ 4 _ rfl; (with_reducible repeat (first | refine blk_drewN ?_ _ | refine blk_drew ?_ | refine blk_alloc ?_ _)); refine blk_put (cs := #[.slice Ao28 t333.length co28, .int .i64 t336, .string t337, .int .u32 0, .bool false]) ?_ 3 _ rfl; (with_reducible repeat (first | refine blk_drewN ?_ _ | refine blk_drew ?_ | refine blk_alloc ?_ _)); refine blk_put (cs := #[.slice Ao28 t333.length co28, .int .i64 t336, .string (⟨#[]⟩ : ByteArray), .int .u32 0, .bool false]) ?_ 2 _ rfl; (with_reducible repeat (first | refine blk_drewN ?_ _ | refine blk_drew ?_ | refine blk_alloc ?_ _)); refine blk_put (cs := #[.slice Ao28 t333.length co28, .int .i64 0, .string (⟨#[]⟩ : ByteArray), .int .u32 0, .bool false]) ?_ 1 _ rfl; (with_reducible repeat (first | refine blk_drewN ?_ _ | refine blk_drew ?_ | refine blk_alloc ?_ _)); refine blk_put (cs := #[.slice none 0 0, .int .i64 0, .string (⟨#[]⟩ : ByteArray), .int .u32 0, .bool false]) ?_ 0 _ rfl; (with_reducible repeat (first | refine blk_drewN ?_ _ | refine blk_drew ?_ | refine blk_alloc ?_ _)); exact BK344.out⟩, ⟨hb_ HB⟩⟩
   case round =>
    clear H'
    try clear c1
    try clear p2
    try clear c13
    try clear c14
    try clear c15
    try clear c17
    try clear hfz15_1
    try clear hfz15_10
    try clear hfz15_11
    try clear hfz15_12
    try clear hfz15_13
    try clear hfz15_2
    try clear hfz15_3
    try clear hfz15_4
    try clear hfz15_5
    try clear hfz15_6
    try clear hfz15_7
    try clear hfz15_8
    try clear hfz15_9
    try clear hfz9_0
    try clear hfz9_1
    try clear hfz9_2
    try clear hfz9_3
    try clear hfz9_4
    obtain ⟨x8_2, rfl, HA, HK2, HO_6, HO_345000, BK321, BK322, BK344, HB⟩ := hrel
    cases gk with
    | zero => exact absurd HA.out (by simp [headgatelaw11_ResvKeeps.l0])
    | succ k2 =>
     have H := HA.out
     clear HA
     simp only [headgatelaw11_ResvKeeps.l0] at H
     by_cases c34 : x8_2 < (t340.length : Int)
     ·rw [if_pos c34] at H
      have c34b0 : decide (x8_2 < (t340.length : Int)) = true := decide_eq_true c34
      clear c34
      refine neg_first (p := (0 ≤ x8_2)) (fun c35 => ?_) (fun c35 => ?_)
      ·rw [if_neg c35] at H
       exact absurd H (by simp)
      rw [if_pos c35] at H
      have c35b0 : decide (0 ≤ x8_2) = true := decide_eq_true c35
      clear c35
      by_cases c36 : ((rd_T46 t340 x8_2).f0).toList = a1_2.toList
      ·rw [if_pos c36] at H
       have c36b0 : (((rd_T46 t340 x8_2).f0).toList == a1_2.toList) = true := beq_iff_eq.mpr c36
       have c36b1 : (((rd_T46 t340 x8_2).f0).toList != a1_2.toList) = false := bne_eq_false_iff_eq.mpr c36
       clear c36
       exact absurd ((Option.some.inj H).trans HT0.out) (by decide)
      rw [if_neg c36] at H
      have c36b0 : (((rd_T46 t340 x8_2).f0).toList == a1_2.toList) = false := beq_eq_false_iff_ne.mpr c36
      have c36b1 : (((rd_T46 t340 x8_2).f0).toList != a1_2.toList) = true := bne_iff_ne.mpr c36
      replace H := Option.bind_eq_some_iff.mp H
      obtain ⟨t347, A370, H⟩ := H
      try dsimp only at H
      have A37 := Aside0.mk A370
      clear A370
      by_cases c38 : t347 = 0
      ·rw [if_pos c38] at H
       have c38b0 : (t347 == 0) = true := beq_iff_eq.mpr c38
       have c38b1 : (t347 != 0) = false := bne_eq_false_iff_eq.mpr c38
       clear c38
       exact absurd ((Option.some.inj H).trans HT0.out) (by decide)
      rw [if_neg c38] at H
      have c38b0 : (t347 == 0) = false := beq_eq_false_iff_ne.mpr c38
      have c38b1 : (t347 != 0) = true := bne_iff_ne.mpr c38
      have H' := Aside0.mk H
      clear H
      obtain ⟨Ao39, co39, eo39⟩ := Kd.R_slice HO_6.out
      subst eo39
      try go_wp2
      have n0_ := Aside0.mk (Kd.R_drew HO_6.out)
      have n1_ := Aside0.mk (Kd.V_drew HO_345000.out)
      have n2_ := Aside0.mk (blk_drew BK321.out)
      have n3_ := Aside0.mk (blk_drew BK322.out)
      have n4_ := Aside0.mk (blk_drew BK344.out)
      have n5_ := Aside0.mk (below_drew1 HB.out)
      clear HO_6
      clear HO_345000
      clear BK321
      clear BK322
      clear BK344
      clear HB
      have HO_6 := n0_
      have HO_345000 := n1_
      have BK321 := n2_
      have BK322 := n3_
      have BK344 := n4_
      have HB := n5_
      clear n0_ n1_ n2_ n3_ n4_ n5_
      have p345 : 0 ≤ (x8_2 : Int) := of_decide_eq_true (by first | (with_reducible assumption) | assumption)
      have q345 : x8_2 < (t340.length : Int) := of_decide_eq_true (by first | (with_reducible assumption) | assumption)
      obtain ⟨ad345, e345, hx345_0, hx345_1⟩ := at_T46 (Kd.R_reads' HO_6.out).2.2 x8_2 p345 q345
      cases e345
      replace p345 := eq_true p345
      replace q345 := eq_true q345
      have p346 : 0 ≤ (x8_2 : Int) := of_decide_eq_true (by first | (with_reducible assumption) | assumption)
      have q346 : x8_2 < (t340.length : Int) := of_decide_eq_true (by first | (with_reducible assumption) | assumption)
      obtain ⟨ad346, e346, hx346_0, hx346_1⟩ := at_T46 (Kd.R_reads' HO_6.out).2.2 x8_2 p346 q346
      obtain rfl : ad345 = ad346 := (by injection e346)
      replace p346 := eq_true p346
      replace q346 := eq_true q346
      refine start_ (n := 18) (S := fun w' => w'.cell? ⟨gb322, 0, none⟩ = some (.int .i64 a1_0) ∧ w'.cell? ⟨gb322, 1, none⟩ = some (.int .i64 a1_1) ∧ w'.cell? ⟨gb322, 2, none⟩ = some (.string a1_2) ∧ w'.cell? ⟨gb322, 3, none⟩ = some (.int .i64 a1_3) ∧ w'.cell? ⟨gb322, 4, none⟩ = some (.int .i64 a1_4) ∧ w'.cell? ⟨gb322, 5, none⟩ = some (.string a1_5) ∧ w'.cell? ⟨gb322, 6, none⟩ = some (.bool a1_6) ∧ w'.cell? ⟨gb322, 7, none⟩ = some (.slice A1_7 l1_7.length c1_7) ∧ w'.cell? ⟨gb322, 8, none⟩ = some (.int .u64 a1_8) ∧ w'.cell? ⟨gb322, 9, none⟩ = some (.int .u64 a1_9) ∧ w'.cell? ⟨gb322, 10, none⟩ = some (.int .u64 a1_10) ∧ w'.cell? ⟨gb322, 11, none⟩ = some (.int .i64 a1_11) ∧ w'.cell? ⟨gb322, 12, none⟩ = some (.bool a1_12) ∧ w'.cell? ⟨gb322, 13, none⟩ = some (.int .i64 a1_13) ∧ w'.cell? ⟨gb321, 0, none⟩ = some (.slice A0_0 l0_0.length c0_0) ∧ w'.cell? ⟨gb321, 1, none⟩ = some (.int .i64 a0_1) ∧ w'.cell? ⟨gb321, 2, none⟩ = some (.string a0_2) ∧ w'.cell? ⟨gb321, 3, none⟩ = some (.int .u32 a0_3) ∧ w'.cell? ⟨gb321, 4, none⟩ = some (.bool a0_4) ∧ w'.cell? (ad345.add ((x8_2).toNat * 2)) = some (.string ((rd_T46 t340 x8_2).f0)) ∧ w'.cell? ⟨(ad345.add ((x8_2).toNat * 2)).block, (ad345.add ((x8_2).toNat * 2)).off + 1, none⟩ = some (.int .i64 ((rd_T46 t340 x8_2).f1)) ∧ w'.cell? (ad345.add ((x8_2).toNat * 2)) = some (.string ((rd_T46 t340 x8_2).f0)) ∧ w'.cell? ⟨(ad345.add ((x8_2).toNat * 2)).block, (ad345.add ((x8_2).toNat * 2)).off + 1, none⟩ = some (.int .i64 ((rd_T46 t340 x8_2).f1))) (ds := []) d4x0 (by kernel_rfl) rfl rfl ⟨(blk_cell BK322.out 0).trans rfl, (blk_cell BK322.out 1).trans rfl, (blk_cell BK322.out 2).trans rfl, (blk_cell BK322.out 3).trans rfl, (blk_cell BK322.out 4).trans rfl, (blk_cell BK322.out 5).trans rfl, (blk_cell BK322.out 6).trans rfl, (blk_cell BK322.out 7).trans rfl, (blk_cell BK322.out 8).trans rfl, (blk_cell BK322.out 9).trans rfl, (blk_cell BK322.out 10).trans rfl, (blk_cell BK322.out 11).trans rfl, (blk_cell BK322.out 12).trans rfl, (blk_cell BK322.out 13).trans rfl, (blk_cell BK321.out 0).trans rfl, (blk_cell BK321.out 1).trans rfl, (blk_cell BK321.out 2).trans rfl, (blk_cell BK321.out 3).trans rfl, (blk_cell BK321.out 4).trans rfl, hx345_0, hx345_1, hx346_0, hx346_1⟩ (fun hHeld => ?_); refine with_tabW headgatelaw11_ResvKeeps.tab7 headgatelaw11_ResvKeeps.bits7 (fun HT_ HW_ => ?_)
      generalize wr.drew = w40 at HO_6 HO_345000 BK321 BK322 BK344 HB hx345_0 hx345_1 hx346_0 hx346_1 hHeld ⊢
      refine pon_ 0 (some 30) d4x2 HT_.out ?_
      refine pon_ 1 (some 31) d4x6 HT_.out ?_
      refine pon_ 2 (some 32) d4x7 HT_.out ?_
      refine pon_ 3 (some 33) d4x10 HT_.out ?_
      refine pon_ 5 (some 35) d4x13 HT_.out ?_
      refine ptk_ 4 (some 34) d4x16 HT_.out HW_.out hHeld ?_
      refine ptk_ 6 (some 36) d4x19 HT_.out HW_.out hHeld ?_
      refine pon_ 7 (some 37) d4x22 HT_.out ?_
      refine pon_ 8 (some 38) d4x24 HT_.out ?_
      refine pon_ 10 (some 40) d4x26 HT_.out ?_
      refine pon_ 11 (some 41) d4x27 HT_.out ?_
      refine pon_ 12 (some 42) d4x28 HT_.out ?_
      refine pon_ 13 (some 43) d4x29 HT_.out ?_
      refine ptk_ 9 (some 39) d4x32 HT_.out HW_.out hHeld ?_
      refine ptk_ 14 (some 44) d4x33 HT_.out HW_.out hHeld ?_
      refine one_ (i := 15) (N := some 45) d4x34 rfl rfl (one_of HT_.out (by kernel_rfl)) (by decide) (fun K hK => ?_)
      refine goes_ Tryd.func19 (by kernel_rfl) rfl #[.agg #[.slice A0_0 l0_0.length c0_0, .int .i64 a0_1, .string a0_2, .int .u32 a0_3, .bool a0_4], .string ((rd_T46 t340 x8_2).f0)] (by rfl) rfl rfl (by (try simp only [List.map_toArray, List.map_cons, List.map_nil]); first | done | rfl | (simp only [List.length_drop, List.length_take]; rfl)) ?_
      with_reducible refine (headgateref11_Key.calls k2 _ _ l0_0 a0_1 a0_2 a0_3 a0_4 ((rd_T46 t340 x8_2).f0) t347 _ ?side1 ?side2 A37.out).mono ?_
      (case side1 => repeat (first | exact (Kd.C_below HR0_0.out HB.out) | (with_reducible refine Kd.C_alloc ?_ _) | (with_reducible refine Kd.C_drewN ?_ _) | (with_reducible refine Kd.C_drew ?_)))
      (case side2 => exact HC0_0.out)
      rintro e w41 ⟨rfl, hb⟩
      have HS19_ := (hb.cell (World.block_lt_of_cell? _ _ (hHeld.2.2.2.2.2.2.2.2.2.2.2.2.2.2.2.2.2.2.2.1))).trans (hHeld.2.2.2.2.2.2.2.2.2.2.2.2.2.2.2.2.2.2.2.1)
      have HS20_ := (hb.cell (World.block_lt_of_cell? _ _ (hHeld.2.2.2.2.2.2.2.2.2.2.2.2.2.2.2.2.2.2.2.2.1))).trans (hHeld.2.2.2.2.2.2.2.2.2.2.2.2.2.2.2.2.2.2.2.2.1)
      have HS21_ := (hb.cell (World.block_lt_of_cell? _ _ (hHeld.2.2.2.2.2.2.2.2.2.2.2.2.2.2.2.2.2.2.2.2.2.1))).trans (hHeld.2.2.2.2.2.2.2.2.2.2.2.2.2.2.2.2.2.2.2.2.2.1)
      have HS22_ := (hb.cell (World.block_lt_of_cell? _ _ (hHeld.2.2.2.2.2.2.2.2.2.2.2.2.2.2.2.2.2.2.2.2.2.2))).trans (hHeld.2.2.2.2.2.2.2.2.2.2.2.2.2.2.2.2.2.2.2.2.2.2)
      refine ⟨_, rfl, ?_⟩
      have n0_ := Aside0.mk (Kd.R_below (by (with_reducible repeat (first | apply Kd.R_alloc | apply Kd.R_drewN | apply Kd.R_drew)); exact HO_6.out) hb)
      have n1_ := Aside0.mk (Kd.V_below (by (with_reducible repeat (first | apply Kd.V_alloc | apply Kd.V_drewN | apply Kd.V_drew)); exact HO_345000.out) hb)
      have n2_ := Aside0.mk (blk_below (bk_ BK321) hb)
      have n3_ := Aside0.mk (blk_below (bk_ BK322) hb)
      have n4_ := Aside0.mk (blk_below (bk_ BK344) hb)
      have n5_ := Aside0.mk (below_step (hb_ HB) hb)
      clear HO_6
      clear HO_345000
      clear BK321
      clear BK322
      clear BK344
      clear HB
      have HO_6 := n0_
      have HO_345000 := n1_
      have BK321 := n2_
      have BK322 := n3_
      have BK344 := n4_
      have HB := n5_
      clear n0_ n1_ n2_ n3_ n4_ n5_
      (try clear hb)
      (try clear hb2)
      (try clear hk)
      (try clear hi)
      refine hK.out _ _ ⟨(blk_cell BK322.out 0).trans rfl, (blk_cell BK322.out 1).trans rfl, (blk_cell BK322.out 2).trans rfl, (blk_cell BK322.out 3).trans rfl, (blk_cell BK322.out 4).trans rfl, (blk_cell BK322.out 5).trans rfl, (blk_cell BK322.out 6).trans rfl, (blk_cell BK322.out 7).trans rfl, (blk_cell BK322.out 8).trans rfl, (blk_cell BK322.out 9).trans rfl, (blk_cell BK322.out 10).trans rfl, (blk_cell BK322.out 11).trans rfl, (blk_cell BK322.out 12).trans rfl, (blk_cell BK322.out 13).trans rfl, (blk_cell BK321.out 0).trans rfl, (blk_cell BK321.out 1).trans rfl, (blk_cell BK321.out 2).trans rfl, (blk_cell BK321.out 3).trans rfl, (blk_cell BK321.out 4).trans rfl, HS19_, HS20_, HS21_, HS22_⟩ (fun hHeld => ?_)
      clear hK K
      refine norm_ (a' := ?_) ?_ ?_
      rotate_left
      ·show Act.put _ (some 45) _ = _
       simp only [Act.put, la_, lb_, lc_, i64_w, i32_w]
       rfl
      refine pon_ 16 (some 46) d4x35 HT_.out ?_
      refine pon_ 17 (some 47) d4x36 HT_.out ?_
      refine done_ (done_of HT_.out (by kernel_rfl)) ?_
      try go_wp2
      go_roundg k2
      case measure => have := HJ2.out; have := HK2.out; omega
      case rel => exact ⟨(wrap64 (x8_2 + 1)), (by first | rfl | (simp; done) | (simp [*]; done)), H', ⟨by have := HJ2.out; have := HK2.out; omega⟩, ⟨by (with_reducible repeat (first | apply Kd.R_alloc | apply Kd.R_drewN | apply Kd.R_drew)); exact HO_6.out⟩, ⟨by (with_reducible repeat (first | apply Kd.V_alloc | apply Kd.V_drewN | apply Kd.V_drew)); exact HO_345000.out⟩, ⟨bk_ BK321⟩, ⟨bk_ BK322⟩, ⟨bk_ BK344⟩, ⟨hb_ HB⟩⟩
     rw [if_neg c34] at H
     have c34b0 : decide (x8_2 < (t340.length : Int)) = false := decide_eq_false c34
     clear c34
     refine neg_first (p := (t343 = 1)) (fun c42 => ?_) (fun c42 => ?_)
     ·rw [if_neg c42] at H
      have c42b0 : (t343 == 1) = false := beq_eq_false_iff_ne.mpr c42
      have c42b1 : (t343 != 1) = true := bne_iff_ne.mpr c42
      replace H := Option.bind_eq_some_iff.mp H
      obtain ⟨t352, A730, H⟩ := H
      try dsimp only at H
      have A73 := Aside0.mk A730
      clear A730
      refine neg_first (p := (t352 = true)) (fun c74 => ?_) (fun c74 => ?_)
      ·replace c74 := Bool.eq_false_iff.mpr c74
       subst c74
       have H1 := H
       rw [if_neg (show ¬ (false = true) by decide)] at H1
       clear H
       have H := H1
       clear H1
       exact absurd ((Option.some.inj H).trans HT0.out) (by decide)

      subst c74
      have H1 := H
      rw [if_pos rfl] at H1
      clear H
      have H := H1
      clear H1
      refine neg_first (p := ((t340.length : Int) = 0)) (fun c75 => ?_) (fun c75 => ?_)
      ·rw [if_neg c75] at H
       have c75b0 : ((t340.length : Int) == 0) = false := beq_eq_false_iff_ne.mpr c75
       have c75b1 : ((t340.length : Int) != 0) = true := bne_iff_ne.mpr c75
       have c75b2 : ¬ (t340 = []) := fun h_ => c75 (by rw [h_]; rfl)
       exact absurd ((Option.some.inj H).trans HT0.out) (by decide)
      rw [if_pos c75] at H
      have c75b0 : ((t340.length : Int) == 0) = true := beq_iff_eq.mpr c75
      have c75b1 : ((t340.length : Int) != 0) = false := bne_eq_false_iff_eq.mpr c75
      clear c75
      replace H := Option.bind_eq_some_iff.mp H
      obtain ⟨t353, A760, H⟩ := H
      try dsimp only at H
      have A76 := Aside0.mk A760
      clear A760
      obtain rfl := Option.some.inj H
      obtain ⟨Ao77, co77, eo77⟩ := Kd.R_slice HO_6.out
      subst eo77
      have hnb78 := NB321_322.out
      have hnc78 := NB322_321.out
      have hnb79 := NB321_344.out
      have hnc79 := NB344_321.out
      have hcz80_0 : wr.cell? ⟨gb321, 0, none⟩ = some (.slice A0_0 l0_0.length c0_0) := (blk_cell BK321.out 0).trans rfl
      have hcz80_1 : wr.cell? ⟨gb321, 1, none⟩ = some (.int .i64 a0_1) := (blk_cell BK321.out 1).trans rfl
      have hcz80_2 : wr.cell? ⟨gb321, 2, none⟩ = some (.string a0_2) := (blk_cell BK321.out 2).trans rfl
      have hcz80_3 : wr.cell? ⟨gb321, 3, none⟩ = some (.int .u32 a0_3) := (blk_cell BK321.out 3).trans rfl
      have hcz80_4 : wr.cell? ⟨gb321, 4, none⟩ = some (.bool a0_4) := (blk_cell BK321.out 4).trans rfl
      have hfz80_0 := blk_frozen BK321.out 0
      have hfz80_1 := blk_frozen BK321.out 1
      have hfz80_2 := blk_frozen BK321.out 2
      have hfz80_3 := blk_frozen BK321.out 3
      have hfz80_4 := blk_frozen BK321.out 4
      have hnb81 := NB344_322.out
      have hnc81 := NB322_344.out
      have hcz82_0 : wr.cell? ⟨gb344, 0, none⟩ = some (.slice Ao28 t333.length co28) := (blk_cell BK344.out 0).trans rfl
      have hcz82_1 : wr.cell? ⟨gb344, 1, none⟩ = some (.int .i64 t336) := (blk_cell BK344.out 1).trans rfl
      have hcz82_2 : wr.cell? ⟨gb344, 2, none⟩ = some (.string t337) := (blk_cell BK344.out 2).trans rfl
      have hcz82_3 : wr.cell? ⟨gb344, 3, none⟩ = some (.int .u32 t338) := (blk_cell BK344.out 3).trans rfl
      have hcz82_4 : wr.cell? ⟨gb344, 4, none⟩ = some (.bool t339) := (blk_cell BK344.out 4).trans rfl
      have hfz82_0 := blk_frozen BK344.out 0
      have hfz82_1 := blk_frozen BK344.out 1
      have hfz82_2 := blk_frozen BK344.out 2
      have hfz82_3 := blk_frozen BK344.out 3
      have hfz82_4 := blk_frozen BK344.out 4
      go_wp2_with (first | ((with_reducible refine gate_callee (f := 17) rfl ?_); refine goesL_ (some 52) rfl rfl Tryd.func17 (by kernel_rfl) rfl #[.agg #[.slice A0_0 l0_0.length c0_0, .int .i64 a0_1, .string a0_2, .int .u32 a0_3, .bool a0_4], .agg #[.slice Ao28 t333.length co28, .int .i64 t336, .string t337, .int .u32 t338, .bool t339]] rfl (by (try simp only [List.map_toArray, List.map_cons, List.map_nil]); first | done | rfl | (simp only [List.length_drop, List.length_take]; rfl)) ?_; (with_reducible refine (headgatekeep_Tables.calls k2 _ _ l0_0 a0_1 a0_2 a0_3 a0_4 _ _ t333 t336 t337 t338 t339 true _ ?side1 ?side2 ?side3 ?side4 A73.out).mono ?_); (case side1 => repeat (first | exact (Kd.C_below HR0_0.out HB.out) | (with_reducible refine Kd.C_alloc ?_ _) | (with_reducible refine Kd.C_drewN ?_ _) | (with_reducible refine Kd.C_drew ?_))); (case side2 => exact HC0_0.out); (case side3 => repeat (first | exact (Kd.V_reads' HO_345000.out).2.2 | (with_reducible refine Kd.C_alloc ?_ _) | (with_reducible refine Kd.C_drewN ?_ _) | (with_reducible refine Kd.C_drew ?_))); (case side4 => exact (Kd.V_reads' HO_345000.out).2.1); rintro e w83 ⟨rfl, hb⟩; refine ⟨_, rfl, ?_⟩; have n0_ := Aside0.mk (Kd.R_below (by (with_reducible repeat (first | apply Kd.R_alloc | apply Kd.R_drewN | apply Kd.R_drew)); exact HO_6.out) hb); have n1_ := Aside0.mk (Kd.V_below (by (with_reducible repeat (first | apply Kd.V_alloc | apply Kd.V_drewN | apply Kd.V_drew)); exact HO_345000.out) hb); have n2_ := Aside0.mk (blk_below (bk_ BK321) hb); have n3_ := Aside0.mk (blk_below (bk_ BK322) hb); have n4_ := Aside0.mk (blk_below (bk_ BK344) hb); have n5_ := Aside0.mk (below_step (hb_ HB) hb); clear HO_6; clear HO_345000; clear BK321; clear BK322; clear BK344; clear HB; have HO_6 := n0_; have HO_345000 := n1_; have BK321 := n2_; have BK322 := n3_; have BK344 := n4_; have HB := n5_; clear n0_ n1_ n2_ n3_ n4_ n5_; (try clear hb); (try clear hb2); (try clear hk); (try clear hi)) | (go_at_call 13; (with_reducible refine (headgatelaw11_wakes.calls k2  t353 _ ?side1 A76.out).mono ?_); (case side1 => first | ((refine Glob.keep HG.out ?_); (repeat (first | (with_reducible first | exact HB.out | apply below_alloc | apply pw_below_drewN | apply below_drew1 | refine below_set ?_ GE321.out | refine below_set ?_ GE322.out | refine below_set ?_ GE344.out) | exact HB.out)); done) | exact HG.out); rintro e w84 ⟨rfl, hb⟩; have n0_ := Aside0.mk (Kd.R_below (by (with_reducible repeat (first | apply Kd.R_alloc | apply Kd.R_drewN | apply Kd.R_drew)); exact HO_6.out) hb); have n1_ := Aside0.mk (Kd.V_below (by (with_reducible repeat (first | apply Kd.V_alloc | apply Kd.V_drewN | apply Kd.V_drew)); exact HO_345000.out) hb); have n2_ := Aside0.mk (blk_below (bk_ BK321) hb); have n3_ := Aside0.mk (blk_below (bk_ BK322) hb); have n4_ := Aside0.mk (blk_below (bk_ BK344) hb); have n5_ := Aside0.mk (below_step (hb_ HB) hb); clear HO_6; clear HO_345000; clear BK321; clear BK322; clear BK344; clear HB; have HO_6 := n0_; have HO_345000 := n1_; have BK321 := n2_; have BK322 := n3_; have BK344 := n4_; have HB := n5_; clear n0_ n1_ n2_ n3_ n4_ n5_; (try clear hb); (try clear hb2); (try clear hk); (try clear hi)))
      go_ret
      exact ⟨by first | rfl | (simp [errW_none, errW_some] <;> rfl) | (simp [*, errW_none, errW_some] <;> rfl) | (simp [bt, *]; done) | (unfold bt; simp [*]; done), by repeat (first | (with_reducible first | exact HB.out | apply below_alloc | apply pw_below_drewN | apply below_drew1 | refine below_set ?_ GE321.out | refine below_set ?_ GE322.out | refine below_set ?_ GE344.out) | exact HB.out)⟩
     rw [if_pos c42] at H
     have c42b0 : (t343 == 1) = true := beq_iff_eq.mpr c42
     have c42b1 : (t343 != 1) = false := bne_eq_false_iff_eq.mpr c42
     clear c42
     replace H := Option.bind_eq_some_iff.mp H
     obtain ⟨t348, A430, H⟩ := H
     try dsimp only at H
     have A43 := Aside0.mk A430
     clear A430
     refine neg_first (p := (t348 = true)) (fun c44 => ?_) (fun c44 => ?_)
     ·replace c44 := Bool.eq_false_iff.mpr c44
      subst c44
      have H1 := H
      rw [if_neg (show ¬ (false = true) by decide)] at H1
      clear H
      have H := H1
      clear H1
      exact absurd ((Option.some.inj H).trans HT0.out) (by decide)
     subst c44
     have H1 := H
     rw [if_pos rfl] at H1
     clear H
     have H := H1
     clear H1
     replace H := Option.bind_eq_some_iff.mp H
     obtain ⟨t349, A450, H⟩ := H
     try dsimp only at H
     have A45 := Aside0.mk A450
     clear A450
     refine neg_first (p := (t349 = true)) (fun c46 => ?_) (fun c46 => ?_)
     ·replace c46 := Bool.eq_false_iff.mpr c46
      subst c46
      have H1 := H
      rw [if_neg (show ¬ (false = true) by decide)] at H1
      clear H
      have H := H1
      clear H1
      exact absurd ((Option.some.inj H).trans HT0.out) (by decide)
     subst c46
     have H1 := H
     rw [if_pos rfl] at H1
     clear H
     have H := H1
     clear H1
     by_cases c47 : t338 = a0_3
     ·rw [if_pos c47] at H
      have c47b0 : (t338 == a0_3) = true := beq_iff_eq.mpr c47
      have c47b1 : (t338 != a0_3) = false := bne_eq_false_iff_eq.mpr c47
      clear c47
      replace H := Option.bind_eq_some_iff.mp H
      obtain ⟨t350, A480, H⟩ := H
      try dsimp only at H
      have A48 := Aside0.mk A480
      clear A480
      obtain rfl := Option.some.inj H
      obtain ⟨Ao49, co49, eo49⟩ := Kd.R_slice HO_6.out
      subst eo49
      have hnb50 := NB321_322.out
      have hnc50 := NB322_321.out
      have hnb51 := NB321_344.out
      have hnc51 := NB344_321.out
      have hcz52_0 : wr.cell? ⟨gb321, 0, none⟩ = some (.slice A0_0 l0_0.length c0_0) := (blk_cell BK321.out 0).trans rfl
      have hcz52_1 : wr.cell? ⟨gb321, 1, none⟩ = some (.int .i64 a0_1) := (blk_cell BK321.out 1).trans rfl
      have hcz52_2 : wr.cell? ⟨gb321, 2, none⟩ = some (.string a0_2) := (blk_cell BK321.out 2).trans rfl
      have hcz52_3 : wr.cell? ⟨gb321, 3, none⟩ = some (.int .u32 a0_3) := (blk_cell BK321.out 3).trans rfl
      have hcz52_4 : wr.cell? ⟨gb321, 4, none⟩ = some (.bool a0_4) := (blk_cell BK321.out 4).trans rfl
      have hfz52_0 := blk_frozen BK321.out 0
      have hfz52_1 := blk_frozen BK321.out 1
      have hfz52_2 := blk_frozen BK321.out 2
      have hfz52_3 := blk_frozen BK321.out 3
      have hfz52_4 := blk_frozen BK321.out 4
      go_wp2_with (first | ((with_reducible refine gate_callee (f := 20) rfl ?_); refine goesL_ (some 62) rfl rfl Tryd.func20 (by kernel_rfl) rfl #[.agg #[.slice A0_0 l0_0.length c0_0, .int .i64 a0_1, .string a0_2, .int .u32 a0_3, .bool a0_4]] rfl (by (try simp only [List.map_toArray, List.map_cons, List.map_nil]); first | done | rfl | (simp only [List.length_drop, List.length_take]; rfl)) ?_; (with_reducible refine (headgateref11_Good.calls k2 _ _ l0_0 a0_1 a0_2 a0_3 a0_4 true _ ?side1 ?side2 A43.out).mono ?_); (case side1 => repeat (first | exact (Kd.C_below HR0_0.out HB.out) | (with_reducible refine Kd.C_alloc ?_ _) | (with_reducible refine Kd.C_drewN ?_ _) | (with_reducible refine Kd.C_drew ?_))); (case side2 => exact HC0_0.out); rintro e w53 ⟨rfl, hb⟩; refine ⟨_, rfl, ?_⟩; have n0_ := Aside0.mk (Kd.R_below (by (with_reducible repeat (first | apply Kd.R_alloc | apply Kd.R_drewN | apply Kd.R_drew)); exact HO_6.out) hb); have n1_ := Aside0.mk (Kd.V_below (by (with_reducible repeat (first | apply Kd.V_alloc | apply Kd.V_drewN | apply Kd.V_drew)); exact HO_345000.out) hb); have n2_ := Aside0.mk (blk_below (bk_ BK321) hb); have n3_ := Aside0.mk (blk_below (bk_ BK322) hb); have n4_ := Aside0.mk (blk_below (bk_ BK344) hb); have n5_ := Aside0.mk (below_step (hb_ HB) hb); clear HO_6; clear HO_345000; clear BK321; clear BK322; clear BK344; clear HB; have HO_6 := n0_; have HO_345000 := n1_; have BK321 := n2_; have BK322 := n3_; have BK344 := n4_; have HB := n5_; clear n0_ n1_ n2_ n3_ n4_ n5_; (try clear hb); (try clear hb2); (try clear hk); (try clear hi); have hnb54 := NB344_322.out; have hnc54 := NB322_344.out; have hcz55_0 : w53.cell? ⟨gb344, 0, none⟩ = some (.slice Ao28 t333.length co28) := (blk_cell BK344.out 0).trans rfl; have hcz55_1 : w53.cell? ⟨gb344, 1, none⟩ = some (.int .i64 t336) := (blk_cell BK344.out 1).trans rfl; have hcz55_2 : w53.cell? ⟨gb344, 2, none⟩ = some (.string t337) := (blk_cell BK344.out 2).trans rfl; have hcz55_3 : w53.cell? ⟨gb344, 3, none⟩ = some (.int .u32 t338) := (blk_cell BK344.out 3).trans rfl; have hcz55_4 : w53.cell? ⟨gb344, 4, none⟩ = some (.bool t339) := (blk_cell BK344.out 4).trans rfl; have hfz55_0 := blk_frozen BK344.out 0; have hfz55_1 := blk_frozen BK344.out 1; have hfz55_2 := blk_frozen BK344.out 2; have hfz55_3 := blk_frozen BK344.out 3; have hfz55_4 := blk_frozen BK344.out 4) | (go_at_call 21; (with_reducible refine (resv_Good.calls _ _ t333 t336 t337 t338 t339 true _ ?side1 ?side2 A45.out).mono ?_); (case side1 => repeat (first | exact (Kd.V_reads' HO_345000.out).2.2 | (with_reducible refine Kd.C_alloc ?_ _) | (with_reducible refine Kd.C_drewN ?_ _) | (with_reducible refine Kd.C_drew ?_))); (case side2 => exact (Kd.V_reads' HO_345000.out).2.1); rintro e w56 ⟨rfl, hb⟩; have n0_ := Aside0.mk (Kd.R_below (by (with_reducible repeat (first | apply Kd.R_alloc | apply Kd.R_drewN | apply Kd.R_drew)); exact HO_6.out) hb); have n1_ := Aside0.mk (Kd.V_below (by (with_reducible repeat (first | apply Kd.V_alloc | apply Kd.V_drewN | apply Kd.V_drew)); exact HO_345000.out) hb); have n2_ := Aside0.mk (blk_below (bk_ BK321) hb); have n3_ := Aside0.mk (blk_below (bk_ BK322) hb); have n4_ := Aside0.mk (blk_below (bk_ BK344) hb); have n5_ := Aside0.mk (below_step (hb_ HB) hb); clear HO_6; clear HO_345000; clear BK321; clear BK322; clear BK344; clear HB; have HO_6 := n0_; have HO_345000 := n1_; have BK321 := n2_; have BK322 := n3_; have BK344 := n4_; have HB := n5_; clear n0_ n1_ n2_ n3_ n4_ n5_; (try clear hb); (try clear hb2); (try clear hk); (try clear hi); have hcz57_0 : w56.cell? ⟨gb344, 0, none⟩ = some (.slice Ao28 t333.length co28) := (blk_cell BK344.out 0).trans rfl; have hcz57_1 : w56.cell? ⟨gb344, 1, none⟩ = some (.int .i64 t336) := (blk_cell BK344.out 1).trans rfl; have hcz57_2 : w56.cell? ⟨gb344, 2, none⟩ = some (.string t337) := (blk_cell BK344.out 2).trans rfl; have hcz57_3 : w56.cell? ⟨gb344, 3, none⟩ = some (.int .u32 t338) := (blk_cell BK344.out 3).trans rfl; have hcz57_4 : w56.cell? ⟨gb344, 4, none⟩ = some (.bool t339) := (blk_cell BK344.out 4).trans rfl; have hfz57_0 := blk_frozen BK344.out 0; have hfz57_1 := blk_frozen BK344.out 1; have hfz57_2 := blk_frozen BK344.out 2; have hfz57_3 := blk_frozen BK344.out 3; have hfz57_4 := blk_frozen BK344.out 4; have hcz58_0 : w56.cell? ⟨gb321, 0, none⟩ = some (.slice A0_0 l0_0.length c0_0) := (blk_cell BK321.out 0).trans rfl; have hcz58_1 : w56.cell? ⟨gb321, 1, none⟩ = some (.int .i64 a0_1) := (blk_cell BK321.out 1).trans rfl; have hcz58_2 : w56.cell? ⟨gb321, 2, none⟩ = some (.string a0_2) := (blk_cell BK321.out 2).trans rfl; have hcz58_3 : w56.cell? ⟨gb321, 3, none⟩ = some (.int .u32 a0_3) := (blk_cell BK321.out 3).trans rfl; have hcz58_4 : w56.cell? ⟨gb321, 4, none⟩ = some (.bool a0_4) := (blk_cell BK321.out 4).trans rfl; have hfz58_0 := blk_frozen BK321.out 0; have hfz58_1 := blk_frozen BK321.out 1; have hfz58_2 := blk_frozen BK321.out 2; have hfz58_3 := blk_frozen BK321.out 3; have hfz58_4 := blk_frozen BK321.out 4) | (go_at_call 13; (with_reducible refine (headgatelaw11_wakes.calls k2  t350 _ ?side1 A48.out).mono ?_); (case side1 => first | ((refine Glob.keep HG.out ?_); (repeat (first | (with_reducible first | exact HB.out | apply below_alloc | apply pw_below_drewN | apply below_drew1 | refine below_set ?_ GE321.out | refine below_set ?_ GE322.out | refine below_set ?_ GE344.out) | exact HB.out)); done) | exact HG.out); rintro e w59 ⟨rfl, hb⟩; have n0_ := Aside0.mk (Kd.R_below (by (with_reducible repeat (first | apply Kd.R_alloc | apply Kd.R_drewN | apply Kd.R_drew)); exact HO_6.out) hb); have n1_ := Aside0.mk (Kd.V_below (by (with_reducible repeat (first | apply Kd.V_alloc | apply Kd.V_drewN | apply Kd.V_drew)); exact HO_345000.out) hb); have n2_ := Aside0.mk (blk_below (bk_ BK321) hb); have n3_ := Aside0.mk (blk_below (bk_ BK322) hb); have n4_ := Aside0.mk (blk_below (bk_ BK344) hb); have n5_ := Aside0.mk (below_step (hb_ HB) hb); clear HO_6; clear HO_345000; clear BK321; clear BK322; clear BK344; clear HB; have HO_6 := n0_; have HO_345000 := n1_; have BK321 := n2_; have BK322 := n3_; have BK344 := n4_; have HB := n5_; clear n0_ n1_ n2_ n3_ n4_ n5_; (try clear hb); (try clear hb2); (try clear hk); (try clear hi)))
      go_ret
      exact ⟨by first | rfl | (simp [errW_none, errW_some] <;> rfl) | (simp [*, errW_none, errW_some] <;> rfl) | (simp [bt, *]; done) | (unfold bt; simp [*]; done), by repeat (first | (with_reducible first | exact HB.out | apply below_alloc | apply pw_below_drewN | apply below_drew1 | refine below_set ?_ GE321.out | refine below_set ?_ GE322.out | refine below_set ?_ GE344.out) | exact HB.out)⟩
     rw [if_neg c47] at H
     have c47b0 : (t338 == a0_3) = false := beq_eq_false_iff_ne.mpr c47
     have c47b1 : (t338 != a0_3) = true := bne_iff_ne.mpr c47
     refine neg_first (p := (t338 = ((a0_3 + 1) % 4294967296))) (fun c60 => ?_) (fun c60 => ?_)
     ·rw [if_neg c60] at H
      have c60b0 : (t338 == ((a0_3 + 1) % 4294967296)) = false := beq_eq_false_iff_ne.mpr c60
      have c60b1 : (t338 != ((a0_3 + 1) % 4294967296)) = true := bne_iff_ne.mpr c60
      exact absurd ((Option.some.inj H).trans HT0.out) (by decide)
     rw [if_pos c60] at H
     have c60b0 : (t338 == ((a0_3 + 1) % 4294967296)) = true := beq_iff_eq.mpr c60
     have c60b1 : (t338 != ((a0_3 + 1) % 4294967296)) = false := bne_eq_false_iff_eq.mpr c60
     clear c60
     replace H := Option.bind_eq_some_iff.mp H
     obtain ⟨t351, A610, H⟩ := H
     try dsimp only at H
     have A61 := Aside0.mk A610
     clear A610
     obtain rfl := Option.some.inj H
     obtain ⟨Ao62, co62, eo62⟩ := Kd.R_slice HO_6.out
     subst eo62
     have hnb63 := NB321_322.out
     have hnc63 := NB322_321.out
     have hnb64 := NB321_344.out
     have hnc64 := NB344_321.out
     have hcz65_0 : wr.cell? ⟨gb321, 0, none⟩ = some (.slice A0_0 l0_0.length c0_0) := (blk_cell BK321.out 0).trans rfl
     have hcz65_1 : wr.cell? ⟨gb321, 1, none⟩ = some (.int .i64 a0_1) := (blk_cell BK321.out 1).trans rfl
     have hcz65_2 : wr.cell? ⟨gb321, 2, none⟩ = some (.string a0_2) := (blk_cell BK321.out 2).trans rfl
     have hcz65_3 : wr.cell? ⟨gb321, 3, none⟩ = some (.int .u32 a0_3) := (blk_cell BK321.out 3).trans rfl
     have hcz65_4 : wr.cell? ⟨gb321, 4, none⟩ = some (.bool a0_4) := (blk_cell BK321.out 4).trans rfl
     have hfz65_0 := blk_frozen BK321.out 0
     have hfz65_1 := blk_frozen BK321.out 1
     have hfz65_2 := blk_frozen BK321.out 2
     have hfz65_3 := blk_frozen BK321.out 3
     have hfz65_4 := blk_frozen BK321.out 4
     go_wp2_with (first | ((with_reducible refine gate_callee (f := 20) rfl ?_); refine goesL_ (some 62) rfl rfl Tryd.func20 (by kernel_rfl) rfl #[.agg #[.slice A0_0 l0_0.length c0_0, .int .i64 a0_1, .string a0_2, .int .u32 a0_3, .bool a0_4]] rfl (by (try simp only [List.map_toArray, List.map_cons, List.map_nil]); first | done | rfl | (simp only [List.length_drop, List.length_take]; rfl)) ?_; (with_reducible refine (headgateref11_Good.calls k2 _ _ l0_0 a0_1 a0_2 a0_3 a0_4 true _ ?side1 ?side2 A43.out).mono ?_); (case side1 => repeat (first | exact (Kd.C_below HR0_0.out HB.out) | (with_reducible refine Kd.C_alloc ?_ _) | (with_reducible refine Kd.C_drewN ?_ _) | (with_reducible refine Kd.C_drew ?_))); (case side2 => exact HC0_0.out); rintro e w66 ⟨rfl, hb⟩; refine ⟨_, rfl, ?_⟩; have n0_ := Aside0.mk (Kd.R_below (by (with_reducible repeat (first | apply Kd.R_alloc | apply Kd.R_drewN | apply Kd.R_drew)); exact HO_6.out) hb); have n1_ := Aside0.mk (Kd.V_below (by (with_reducible repeat (first | apply Kd.V_alloc | apply Kd.V_drewN | apply Kd.V_drew)); exact HO_345000.out) hb); have n2_ := Aside0.mk (blk_below (bk_ BK321) hb); have n3_ := Aside0.mk (blk_below (bk_ BK322) hb); have n4_ := Aside0.mk (blk_below (bk_ BK344) hb); have n5_ := Aside0.mk (below_step (hb_ HB) hb); clear HO_6; clear HO_345000; clear BK321; clear BK322; clear BK344; clear HB; have HO_6 := n0_; have HO_345000 := n1_; have BK321 := n2_; have BK322 := n3_; have BK344 := n4_; have HB := n5_; clear n0_ n1_ n2_ n3_ n4_ n5_; (try clear hb); (try clear hb2); (try clear hk); (try clear hi); have hnb67 := NB344_322.out; have hnc67 := NB322_344.out; have hcz68_0 : w66.cell? ⟨gb344, 0, none⟩ = some (.slice Ao28 t333.length co28) := (blk_cell BK344.out 0).trans rfl; have hcz68_1 : w66.cell? ⟨gb344, 1, none⟩ = some (.int .i64 t336) := (blk_cell BK344.out 1).trans rfl; have hcz68_2 : w66.cell? ⟨gb344, 2, none⟩ = some (.string t337) := (blk_cell BK344.out 2).trans rfl; have hcz68_3 : w66.cell? ⟨gb344, 3, none⟩ = some (.int .u32 t338) := (blk_cell BK344.out 3).trans rfl; have hcz68_4 : w66.cell? ⟨gb344, 4, none⟩ = some (.bool t339) := (blk_cell BK344.out 4).trans rfl; have hfz68_0 := blk_frozen BK344.out 0; have hfz68_1 := blk_frozen BK344.out 1; have hfz68_2 := blk_frozen BK344.out 2; have hfz68_3 := blk_frozen BK344.out 3; have hfz68_4 := blk_frozen BK344.out 4) | (go_at_call 21; (with_reducible refine (resv_Good.calls _ _ t333 t336 t337 t338 t339 true _ ?side1 ?side2 A45.out).mono ?_); (case side1 => repeat (first | exact (Kd.V_reads' HO_345000.out).2.2 | (with_reducible refine Kd.C_alloc ?_ _) | (with_reducible refine Kd.C_drewN ?_ _) | (with_reducible refine Kd.C_drew ?_))); (case side2 => exact (Kd.V_reads' HO_345000.out).2.1); rintro e w69 ⟨rfl, hb⟩; have n0_ := Aside0.mk (Kd.R_below (by (with_reducible repeat (first | apply Kd.R_alloc | apply Kd.R_drewN | apply Kd.R_drew)); exact HO_6.out) hb); have n1_ := Aside0.mk (Kd.V_below (by (with_reducible repeat (first | apply Kd.V_alloc | apply Kd.V_drewN | apply Kd.V_drew)); exact HO_345000.out) hb); have n2_ := Aside0.mk (blk_below (bk_ BK321) hb); have n3_ := Aside0.mk (blk_below (bk_ BK322) hb); have n4_ := Aside0.mk (blk_below (bk_ BK344) hb); have n5_ := Aside0.mk (below_step (hb_ HB) hb); clear HO_6; clear HO_345000; clear BK321; clear BK322; clear BK344; clear HB; have HO_6 := n0_; have HO_345000 := n1_; have BK321 := n2_; have BK322 := n3_; have BK344 := n4_; have HB := n5_; clear n0_ n1_ n2_ n3_ n4_ n5_; (try clear hb); (try clear hb2); (try clear hk); (try clear hi); have hcz70_0 : w69.cell? ⟨gb344, 0, none⟩ = some (.slice Ao28 t333.length co28) := (blk_cell BK344.out 0).trans rfl; have hcz70_1 : w69.cell? ⟨gb344, 1, none⟩ = some (.int .i64 t336) := (blk_cell BK344.out 1).trans rfl; have hcz70_2 : w69.cell? ⟨gb344, 2, none⟩ = some (.string t337) := (blk_cell BK344.out 2).trans rfl; have hcz70_3 : w69.cell? ⟨gb344, 3, none⟩ = some (.int .u32 t338) := (blk_cell BK344.out 3).trans rfl; have hcz70_4 : w69.cell? ⟨gb344, 4, none⟩ = some (.bool t339) := (blk_cell BK344.out 4).trans rfl; have hfz70_0 := blk_frozen BK344.out 0; have hfz70_1 := blk_frozen BK344.out 1; have hfz70_2 := blk_frozen BK344.out 2; have hfz70_3 := blk_frozen BK344.out 3; have hfz70_4 := blk_frozen BK344.out 4; have hcz71_0 : w69.cell? ⟨gb321, 0, none⟩ = some (.slice A0_0 l0_0.length c0_0) := (blk_cell BK321.out 0).trans rfl; have hcz71_1 : w69.cell? ⟨gb321, 1, none⟩ = some (.int .i64 a0_1) := (blk_cell BK321.out 1).trans rfl; have hcz71_2 : w69.cell? ⟨gb321, 2, none⟩ = some (.string a0_2) := (blk_cell BK321.out 2).trans rfl; have hcz71_3 : w69.cell? ⟨gb321, 3, none⟩ = some (.int .u32 a0_3) := (blk_cell BK321.out 3).trans rfl; have hcz71_4 : w69.cell? ⟨gb321, 4, none⟩ = some (.bool a0_4) := (blk_cell BK321.out 4).trans rfl; have hfz71_0 := blk_frozen BK321.out 0; have hfz71_1 := blk_frozen BK321.out 1; have hfz71_2 := blk_frozen BK321.out 2; have hfz71_3 := blk_frozen BK321.out 3; have hfz71_4 := blk_frozen BK321.out 4) | (go_at_call 13; (with_reducible refine (headgatelaw11_wakes.calls k2  t351 _ ?side1 A61.out).mono ?_); (case side1 => first | ((refine Glob.keep HG.out ?_); (repeat (first | (with_reducible first | exact HB.out | apply below_alloc | apply pw_below_drewN | apply below_drew1 | refine below_set ?_ GE321.out | refine below_set ?_ GE322.out | refine below_set ?_ GE344.out) | exact HB.out)); done) | exact HG.out); rintro e w72 ⟨rfl, hb⟩; have n0_ := Aside0.mk (Kd.R_below (by (with_reducible repeat (first | apply Kd.R_alloc | apply Kd.R_drewN | apply Kd.R_drew)); exact HO_6.out) hb); have n1_ := Aside0.mk (Kd.V_below (by (with_reducible repeat (first | apply Kd.V_alloc | apply Kd.V_drewN | apply Kd.V_drew)); exact HO_345000.out) hb); have n2_ := Aside0.mk (blk_below (bk_ BK321) hb); have n3_ := Aside0.mk (blk_below (bk_ BK322) hb); have n4_ := Aside0.mk (blk_below (bk_ BK344) hb); have n5_ := Aside0.mk (below_step (hb_ HB) hb); clear HO_6; clear HO_345000; clear BK321; clear BK322; clear BK344; clear HB; have HO_6 := n0_; have HO_345000 := n1_; have BK321 := n2_; have BK322 := n3_; have BK344 := n4_; have HB := n5_; clear n0_ n1_ n2_ n3_ n4_ n5_; (try clear hb); (try clear hb2); (try clear hk); (try clear hi)))
     go_ret
     exact ⟨by first | rfl | (simp [errW_none, errW_some] <;> rfl) | (simp [*, errW_none, errW_some] <;> rfl) | (simp [bt, *]; done) | (unfold bt; simp [*]; done), by repeat (first | (with_reducible first | exact HB.out | apply below_alloc | apply pw_below_drewN | apply below_drew1 | refine below_set ?_ GE321.out | refine below_set ?_ GE322.out | refine below_set ?_ GE344.out) | exact HB.out)⟩
end Go.Proofs.YtjogkfcjlljjcaaDoor.P
