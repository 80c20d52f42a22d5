-- written by this session's patched copy of the printer (wip/tools/patch_print.py); Lean checks it
import Derived.Test.YtclcnkmefldpiaaDoorBd7
namespace Go.Proofs.YtclcnkmefldpiaaDoor.P
open Go.RowKit Go.Proofs.YtclcnkmefldpiaaDoorW.PrintWords Go.Proofs.YtclcnkmefldpiaaDoorW.PrintLast Go.Proofs.YtclcnkmefldpiaaDoorW.PrintMore
attribute [local go_sem] max2_int min2_int max_two min_two max_three min_three max_four min_four   -- for this text's walks alone
set_option linter.unusedVariables false
set_option linter.unusedSimpArgs false
set_option linter.unnecessarySimpa false

/-! ### headgatelaw21_KeysAnswers: function 3 -/
def headgatelaw21_KeysAnswers.j0 : Nat → List (S45) → Bool → Bool → Bool → Bool → Bool → Int → Int → ByteArray → ByteArray → Option (Bool)
 | 0, _, _, _, _, _, _, _, _, _, _ => none
 | k + 1, x1, x24, x253000, x253001, x253002, x253003, x253004, x253005, x253006, x253007 => if x24 = true then ((headgatelaw21_wakes.f).bind fun t254 => (some t254)) else ((headgatelaw21_few.f x1).bind fun t255 => ((keys_Answer.f x253000 x253001 x253002 x253003 x253004 x253005 x253006 x253007 t255).bind fun bt258 => ((headgatelaw21_Own.f x253000 x253001 x253002 x253003 x253004 x253005 x253006 x253007).bind fun bt271 => ((headgateref21_Answer.f k bt271.1 bt271.2.1 bt271.2.2.1 bt271.2.2.2.1 bt271.2.2.2.2.1 bt271.2.2.2.2.2.1 bt271.2.2.2.2.2.2.1 bt271.2.2.2.2.2.2.2 x1).bind fun bt279 => ((headgatelaw21_Own.f bt258.1 bt258.2.1 bt258.2.2.1 bt258.2.2.2.1 bt258.2.2.2.2.1 bt258.2.2.2.2.2.1 bt258.2.2.2.2.2.2.1 bt258.2.2.2.2.2.2.2.1).bind fun bt292 => ((headgateref21_Same.f bt292.1 bt292.2.1 bt292.2.2.1 bt292.2.2.2.1 bt292.2.2.2.2.1 bt292.2.2.2.2.2.1 bt292.2.2.2.2.2.2.1 bt292.2.2.2.2.2.2.2 bt279.1 bt279.2.1 bt279.2.2.1 bt279.2.2.2.1 bt279.2.2.2.2.1 bt279.2.2.2.2.2.1 bt279.2.2.2.2.2.2.1 bt279.2.2.2.2.2.2.2.1).bind fun t300 => (if t300 = true then ((headgateref21_Pairs.f k bt258.2.2.2.2.2.2.2.2.1 bt279.2.2.2.2.2.2.2.2.1).bind fun t301 => (if t301 = true then (if bt258.2.2.2.2.2.2.2.2.2 = bt279.2.2.2.2.2.2.2.2.2 then ((headgateref21_Pairs.f k t255 x1).bind fun t302 => (if t302 = true then ((keys_First.f).bind fun bt303 => ((headgatelaw21_Own.f bt303.1 bt303.2.1 bt303.2.2.1 bt303.2.2.2.1 bt303.2.2.2.2.1 bt303.2.2.2.2.2.1 bt303.2.2.2.2.2.2.1 bt303.2.2.2.2.2.2.2).bind fun bt311 => ((headgateref21_First.f).bind fun bt319 => ((headgateref21_Same.f bt311.1 bt311.2.1 bt311.2.2.1 bt311.2.2.2.1 bt311.2.2.2.2.1 bt311.2.2.2.2.2.1 bt311.2.2.2.2.2.2.1 bt311.2.2.2.2.2.2.2 bt319.1 bt319.2.1 bt319.2.2.1 bt319.2.2.2.1 bt319.2.2.2.2.1 bt319.2.2.2.2.2.1 bt319.2.2.2.2.2.2.1 bt319.2.2.2.2.2.2.2).bind fun t327 => (if t327 = true then ((headgatelaw21_wakes.f).bind fun t328 => (some t328)) else (some false)))))) else (some false))) else (some false)) else (some false))) else (some false))))))))
def headgatelaw21_KeysAnswers.f (k : Nat) (a0_0 : Bool) (a0_1 : Bool) (a0_2 : Bool) (a0_3 : Bool) (a0_4 : Int) (a0_5 : Int) (a0_6 : ByteArray) (a0_7 : ByteArray) (l1 : List (S45)) : Option (Bool) := (headgatelaw21_Large.f k l1).bind fun t253 => (if t253 = true then (headgatelaw21_KeysAnswers.j0 k l1 true a0_0 a0_1 a0_2 a0_3 a0_4 a0_5 a0_6 a0_7) else (if (a0_6.size : Int) > 1000 then (headgatelaw21_KeysAnswers.j0 k l1 true a0_0 a0_1 a0_2 a0_3 a0_4 a0_5 a0_6 a0_7) else (headgatelaw21_KeysAnswers.j0 k l1 (decide ((a0_7.size : Int) > 1000)) a0_0 a0_1 a0_2 a0_3 a0_4 a0_5 a0_6 a0_7)))
theorem headgatelaw21_KeysAnswers.mono_l : ∀ k, (∀ y0 y1 y2 y3 y4 y5 y6 y7 y8 y9, LeO (headgatelaw21_KeysAnswers.j0 k y0 y1 y2 y3 y4 y5 y6 y7 y8 y9) (headgatelaw21_KeysAnswers.j0 (k + 1) y0 y1 y2 y3 y4 y5 y6 y7 y8 y9))
 | 0 => fun _ _ _ _ _ _ _ _ _ _ r h => by simp [headgatelaw21_KeysAnswers.j0] at h
 | k + 1 => by
  have ih0 := headgatelaw21_KeysAnswers.mono_l k
  ·intro y0 y1 y2 y3 y4 y5 y6 y7 y8 y9
   unfold headgatelaw21_KeysAnswers.j0
   repeat' first
   | (with_reducible exact ih0 _ _ _ _ _ _ _ _ _ _)
   | (with_reducible exact headgatelaw21_Large.mono _ _)
   | (with_reducible exact headgateref21_Answer.mono _ _ _ _ _ _ _ _ _ _)
   | (with_reducible exact headgateref21_Pairs.mono _ _ _)
   | (with_reducible exact LeO.refl _)
   | (with_reducible exact LeO.none _)
   | (with_reducible refine LeO.ite ?_ ?_)
   | (with_reducible refine LeO.bind ?_ (fun _ => ?_))
   | exact ih0 _ _ _ _ _ _ _ _ _ _
   | exact headgatelaw21_Large.mono _ _
   | exact headgateref21_Answer.mono _ _ _ _ _ _ _ _ _ _
   | exact headgateref21_Pairs.mono _ _ _
   | exact LeO.none _
   | refine LeO.ite ?_ ?_
   | refine LeO.bind ?_ (fun _ => ?_)
theorem headgatelaw21_KeysAnswers.mono : ∀ a0 a1 a2 a3 a4 a5 a6 a7 a8 k, LeO (headgatelaw21_KeysAnswers.f k a0 a1 a2 a3 a4 a5 a6 a7 a8) (headgatelaw21_KeysAnswers.f (k + 1) a0 a1 a2 a3 a4 a5 a6 a7 a8) := by
 intro a0 a1 a2 a3 a4 a5 a6 a7 a8 k
 have ih0 := headgatelaw21_KeysAnswers.mono_l k
 unfold headgatelaw21_KeysAnswers.f
 repeat' first
   | (with_reducible exact ih0 _ _ _ _ _ _ _ _ _ _)
   | (with_reducible exact headgatelaw21_Large.mono _ _)
   | (with_reducible exact headgateref21_Answer.mono _ _ _ _ _ _ _ _ _ _)
   | (with_reducible exact headgateref21_Pairs.mono _ _ _)
   | (with_reducible exact LeO.refl _)
   | (with_reducible exact LeO.none _)
   | (with_reducible refine LeO.ite ?_ ?_)
   | (with_reducible refine LeO.bind ?_ (fun _ => ?_))
   | exact ih0 _ _ _ _ _ _ _ _ _ _
   | exact headgatelaw21_Large.mono _ _
   | exact headgateref21_Answer.mono _ _ _ _ _ _ _ _ _ _
   | exact headgateref21_Pairs.mono _ _ _
   | exact LeO.none _
   | refine LeO.ite ?_ ?_
   | refine LeO.bind ?_ (fun _ => ?_)
def headgatelaw21_KeysAnswers.T6 : Bool × List (List Nat × List Nat) := (true, [([], []), ([0], [0]), ([], []), ([2], [2]), ([1, 3, 1], [1, 3]), ([4, 4], [4]), ([5], [5]), ([5], [5]), ([7, 5], [5, 7]), ([6, 8, 5, 5], [5, 6, 8]), ([5, 9], [5, 9]), ([10, 9], [10]), ([11], [11]), ([11], [11]), ([12, 13, 11], [11, 12, 13]), ([11, 14], [11, 14]), ([15, 11], [15]), ([16], [16]), ([16], [16]), ([17, 18, 16, 16], [16, 17, 18]), ([16, 19], [16, 19]), ([20, 19], [20]), ([21, 21], [21]), ([22, 22, 21], [21, 22]), ([23, 21], [21]), ([23, 24, 24, 21], [21, 23, 24]), ([21, 25], [21, 25]), ([26, 25], [26]), ([27, 27], [27]), ([27, 28], [27, 28]), ([29, 28, 0, 1, 2, 3, 4, 5, 6, 7, 8, 9, 10, 11, 12, 13, 14, 15, 16, 17, 18, 19, 20, 21, 22, 23, 24, 25, 26, 27, 28, 29], [29])])
def headgatelaw21_KeysAnswers.B6 : List Nat := [0, 1, 0, 4, 15, 31, 63, 63, 191, 511, 1023, 2047, 4095, 4095, 16383, 32767, 65535, 131071, 131071, 524287, 1048575, 2097151, 4194303, 8388607, 16777215, 33554431, 67108863, 134217727, 268435455, 536870911, 1073741823]
theorem headgatelaw21_KeysAnswers.tab6 : rtab .any (opsOf Tryd.f3 6) = headgatelaw21_KeysAnswers.T6 := by kernel_rfl
theorem headgatelaw21_KeysAnswers.bits6 : waitsOk headgatelaw21_KeysAnswers.T6.2 headgatelaw21_KeysAnswers.B6 = true := by kernel_rfl
abbrev d3x0 : Array Bool := #[false, false, false, false, false, false, false, false, false, false, false, false, false, false, false, false, false, false, false, false, false, false, false, false, false, false, false, false, false, false, false]
abbrev d3x1 : Array Bool := dB 31 4
abbrev d3x2 : Array Bool := dB 31 5
abbrev d3x3 : Array Bool := dB 31 13
abbrev d3x4 : Array Bool := dB 31 15
abbrev d3x5 : Array Bool := dB 31 31
abbrev d3x6 : Array Bool := dB 31 63
abbrev d3x7 : Array Bool := dB 31 127
abbrev d3x8 : Array Bool := dB 31 255
abbrev d3x9 : Array Bool := dB 31 511
abbrev d3x10 : Array Bool := dB 31 1023
abbrev d3x11 : Array Bool := dB 31 2047
abbrev d3x12 : Array Bool := dB 31 4095
abbrev d3x13 : Array Bool := dB 31 8191
abbrev d3x14 : Array Bool := dB 31 16383
abbrev d3x15 : Array Bool := dB 31 32767
abbrev d3x16 : Array Bool := dB 31 65535
abbrev d3x17 : Array Bool := dB 31 131071
abbrev d3x18 : Array Bool := dB 31 262143
abbrev d3x19 : Array Bool := dB 31 524287
abbrev d3x20 : Array Bool := dB 31 1048575
abbrev d3x21 : Array Bool := dB 31 2097151
abbrev d3x22 : Array Bool := dB 31 4194303
abbrev d3x23 : Array Bool := dB 31 8388607
abbrev d3x24 : Array Bool := dB 31 16777215
abbrev d3x25 : Array Bool := dB 31 33554431
abbrev d3x26 : Array Bool := dB 31 67108863
abbrev d3x27 : Array Bool := dB 31 134217727
abbrev d3x28 : Array Bool := dB 31 268435455
abbrev d3x29 : Array Bool := dB 31 536870911
abbrev d3x30 : Array Bool := dB 31 1073741823
abbrev d3x31 : Array Bool := dB 31 2147483647
set_option maxHeartbeats 8000000 in
set_option maxRecDepth 100000 in
theorem headgatelaw21_KeysAnswers.calls (k : Nat) (a0_0 : Bool) (a0_1 : Bool) (a0_2 : Bool) (a0_3 : Bool) (a0_4 : Int) (a0_5 : Int) (a0_6 : ByteArray) (a0_7 : ByteArray) (A1 : Option Addr) (c1 : Nat) (l1 : List (S45)) (r : Bool) (w : World) (hr1 : Kd.C k45 w A1 l1.length l1) (hc1 : l1.length ≤ c1) (hG : Glob w) (hT : r = true) (h : headgatelaw21_KeysAnswers.f k a0_0 a0_1 a0_2 a0_3 a0_4 a0_5 a0_6 a0_7 l1 = some r) :
  Calls Tryd.prog 3 #[.agg #[.bool a0_0, .bool a0_1, .bool a0_2, .bool a0_3, .int .i64 a0_4, .int .i64 a0_5, .string a0_6, .string a0_7], .slice A1 l1.length c1] w fun e w' => e = .returned (.bool r) ∧ Below w.heap.size w w' := by
 have hu23 := Tryd.underlying23
 have hu33 := Tryd.underlying33
 have hu31 := Tryd.underlying31
 have HT0 := Aside0.mk hT
 clear hT
 have HG := Aside0.mk hG
 clear hG
 have HR1 := Aside0.mk hr1
 have HC1 := Aside0.mk hc1
 clear hr1 hc1
 have HB := Aside0.mk (Below.refl w.heap.size w)
 have H : ((headgatelaw21_Large.f k l1).bind fun t253 => (if t253 = true then (headgatelaw21_KeysAnswers.j0 k l1 true a0_0 a0_1 a0_2 a0_3 a0_4 a0_5 a0_6 a0_7) else (if (a0_6.size : Int) > 1000 then (headgatelaw21_KeysAnswers.j0 k l1 true a0_0 a0_1 a0_2 a0_3 a0_4 a0_5 a0_6 a0_7) else (headgatelaw21_KeysAnswers.j0 k l1 (decide ((a0_7.size : Int) > 1000)) a0_0 a0_1 a0_2 a0_3 a0_4 a0_5 a0_6 a0_7)))) = some r := h
 clear h
 have HC3 := Aside0.mk H
 clear H
 go_enter Tryd.func3, Tryd.ntmps3
 go_upto_region 1 with (first | ((with_reducible refine gate_dst (N := 2) rfl ?_); (try (refine gate_guard (by rfl) ?_; dsimp only)); refine box_event ?hg (N := 2) ?hd (cs := #[.bool a0_0, .bool a0_1, .bool a0_2, .bool a0_3, .int .i64 a0_4, .int .i64 a0_5, .string a0_6, .string a0_7]) (t := 23) ?hr ?_; (case hd => rfl); (case hg => rfl); (case hr => first | (go_simp; done) | (go_simp; rfl)); intro gb252 hg w4 hbox hb; have n0_ := Aside0.mk (below_step (hb_ HB) hb); have n1_ := Aside0.mk (hbox); have n2_ := Aside0.mk ((by rw [hg]; exact (below_size (hb_ HB)) : w.heap.size ≤ gb252)); have n3_ := Aside0.mk ((by rw [hg]; exact (below_size (hb_ HB)) : w.heap.size ≤ gb252)); clear HB; have HB := n0_; have BK252 := n1_; have GW252 := n2_; have GE252 := n3_; clear n0_ n1_ n2_ n3_; clear hb hbox hg))
 (try simp only [Act.put, la_, lb_, lc_])
 go_cut [24] (fun v24 wc => ∃ (kq : Nat) (x24_2 : Bool), v24 = .bool x24_2 ∧ Aside0 (headgatelaw21_KeysAnswers.j0 kq l1 x24_2 a0_0 a0_1 a0_2 a0_3 a0_4 a0_5 a0_6 a0_7 = some r) ∧ Aside0 (kq ≤ k) ∧ Aside0 (wc.heap[gb252]? = some (.cells #[.bool a0_0, .bool a0_1, .bool a0_2, .bool a0_3, .int .i64 a0_4, .int .i64 a0_5, .string a0_6, .string a0_7] 23 (0, 0))) ∧ Aside0 (Below w.heap.size w wc))
 case first =>
  have H := HC3.out
  clear HC3
  replace H := Option.bind_eq_some_iff.mp H
  obtain ⟨t253, A50, H⟩ := H
  try dsimp only at H
  have A5 := Aside0.mk A50
  clear A50
  by_cases c6 : t253 = true
  ·subst c6
   have H1 := H
   rw [if_pos rfl] at H1
   clear H
   have H := H1
   clear H1
   have H' := Aside0.mk H
   clear H
   go_wp2_with (first | ((with_reducible refine gate_callee (f := 8) rfl ?_); refine goesL_ (some 12) rfl rfl Tryd.func8 (by kernel_rfl) rfl #[.slice A1 l1.length c1] rfl (by (try simp only [List.map_toArray, List.map_cons, List.map_nil]); first | done | rfl | (simp only [List.length_drop, List.length_take]; rfl)) ?_; (with_reducible refine (headgatelaw21_Large.calls k _ _ l1 true _ ?side1 ?side2 A5.out).mono ?_); (case side1 => repeat (first | exact (Kd.C_below HR1.out HB.out) | (with_reducible refine Kd.C_alloc ?_ _) | (with_reducible refine Kd.C_drewN ?_ _) | (with_reducible refine Kd.C_drew ?_))); (case side2 => exact HC1.out); rintro e w' ⟨rfl, ⟨nd, rfl⟩⟩; refine ⟨_, rfl, ?_⟩))
   go_meet
   case rel => exact ⟨_, (true), (by first | rfl | (simp; done) | (simp [*]; done)), H', ⟨by first | omega | exact Nat.le_refl _⟩, ⟨bk_ BK252⟩, ⟨hb_ HB⟩⟩
  replace c6 := Bool.eq_false_iff.mpr c6
  subst c6
  have H1 := H
  rw [if_neg (show ¬ (false = true) by decide)] at H1
  clear H
  have H := H1
  clear H1
  by_cases c7 : (a0_6.size : Int) > 1000
  ·rw [if_pos c7] at H
   have c7b0 : decide (1000 < (a0_6.size : Int)) = true := decide_eq_true c7
   have c7b1 : decide (1000 < a0_6.size) = true := decide_eq_true (by omega)
   clear c7
   (first | rw [c7b0] | (simp only [i64_w, i32_w]; rw [c7b0]) | skip)
   have H' := Aside0.mk H
   clear H
   go_wp2_with (first | ((with_reducible refine gate_callee (f := 8) rfl ?_); refine goesL_ (some 12) rfl rfl Tryd.func8 (by kernel_rfl) rfl #[.slice A1 l1.length c1] rfl (by (try simp only [List.map_toArray, List.map_cons, List.map_nil]); first | done | rfl | (simp only [List.length_drop, List.length_take]; rfl)) ?_; (with_reducible refine (headgatelaw21_Large.calls k _ _ l1 false _ ?side1 ?side2 A5.out).mono ?_); (case side1 => repeat (first | exact (Kd.C_below HR1.out HB.out) | (with_reducible refine Kd.C_alloc ?_ _) | (with_reducible refine Kd.C_drewN ?_ _) | (with_reducible refine Kd.C_drew ?_))); (case side2 => exact HC1.out); rintro e w' ⟨rfl, ⟨nd, rfl⟩⟩; refine ⟨_, rfl, ?_⟩; have hcz8_0 : w4.cell? ⟨gb252, 0, none⟩ = some (.bool a0_0) := (blk_cell BK252.out 0).trans rfl; have hcz8_1 : w4.cell? ⟨gb252, 1, none⟩ = some (.bool a0_1) := (blk_cell BK252.out 1).trans rfl; have hcz8_2 : w4.cell? ⟨gb252, 2, none⟩ = some (.bool a0_2) := (blk_cell BK252.out 2).trans rfl; have hcz8_3 : w4.cell? ⟨gb252, 3, none⟩ = some (.bool a0_3) := (blk_cell BK252.out 3).trans rfl; have hcz8_4 : w4.cell? ⟨gb252, 4, none⟩ = some (.int .i64 a0_4) := (blk_cell BK252.out 4).trans rfl; have hcz8_5 : w4.cell? ⟨gb252, 5, none⟩ = some (.int .i64 a0_5) := (blk_cell BK252.out 5).trans rfl; have hcz8_6 : w4.cell? ⟨gb252, 6, none⟩ = some (.string a0_6) := (blk_cell BK252.out 6).trans rfl; have hcz8_7 : w4.cell? ⟨gb252, 7, none⟩ = some (.string a0_7) := (blk_cell BK252.out 7).trans rfl; have hfz8_0 := blk_frozen BK252.out 0; have hfz8_1 := blk_frozen BK252.out 1; have hfz8_2 := blk_frozen BK252.out 2; have hfz8_3 := blk_frozen BK252.out 3; have hfz8_4 := blk_frozen BK252.out 4; have hfz8_5 := blk_frozen BK252.out 5; have hfz8_6 := blk_frozen BK252.out 6; have hfz8_7 := blk_frozen BK252.out 7))
   go_meet
   case rel => exact ⟨_, (true), (by first | rfl | (simp; done) | (simp [*]; done)), H', ⟨by first | omega | exact Nat.le_refl _⟩, ⟨bk_ BK252⟩, ⟨hb_ HB⟩⟩
  rw [if_neg c7] at H
  have c7b0 : decide (1000 < (a0_6.size : Int)) = false := decide_eq_false c7
  have c7b1 : decide (1000 < a0_6.size) = false := decide_eq_false (by omega)
  clear c7
  (first | rw [c7b0] | (simp only [i64_w, i32_w]; rw [c7b0]) | skip)
  have H' := Aside0.mk H
  clear H
  go_wp2_with (first | ((with_reducible refine gate_callee (f := 8) rfl ?_); refine goesL_ (some 12) rfl rfl Tryd.func8 (by kernel_rfl) rfl #[.slice A1 l1.length c1] rfl (by (try simp only [List.map_toArray, List.map_cons, List.map_nil]); first | done | rfl | (simp only [List.length_drop, List.length_take]; rfl)) ?_; (with_reducible refine (headgatelaw21_Large.calls k _ _ l1 false _ ?side1 ?side2 A5.out).mono ?_); (case side1 => repeat (first | exact (Kd.C_below HR1.out HB.out) | (with_reducible refine Kd.C_alloc ?_ _) | (with_reducible refine Kd.C_drewN ?_ _) | (with_reducible refine Kd.C_drew ?_))); (case side2 => exact HC1.out); rintro e w' ⟨rfl, ⟨nd, rfl⟩⟩; refine ⟨_, rfl, ?_⟩; have hcz9_0 : w4.cell? ⟨gb252, 0, none⟩ = some (.bool a0_0) := (blk_cell BK252.out 0).trans rfl; have hcz9_1 : w4.cell? ⟨gb252, 1, none⟩ = some (.bool a0_1) := (blk_cell BK252.out 1).trans rfl; have hcz9_2 : w4.cell? ⟨gb252, 2, none⟩ = some (.bool a0_2) := (blk_cell BK252.out 2).trans rfl; have hcz9_3 : w4.cell? ⟨gb252, 3, none⟩ = some (.bool a0_3) := (blk_cell BK252.out 3).trans rfl; have hcz9_4 : w4.cell? ⟨gb252, 4, none⟩ = some (.int .i64 a0_4) := (blk_cell BK252.out 4).trans rfl; have hcz9_5 : w4.cell? ⟨gb252, 5, none⟩ = some (.int .i64 a0_5) := (blk_cell BK252.out 5).trans rfl; have hcz9_6 : w4.cell? ⟨gb252, 6, none⟩ = some (.string a0_6) := (blk_cell BK252.out 6).trans rfl; have hcz9_7 : w4.cell? ⟨gb252, 7, none⟩ = some (.string a0_7) := (blk_cell BK252.out 7).trans rfl; have hfz9_0 := blk_frozen BK252.out 0; have hfz9_1 := blk_frozen BK252.out 1; have hfz9_2 := blk_frozen BK252.out 2; have hfz9_3 := blk_frozen BK252.out 3; have hfz9_4 := blk_frozen BK252.out 4; have hfz9_5 := blk_frozen BK252.out 5; have hfz9_6 := blk_frozen BK252.out 6; have hfz9_7 := blk_frozen BK252.out 7))
  go_meet
  case rel => exact ⟨_, (decide ((a0_7.size : Int) > 1000)), (by first | rfl | (simp; done) | (simp [*]; done)), H', ⟨by first | omega | exact Nat.le_refl _⟩, ⟨bk_ BK252⟩, ⟨hb_ HB⟩⟩
 case rest =>
  clear HC3
  try clear c1
  try clear p2
  try clear c3
  try clear c6
  try clear c7
  try clear c7b0
  try clear c7b1
  try clear c8
  try clear hcz8_0
  try clear hcz8_1
  try clear hcz8_2
  try clear hcz8_3
  try clear hcz8_4
  try clear hcz8_5
  try clear hcz8_6
  try clear hcz8_7
  try clear hcz9_0
  try clear hcz9_1
  try clear hcz9_2
  try clear hcz9_3
  try clear hcz9_4
  try clear hcz9_5
  try clear hcz9_6
  try clear hcz9_7
  try clear hfz8_0
  try clear hfz8_1
  try clear hfz8_2
  try clear hfz8_3
  try clear hfz8_4
  try clear hfz8_5
  try clear hfz8_6
  try clear hfz8_7
  try clear hfz9_0
  try clear hfz9_1
  try clear hfz9_2
  try clear hfz9_3
  try clear hfz9_4
  try clear hfz9_5
  try clear hfz9_6
  try clear hfz9_7
  obtain ⟨kq, x24_2, rfl, HA, HJ2, BK252, HB⟩ := hcut
  cases kq with
  | zero => exact absurd HA.out (by simp [headgatelaw21_KeysAnswers.j0])
  | succ kj2 =>
   have H := HA.out
   clear HA
   simp only [headgatelaw21_KeysAnswers.j0] at H
   by_cases c10 : x24_2 = true
   ·subst c10
    have H1 := H
    rw [if_pos rfl] at H1
    clear H
    have H := H1
    clear H1
    replace H := Option.bind_eq_some_iff.mp H
    obtain ⟨t254, A110, H⟩ := H
    try dsimp only at H
    have A11 := Aside0.mk A110
    clear A110
    obtain rfl := Option.some.inj H
    go_wp2_with (first | ((with_reducible refine gate_callee (f := 9) rfl ?_); refine goesL_ (some 25) rfl rfl Tryd.func9 (by kernel_rfl) rfl #[] rfl (by (try simp only [List.map_toArray, List.map_cons, List.map_nil]); first | done | rfl | (simp only [List.length_drop, List.length_take]; rfl)) ?_; (with_reducible refine (headgatelaw21_wakes.calls  t254 _ ?side1 A11.out).mono ?_); (case side1 => first | ((refine Glob.keep HG.out ?_); (repeat (first | (with_reducible first | exact HB.out | apply below_alloc | apply pw_below_drewN | apply below_drew1 | refine below_set ?_ GE252.out) | exact HB.out)); done) | exact HG.out); rintro e w12 ⟨rfl, hb⟩; refine ⟨_, rfl, ?_⟩; have n0_ := Aside0.mk (blk_below (bk_ BK252) hb); have n1_ := Aside0.mk (below_step (hb_ HB) hb); clear BK252; clear HB; have BK252 := n0_; have HB := n1_; clear n0_ n1_; (try clear hb); (try clear hb2); (try clear hk); (try clear hi)))
    go_ret
    exact ⟨by first | rfl | (simp [errW_none, errW_some] <;> rfl) | (simp [*, errW_none, errW_some] <;> rfl) | (simp [bt, *]; done) | (unfold bt; simp [*]; done), by repeat (first | (with_reducible first | exact HB.out | apply below_alloc | apply pw_below_drewN | apply below_drew1 | refine below_set ?_ GE252.out) | exact HB.out)⟩
   replace c10 := Bool.eq_false_iff.mpr c10
   subst c10
   have H1 := H
   rw [if_neg (show ¬ (false = true) by decide)] at H1
   clear H
   have H := H1
   clear H1
   replace H := Option.bind_eq_some_iff.mp H
   obtain ⟨t255, A130, H⟩ := H
   try dsimp only at H
   have A13 := Aside0.mk A130
   clear A130
   replace H := Option.bind_eq_some_iff.mp H
   obtain ⟨⟨t258, t259, t260, t261, t262, t263, t264, t265, t266, t269⟩, A140, H⟩ := H
   try dsimp only at H
   have A14 := Aside0.mk A140
   clear A140
   replace H := Option.bind_eq_some_iff.mp H
   obtain ⟨⟨t271, t272, t273, t274, t275, t276, t277, t278⟩, A150, H⟩ := H
   try dsimp only at H
   have A15 := Aside0.mk A150
   clear A150
   replace H := Option.bind_eq_some_iff.mp H
   obtain ⟨⟨t279, t280, t281, t282, t283, t284, t285, t286, t287, t290⟩, A160, H⟩ := H
   try dsimp only at H
   have A16 := Aside0.mk A160
   clear A160
   replace H := Option.bind_eq_some_iff.mp H
   obtain ⟨⟨t292, t293, t294, t295, t296, t297, t298, t299⟩, A170, H⟩ := H
   try dsimp only at H
   have A17 := Aside0.mk A170
   clear A170
   replace H := Option.bind_eq_some_iff.mp H
   obtain ⟨t300, A180, H⟩ := H
   try dsimp only at H
   have A18 := Aside0.mk A180
   clear A180
   refine neg_first (p := (t300 = true)) (fun c19 => ?_) (fun c19 => ?_)
   ·replace c19 := Bool.eq_false_iff.mpr c19
    subst c19
    have H1 := H
    rw [if_neg (show ¬ (false = true) by decide)] at H1
    clear H
    have H := H1
    clear H1
    exact absurd ((Option.some.inj H).trans HT0.out) (by decide)

   subst c19
   have H1 := H
   rw [if_pos rfl] at H1
   clear H
   have H := H1
   clear H1
   replace H := Option.bind_eq_some_iff.mp H
   obtain ⟨t301, A200, H⟩ := H
   try dsimp only at H
   have A20 := Aside0.mk A200
   clear A200
   refine neg_first (p := (t301 = true)) (fun c21 => ?_) (fun c21 => ?_)
   ·replace c21 := Bool.eq_false_iff.mpr c21
    subst c21
    have H1 := H
    rw [if_neg (show ¬ (false = true) by decide)] at H1
    clear H
    have H := H1
    clear H1
    exact absurd ((Option.some.inj H).trans HT0.out) (by decide)
   subst c21
   have H1 := H
   rw [if_pos rfl] at H1
   clear H
   have H := H1
   clear H1
   refine neg_first (p := (t269 = t290)) (fun c22 => ?_) (fun c22 => ?_)
   ·rw [if_neg c22] at H
    have c22b0 : (t269 == t290) = false := beq_eq_false_iff_ne.mpr c22
    have c22b1 : (t269 != t290) = true := bne_iff_ne.mpr c22
    exact absurd ((Option.some.inj H).trans HT0.out) (by decide)
   rw [if_pos c22] at H
   have c22b0 : (t269 == t290) = true := beq_iff_eq.mpr c22
   have c22b1 : (t269 != t290) = false := bne_eq_false_iff_eq.mpr c22
   clear c22
   replace H := Option.bind_eq_some_iff.mp H
   obtain ⟨t302, A230, H⟩ := H
   try dsimp only at H
   have A23 := Aside0.mk A230
   clear A230
   refine neg_first (p := (t302 = true)) (fun c24 => ?_) (fun c24 => ?_)
   ·replace c24 := Bool.eq_false_iff.mpr c24
    subst c24
    have H1 := H
    rw [if_neg (show ¬ (false = true) by decide)] at H1
    clear H
    have H := H1
    clear H1
    exact absurd ((Option.some.inj H).trans HT0.out) (by decide)
   subst c24
   have H1 := H
   rw [if_pos rfl] at H1
   clear H
   have H := H1
   clear H1
   replace H := Option.bind_eq_some_iff.mp H
   obtain ⟨⟨t303, t304, t305, t306, t307, t308, t309, t310⟩, A250, H⟩ := H
   try dsimp only at H
   have A25 := Aside0.mk A250
   clear A250
   replace H := Option.bind_eq_some_iff.mp H
   obtain ⟨⟨t311, t312, t313, t314, t315, t316, t317, t318⟩, A260, H⟩ := H
   try dsimp only at H
   have A26 := Aside0.mk A260
   clear A260
   replace H := Option.bind_eq_some_iff.mp H
   obtain ⟨⟨t319, t320, t321, t322, t323, t324, t325, t326⟩, A270, H⟩ := H
   try dsimp only at H
   have A27 := Aside0.mk A270
   clear A270
   replace H := Option.bind_eq_some_iff.mp H
   obtain ⟨t327, A280, H⟩ := H
   try dsimp only at H
   have A28 := Aside0.mk A280
   clear A280
   refine neg_first (p := (t327 = true)) (fun c29 => ?_) (fun c29 => ?_)
   ·replace c29 := Bool.eq_false_iff.mpr c29
    subst c29
    have H1 := H
    rw [if_neg (show ¬ (false = true) by decide)] at H1
    clear H
    have H := H1
    clear H1
    exact absurd ((Option.some.inj H).trans HT0.out) (by decide)
   subst c29
   have H1 := H
   rw [if_pos rfl] at H1
   clear H
   have H := H1
   clear H1
   replace H := Option.bind_eq_some_iff.mp H
   obtain ⟨t328, A300, H⟩ := H
   try dsimp only at H
   have A30 := Aside0.mk A300
   clear A300
   obtain rfl := Option.some.inj H
   try go_wp2_with (first | ((with_reducible refine gate_callee (f := 10) rfl ?_); refine goesL_ (some 27) rfl rfl Tryd.func10 (by kernel_rfl) rfl #[.slice A1 l1.length c1] rfl (by (try simp only [List.map_toArray, List.map_cons, List.map_nil]); first | done | rfl | (simp only [List.length_drop, List.length_take]; rfl)) ?_; (with_reducible refine (headgatelaw21_few.calls _ _ l1 t255 _ ?side1 ?side2 A13.out).mono ?_); (case side1 => repeat (first | exact (Kd.C_below HR1.out HB.out) | (with_reducible refine Kd.C_alloc ?_ _) | (with_reducible refine Kd.C_drewN ?_ _) | (with_reducible refine Kd.C_drew ?_))); (case side2 => exact HC1.out); rintro e w31 ⟨v256, rfl, ho0, hb⟩; refine ⟨_, rfl, ?_⟩; have n0_ := Aside0.mk (Kd.R_lower ho0 (below_size (hb_ HB))); have n1_ := Aside0.mk (blk_below (bk_ BK252) hb); have n2_ := Aside0.mk (below_step (hb_ HB) hb); clear BK252; clear HB; have HO257 := n0_; have BK252 := n1_; have HB := n2_; clear n0_ n1_ n2_; (try clear hb); (try clear hb2); (try clear hk); (try clear hi); (try clear ho0); have hcz32_0 : w31.cell? ⟨gb252, 0, none⟩ = some (.bool a0_0) := (blk_cell BK252.out 0).trans rfl; have hcz32_1 : w31.cell? ⟨gb252, 1, none⟩ = some (.bool a0_1) := (blk_cell BK252.out 1).trans rfl; have hcz32_2 : w31.cell? ⟨gb252, 2, none⟩ = some (.bool a0_2) := (blk_cell BK252.out 2).trans rfl; have hcz32_3 : w31.cell? ⟨gb252, 3, none⟩ = some (.bool a0_3) := (blk_cell BK252.out 3).trans rfl; have hcz32_4 : w31.cell? ⟨gb252, 4, none⟩ = some (.int .i64 a0_4) := (blk_cell BK252.out 4).trans rfl; have hcz32_5 : w31.cell? ⟨gb252, 5, none⟩ = some (.int .i64 a0_5) := (blk_cell BK252.out 5).trans rfl; have hcz32_6 : w31.cell? ⟨gb252, 6, none⟩ = some (.string a0_6) := (blk_cell BK252.out 6).trans rfl; have hcz32_7 : w31.cell? ⟨gb252, 7, none⟩ = some (.string a0_7) := (blk_cell BK252.out 7).trans rfl; have hfz32_0 := blk_frozen BK252.out 0; have hfz32_1 := blk_frozen BK252.out 1; have hfz32_2 := blk_frozen BK252.out 2; have hfz32_3 := blk_frozen BK252.out 3; have hfz32_4 := blk_frozen BK252.out 4; have hfz32_5 := blk_frozen BK252.out 5; have hfz32_6 := blk_frozen BK252.out 6; have hfz32_7 := blk_frozen BK252.out 7; obtain ⟨Ao33, co33, eo33⟩ := Kd.R_slice HO257.out; subst eo33) | ((with_reducible refine gate_callee (f := 11) rfl ?_); refine goesL_ (some 31) rfl rfl Tryd.func11 (by kernel_rfl) rfl #[.agg #[.bool a0_0, .bool a0_1, .bool a0_2, .bool a0_3, .int .i64 a0_4, .int .i64 a0_5, .string a0_6, .string a0_7], .slice Ao33 t255.length co33] rfl (by (try simp only [List.map_toArray, List.map_cons, List.map_nil]); first | done | rfl | (simp only [List.length_drop, List.length_take]; rfl)) ?_; (with_reducible refine (keys_Answer.calls a0_0 a0_1 a0_2 a0_3 a0_4 a0_5 a0_6 a0_7 _ _ t255 t258 t259 t260 t261 t262 t263 t264 t265 t266 t269 _ ?side1 ?side2 ?side3 A14.out).mono ?_); (case side1 => repeat (first | exact (Kd.R_reads' HO257.out).2.2 | (with_reducible refine Kd.C_alloc ?_ _) | (with_reducible refine Kd.C_drewN ?_ _) | (with_reducible refine Kd.C_drew ?_))); (case side2 => exact (Kd.R_reads' HO257.out).2.1); (case side3 => first | ((refine Glob.keep HG.out ?_); (repeat (first | (with_reducible first | exact HB.out | apply below_alloc | apply pw_below_drewN | apply below_drew1 | refine below_set ?_ GE252.out) | exact HB.out)); done) | exact HG.out); rintro e w34 ⟨v267, rfl, ho0, hb⟩; refine ⟨_, rfl, ?_⟩; have n0_ := Aside0.mk (Kd.R_elder' (by (with_reducible repeat (first | apply Kd.R_alloc | apply Kd.R_drewN | apply Kd.R_drew)); exact HO257.out) (Kd.R_base ho0) hb); have n1_ := Aside0.mk (Kd.R_lower (Kd.R_new' ho0 (Kd.R_lt (by (with_reducible repeat (first | apply Kd.R_alloc | apply Kd.R_drewN | apply Kd.R_drew)); exact HO257.out))) (below_size (hb_ HB))); have n2_ := Aside0.mk (blk_below (bk_ BK252) hb); have n3_ := Aside0.mk (below_step (hb_ HB) hb); clear HO257; clear BK252; clear HB; have HO257 := n0_; have HO268 := n1_; have BK252 := n2_; have HB := n3_; clear n0_ n1_ n2_ n3_; (try clear hb); (try clear hb2); (try clear hk); (try clear hi); (try clear ho0)) | ((with_reducible refine gate_dst (N := 6) rfl ?_); (try (refine gate_guard (by rfl) ?_; dsimp only)); refine box_event ?hg (N := 6) ?hd (cs := #[.bool false, .bool false, .bool false, .bool false, .int .i64 0, .int .i64 0, .string (⟨#[]⟩ : ByteArray), .string (⟨#[]⟩ : ByteArray)]) (t := 23) ?hr ?_; (case hd => rfl); (case hg => rfl); (case hr => first | (go_simp; done) | (go_simp; rfl)); intro gb270 hg w35 hbox hb; have n0_ := Aside0.mk (Kd.R_below (by (with_reducible repeat (first | apply Kd.R_alloc | apply Kd.R_drewN | apply Kd.R_drew)); exact HO257.out) hb); have n1_ := Aside0.mk (Kd.R_below (by (with_reducible repeat (first | apply Kd.R_alloc | apply Kd.R_drewN | apply Kd.R_drew)); exact HO268.out) hb); have n2_ := Aside0.mk (blk_below (bk_ BK252) hb); have n3_ := Aside0.mk (below_step (hb_ HB) hb); have n4_ := Aside0.mk (hbox); have n5_ := Aside0.mk ((by rw [hg]; exact (below_size (hb_ HB)) : w.heap.size ≤ gb270)); have n6_ := Aside0.mk ((by rw [hg]; exact (below_size (hb_ HB)) : w.heap.size ≤ gb270)); have n7_ := Aside0.mk ((by rw [hg]; exact Nat.ne_of_lt (blk_lt (g := gb252) (o := .cells #[.bool a0_0, .bool a0_1, .bool a0_2, .bool a0_3, .int .i64 a0_4, .int .i64 a0_5, .string a0_6, .string a0_7] 23 (0, 0)) (bk_ BK252)) : gb252 ≠ gb270)); have n8_ := Aside0.mk ((by rw [hg]; exact Nat.ne_of_gt (blk_lt (g := gb252) (o := .cells #[.bool a0_0, .bool a0_1, .bool a0_2, .bool a0_3, .int .i64 a0_4, .int .i64 a0_5, .string a0_6, .string a0_7] 23 (0, 0)) (bk_ BK252)) : gb270 ≠ gb252)); clear HO257; clear HO268; clear BK252; clear HB; have HO257 := n0_; have HO268 := n1_; have BK252 := n2_; have HB := n3_; have BK270 := n4_; have GW270 := n5_; have GE270 := n6_; have NB252_270 := n7_; have NB270_252 := n8_; clear n0_ n1_ n2_ n3_ n4_ n5_ n6_ n7_ n8_; clear hb hbox hg; have hnb36 := NB270_252.out; have hnc36 := NB252_270.out; have hcz37_0 : w35.cell? ⟨gb270, 0, none⟩ = some (.bool false) := (blk_cell BK270.out 0).trans rfl; have hcz37_1 : w35.cell? ⟨gb270, 1, none⟩ = some (.bool false) := (blk_cell BK270.out 1).trans rfl; have hcz37_2 : w35.cell? ⟨gb270, 2, none⟩ = some (.bool false) := (blk_cell BK270.out 2).trans rfl; have hcz37_3 : w35.cell? ⟨gb270, 3, none⟩ = some (.bool false) := (blk_cell BK270.out 3).trans rfl; have hcz37_4 : w35.cell? ⟨gb270, 4, none⟩ = some (.int .i64 0) := (blk_cell BK270.out 4).trans rfl; have hcz37_5 : w35.cell? ⟨gb270, 5, none⟩ = some (.int .i64 0) := (blk_cell BK270.out 5).trans rfl; have hcz37_6 : w35.cell? ⟨gb270, 6, none⟩ = some (.string (⟨#[]⟩ : ByteArray)) := (blk_cell BK270.out 6).trans rfl; have hcz37_7 : w35.cell? ⟨gb270, 7, none⟩ = some (.string (⟨#[]⟩ : ByteArray)) := (blk_cell BK270.out 7).trans rfl; have hfz37_0 := blk_frozen BK270.out 0; have hfz37_1 := blk_frozen BK270.out 1; have hfz37_2 := blk_frozen BK270.out 2; have hfz37_3 := blk_frozen BK270.out 3; have hfz37_4 := blk_frozen BK270.out 4; have hfz37_5 := blk_frozen BK270.out 5; have hfz37_6 := blk_frozen BK270.out 6; have hfz37_7 := blk_frozen BK270.out 7; have hcz38_0 : w35.cell? ⟨gb252, 0, none⟩ = some (.bool a0_0) := (blk_cell BK252.out 0).trans rfl; have hcz38_1 : w35.cell? ⟨gb252, 1, none⟩ = some (.bool a0_1) := (blk_cell BK252.out 1).trans rfl; have hcz38_2 : w35.cell? ⟨gb252, 2, none⟩ = some (.bool a0_2) := (blk_cell BK252.out 2).trans rfl; have hcz38_3 : w35.cell? ⟨gb252, 3, none⟩ = some (.bool a0_3) := (blk_cell BK252.out 3).trans rfl; have hcz38_4 : w35.cell? ⟨gb252, 4, none⟩ = some (.int .i64 a0_4) := (blk_cell BK252.out 4).trans rfl; have hcz38_5 : w35.cell? ⟨gb252, 5, none⟩ = some (.int .i64 a0_5) := (blk_cell BK252.out 5).trans rfl; have hcz38_6 : w35.cell? ⟨gb252, 6, none⟩ = some (.string a0_6) := (blk_cell BK252.out 6).trans rfl; have hcz38_7 : w35.cell? ⟨gb252, 7, none⟩ = some (.string a0_7) := (blk_cell BK252.out 7).trans rfl; have hfz38_0 := blk_frozen BK252.out 0; have hfz38_1 := blk_frozen BK252.out 1; have hfz38_2 := blk_frozen BK252.out 2; have hfz38_3 := blk_frozen BK252.out 3; have hfz38_4 := blk_frozen BK252.out 4; have hfz38_5 := blk_frozen BK252.out 5; have hfz38_6 := blk_frozen BK252.out 6; have hfz38_7 := blk_frozen BK252.out 7) | ((with_reducible refine gate_callee (f := 13) rfl ?_); refine goesL_ (some 37) rfl rfl Tryd.func13 (by kernel_rfl) rfl #[.agg #[.bool a0_0, .bool a0_1, .bool a0_2, .bool a0_3, .int .i64 a0_4, .int .i64 a0_5, .string a0_6, .string a0_7]] rfl (by (try simp only [List.map_toArray, List.map_cons, List.map_nil]); first | done | rfl | (simp only [List.length_drop, List.length_take]; rfl)) ?_; (with_reducible refine (headgatelaw21_Own.calls a0_0 a0_1 a0_2 a0_3 a0_4 a0_5 a0_6 a0_7 t271 t272 t273 t274 t275 t276 t277 t278 _ A15.out).mono ?_); rintro e w39 ⟨rfl, hb⟩; refine ⟨_, rfl, ?_⟩; have n0_ := Aside0.mk (Kd.R_below (by (with_reducible repeat (first | apply Kd.R_alloc | apply Kd.R_drewN | apply Kd.R_drew)); exact (Kd.R_mono (Kd.R_far (p := ⟨gb270, 7, none⟩) (Kd.R_far (p := ⟨gb270, 6, none⟩) (Kd.R_far (p := ⟨gb270, 5, none⟩) (Kd.R_far (p := ⟨gb270, 4, none⟩) (Kd.R_far (p := ⟨gb270, 3, none⟩) (Kd.R_far (p := ⟨gb270, 2, none⟩) (Kd.R_far (p := ⟨gb270, 1, none⟩) (Kd.R_far (p := ⟨gb270, 0, none⟩) (Kd.R_types HO257.out BK270.out (by decide)) (fun _ hk => hk.2) (.bool t258)) (fun _ hk => hk.2) (.bool t259)) (fun _ hk => hk.2) (.bool t260)) (fun _ hk => hk.2) (.bool t261)) (fun _ hk => hk.2) (.int .i64 t262)) (fun _ hk => hk.2) (.int .i64 t263)) (fun _ hk => hk.2) (.string t264)) (fun _ hk => hk.2) (.string t265)) (fun _ h_ => h_.1))) hb); have n1_ := Aside0.mk (Kd.R_below (by (with_reducible repeat (first | apply Kd.R_alloc | apply Kd.R_drewN | apply Kd.R_drew)); exact (Kd.R_mono (Kd.R_far (p := ⟨gb270, 7, none⟩) (Kd.R_far (p := ⟨gb270, 6, none⟩) (Kd.R_far (p := ⟨gb270, 5, none⟩) (Kd.R_far (p := ⟨gb270, 4, none⟩) (Kd.R_far (p := ⟨gb270, 3, none⟩) (Kd.R_far (p := ⟨gb270, 2, none⟩) (Kd.R_far (p := ⟨gb270, 1, none⟩) (Kd.R_far (p := ⟨gb270, 0, none⟩) (Kd.R_types HO268.out BK270.out (by decide)) (fun _ hk => hk.2) (.bool t258)) (fun _ hk => hk.2) (.bool t259)) (fun _ hk => hk.2) (.bool t260)) (fun _ hk => hk.2) (.bool t261)) (fun _ hk => hk.2) (.int .i64 t262)) (fun _ hk => hk.2) (.int .i64 t263)) (fun _ hk => hk.2) (.string t264)) (fun _ hk => hk.2) (.string t265)) (fun _ h_ => h_.1))) hb); have n2_ := Aside0.mk (blk_below (g := gb252) (o := .cells #[.bool a0_0, .bool a0_1, .bool a0_2, .bool a0_3, .int .i64 a0_4, .int .i64 a0_5, .string a0_6, .string a0_7] 23 (0, 0)) (by (with_reducible repeat (first | refine blk_drewN ?_ _ | refine blk_drew ?_ | refine blk_alloc ?_ _ | refine blk_far ?_ NB252_270.out _)); exact BK252.out) hb); have n3_ := Aside0.mk (blk_below (g := gb270) (o := .cells #[.bool t258, .bool t259, .bool t260, .bool t261, .int .i64 t262, .int .i64 t263, .string t264, .string t265] 23 (0, 0)) (by (with_reducible repeat (first | refine blk_drewN ?_ _ | refine blk_drew ?_ | refine blk_alloc ?_ _)); refine blk_put (cs := #[.bool t258, .bool t259, .bool t260, .bool t261, .int .i64 t262, .int .i64 t263, .string t264, .string (⟨#[]⟩ : ByteArray)]) ?_ 7 _ rfl; (with_reducible repeat (first | refine blk_drewN ?_ _ | refine blk_drew ?_ | refine blk_alloc ?_ _)); refine blk_put (cs := #[.bool t258, .bool t259, .bool t260, .bool t261, .int .i64 t262, .int .i64 t263, .string (⟨#[]⟩ : ByteArray), .string (⟨#[]⟩ : ByteArray)]) ?_ 6 _ rfl; (with_reducible repeat (first | refine blk_drewN ?_ _ | refine blk_drew ?_ | refine blk_alloc ?_ _)); refine blk_put (cs := #[.bool t258, .bool t259, .bool t260, .bool t261, .int .i64 t262, .int .i64 0, .string (⟨#[]⟩ : ByteArray), .string (⟨#[]⟩ : ByteArray)]) ?_ 5 _ rfl; (with_reducible repeat (first | refine blk_drewN ?_ _ | refine blk_drew ?_ | refine blk_alloc ?_ _)); refine blk_put (cs := #[.bool t258, .bool t259, .bool t260, .bool t261, .int .i64 0, .int .i64 0, .string (⟨#[]⟩ : ByteArray), .string (⟨#[]⟩ : ByteArray)]) ?_ 4 _ rfl; (with_reducible repeat (first | refine blk_drewN ?_ _ | refine blk_drew ?_ | refine blk_alloc ?_ _)); refine blk_put (cs := #[.bool t258, .bool t259, .bool t260, .bool false, .int .i64 0, .int .i64 0, .string (⟨#[]⟩ : ByteArray), .string (⟨#[]⟩ : ByteArray)]) ?_ 3 _ rfl; (with_reducible repeat (first | refine blk_drewN ?_ _ | refine blk_drew ?_ | refine blk_alloc ?_ _)); refine blk_put (cs := #[.bool t258, .bool t259, .bool false, .bool false, .int .i64 0, .int .i64 0, .string (⟨#[]⟩ : ByteArray), .string (⟨#[]⟩ : ByteArray)]) ?_ 2 _ rfl; (with_reducible repeat (first | refine blk_drewN ?_ _ | refine blk_drew ?_ | refine blk_alloc ?_ _)); refine blk_put (cs := #[.bool t258, .bool false, .bool false, .bool false, .int .i64 0, .int .i64 0, .string (⟨#[]⟩ : ByteArray), .string (⟨#[]⟩ : ByteArray)]) ?_ 1 _ rfl; (with_reducible repeat (first | refine blk_drewN ?_ _ | refine blk_drew ?_ | refine blk_alloc ?_ _)); refine blk_put (cs := #[.bool false, .bool false, .bool false, .bool false, .int .i64 0, .int .i64 0, .string (⟨#[]⟩ : ByteArray), .string (⟨#[]⟩ : ByteArray)]) ?_ 0 _ rfl; (with_reducible repeat (first | refine blk_drewN ?_ _ | refine blk_drew ?_ | refine blk_alloc ?_ _)); exact BK270.out) hb); have n4_ := Aside0.mk (below_step (hb_ HB) hb); clear HO257; clear HO268; clear BK252; clear BK270; clear HB; have HO257 := n0_; have HO268 := n1_; have BK252 := n2_; have BK270 := n3_; have HB := n4_; clear n0_ n1_ n2_ n3_ n4_; (try clear hb); (try clear hb2); (try clear hk); (try clear hi)) | ((with_reducible refine gate_callee (f := 12) rfl ?_); refine goesL_ (some 39) rfl rfl Tryd.func12 (by kernel_rfl) rfl #[.agg #[.bool t271, .bool t272, .bool t273, .bool t274, .int .i64 t275, .int .i64 t276, .string t277, .string t278], .slice A1 l1.length c1] rfl (by (try simp only [List.map_toArray, List.map_cons, List.map_nil]); first | done | rfl | (simp only [List.length_drop, List.length_take]; rfl)) ?_; (with_reducible refine (headgateref21_Answer.calls kj2 t271 t272 t273 t274 t275 t276 t277 t278 _ _ l1 t279 t280 t281 t282 t283 t284 t285 t286 t287 t290 _ ?side1 ?side2 A16.out).mono ?_); (case side1 => repeat (first | exact (Kd.C_below HR1.out HB.out) | (with_reducible refine Kd.C_alloc ?_ _) | (with_reducible refine Kd.C_drewN ?_ _) | (with_reducible refine Kd.C_drew ?_))); (case side2 => exact HC1.out); rintro e w40 ⟨v288, rfl, ho0, hb⟩; refine ⟨_, rfl, ?_⟩; have n0_ := Aside0.mk (Kd.R_elder' (by (with_reducible repeat (first | apply Kd.R_alloc | apply Kd.R_drewN | apply Kd.R_drew)); exact HO257.out) (Kd.R_base ho0) hb); have n1_ := Aside0.mk (Kd.R_elder' (by (with_reducible repeat (first | apply Kd.R_alloc | apply Kd.R_drewN | apply Kd.R_drew)); exact HO268.out) (Kd.R_base ho0) hb); have n2_ := Aside0.mk (Kd.R_lower (Kd.R_new' (Kd.R_new' ho0 (Kd.R_lt (by (with_reducible repeat (first | apply Kd.R_alloc | apply Kd.R_drewN | apply Kd.R_drew)); exact HO257.out))) (Kd.R_lt (by (with_reducible repeat (first | apply Kd.R_alloc | apply Kd.R_drewN | apply Kd.R_drew)); exact HO268.out))) (below_size (hb_ HB))); have n3_ := Aside0.mk (blk_below (bk_ BK252) hb); have n4_ := Aside0.mk (blk_below (bk_ BK270) hb); have n5_ := Aside0.mk (below_step (hb_ HB) hb); clear HO257; clear HO268; clear BK252; clear BK270; clear HB; have HO257 := n0_; have HO268 := n1_; have HO289 := n2_; have BK252 := n3_; have BK270 := n4_; have HB := n5_; clear n0_ n1_ n2_ n3_ n4_ n5_; (try clear hb); (try clear hb2); (try clear hk); (try clear hi); (try clear ho0)) | ((with_reducible refine gate_dst (N := 9) rfl ?_); (try (refine gate_guard (by rfl) ?_; dsimp only)); refine box_event ?hg (N := 9) ?hd (cs := #[.bool false, .bool false, .bool false, .bool false, .int .i64 0, .int .i64 0, .string (⟨#[]⟩ : ByteArray), .string (⟨#[]⟩ : ByteArray), .slice none 0 0]) (t := 33) ?hr ?_; (case hd => rfl); (case hg => rfl); (case hr => first | (go_simp; done) | (go_simp; rfl)); intro gb291 hg w41 hbox hb; have n0_ := Aside0.mk (Kd.R_below (by (with_reducible repeat (first | apply Kd.R_alloc | apply Kd.R_drewN | apply Kd.R_drew)); exact HO257.out) hb); have n1_ := Aside0.mk (Kd.R_below (by (with_reducible repeat (first | apply Kd.R_alloc | apply Kd.R_drewN | apply Kd.R_drew)); exact HO268.out) hb); have n2_ := Aside0.mk (Kd.R_below (by (with_reducible repeat (first | apply Kd.R_alloc | apply Kd.R_drewN | apply Kd.R_drew)); exact HO289.out) hb); have n3_ := Aside0.mk (blk_below (bk_ BK252) hb); have n4_ := Aside0.mk (blk_below (bk_ BK270) hb); have n5_ := Aside0.mk (below_step (hb_ HB) hb); have n6_ := Aside0.mk (hbox); have n7_ := Aside0.mk ((by rw [hg]; exact (below_size (hb_ HB)) : w.heap.size ≤ gb291)); have n8_ := Aside0.mk ((by rw [hg]; exact (below_size (hb_ HB)) : w.heap.size ≤ gb291)); have n9_ := Aside0.mk ((by rw [hg]; exact Nat.ne_of_lt (blk_lt (g := gb252) (o := .cells #[.bool a0_0, .bool a0_1, .bool a0_2, .bool a0_3, .int .i64 a0_4, .int .i64 a0_5, .string a0_6, .string a0_7] 23 (0, 0)) (bk_ BK252)) : gb252 ≠ gb291)); have n10_ := Aside0.mk ((by rw [hg]; exact Nat.ne_of_gt (blk_lt (g := gb252) (o := .cells #[.bool a0_0, .bool a0_1, .bool a0_2, .bool a0_3, .int .i64 a0_4, .int .i64 a0_5, .string a0_6, .string a0_7] 23 (0, 0)) (bk_ BK252)) : gb291 ≠ gb252)); have n11_ := Aside0.mk ((by rw [hg]; exact Nat.ne_of_lt (blk_lt (g := gb270) (o := .cells #[.bool t258, .bool t259, .bool t260, .bool t261, .int .i64 t262, .int .i64 t263, .string t264, .string t265] 23 (0, 0)) (bk_ BK270)) : gb270 ≠ gb291)); have n12_ := Aside0.mk ((by rw [hg]; exact Nat.ne_of_gt (blk_lt (g := gb270) (o := .cells #[.bool t258, .bool t259, .bool t260, .bool t261, .int .i64 t262, .int .i64 t263, .string t264, .string t265] 23 (0, 0)) (bk_ BK270)) : gb291 ≠ gb270)); clear HO257; clear HO268; clear HO289; clear BK252; clear BK270; clear HB; have HO257 := n0_; have HO268 := n1_; have HO289 := n2_; have BK252 := n3_; have BK270 := n4_; have HB := n5_; have BK291 := n6_; have GW291 := n7_; have GE291 := n8_; have NB252_291 := n9_; have NB291_252 := n10_; have NB270_291 := n11_; have NB291_270 := n12_; clear n0_ n1_ n2_ n3_ n4_ n5_ n6_ n7_ n8_ n9_ n10_ n11_ n12_; clear hb hbox hg; have hnb42 := NB291_252.out; have hnc42 := NB252_291.out; have hnb43 := NB291_270.out; have hnc43 := NB270_291.out; have hcz44_0 : w41.cell? ⟨gb291, 0, none⟩ = some (.bool false) := (blk_cell BK291.out 0).trans rfl; have hcz44_1 : w41.cell? ⟨gb291, 1, none⟩ = some (.bool false) := (blk_cell BK291.out 1).trans rfl; have hcz44_2 : w41.cell? ⟨gb291, 2, none⟩ = some (.bool false) := (blk_cell BK291.out 2).trans rfl; have hcz44_3 : w41.cell? ⟨gb291, 3, none⟩ = some (.bool false) := (blk_cell BK291.out 3).trans rfl; have hcz44_4 : w41.cell? ⟨gb291, 4, none⟩ = some (.int .i64 0) := (blk_cell BK291.out 4).trans rfl; have hcz44_5 : w41.cell? ⟨gb291, 5, none⟩ = some (.int .i64 0) := (blk_cell BK291.out 5).trans rfl; have hcz44_6 : w41.cell? ⟨gb291, 6, none⟩ = some (.string (⟨#[]⟩ : ByteArray)) := (blk_cell BK291.out 6).trans rfl; have hcz44_7 : w41.cell? ⟨gb291, 7, none⟩ = some (.string (⟨#[]⟩ : ByteArray)) := (blk_cell BK291.out 7).trans rfl; have hcz44_8 : w41.cell? ⟨gb291, 8, none⟩ = some (.slice none 0 0) := (blk_cell BK291.out 8).trans rfl; have hfz44_0 := blk_frozen BK291.out 0; have hfz44_1 := blk_frozen BK291.out 1; have hfz44_2 := blk_frozen BK291.out 2; have hfz44_3 := blk_frozen BK291.out 3; have hfz44_4 := blk_frozen BK291.out 4; have hfz44_5 := blk_frozen BK291.out 5; have hfz44_6 := blk_frozen BK291.out 6; have hfz44_7 := blk_frozen BK291.out 7; have hfz44_8 := blk_frozen BK291.out 8; obtain ⟨Ao45, co45, eo45⟩ := Kd.R_slice HO289.out; subst eo45))
   have n0_ : Aside0 (Kd.R k45 45 (((((((((w41.setCell ⟨gb291, 0, none⟩ (.bool t279)).setCell ⟨gb291, 1, none⟩ (.bool t280)).setCell ⟨gb291, 2, none⟩ (.bool t281)).setCell ⟨gb291, 3, none⟩ (.bool t282)).setCell ⟨gb291, 4, none⟩ (.int .i64 t283)).setCell ⟨gb291, 5, none⟩ (.int .i64 t284)).setCell ⟨gb291, 6, none⟩ (.string t285)).setCell ⟨gb291, 7, none⟩ (.string t286)).setCell ⟨gb291, 8, none⟩ (.slice Ao45 t287.length co45)) w.heap.size (fun k_ => some k_ ≠ (v267 : Value).ownBlock ∧ some k_ ≠ (.slice Ao45 t287.length co45 : Value).ownBlock) (.slice Ao33 t255.length co33) t255) := ⟨by (with_reducible repeat (first | apply Kd.R_alloc | apply Kd.R_drewN | apply Kd.R_drew)); exact Kd.R_mono (Kd.R_far (p := ⟨gb291, 8, none⟩) (Kd.R_far (p := ⟨gb291, 7, none⟩) (Kd.R_far (p := ⟨gb291, 6, none⟩) (Kd.R_far (p := ⟨gb291, 5, none⟩) (Kd.R_far (p := ⟨gb291, 4, none⟩) (Kd.R_far (p := ⟨gb291, 3, none⟩) (Kd.R_far (p := ⟨gb291, 2, none⟩) (Kd.R_far (p := ⟨gb291, 1, none⟩) (Kd.R_far (p := ⟨gb291, 0, none⟩) (Kd.R_types HO257.out BK291.out (by decide)) (fun _ hk => hk.2) (.bool t279)) (fun _ hk => hk.2) (.bool t280)) (fun _ hk => hk.2) (.bool t281)) (fun _ hk => hk.2) (.bool t282)) (fun _ hk => hk.2) (.int .i64 t283)) (fun _ hk => hk.2) (.int .i64 t284)) (fun _ hk => hk.2) (.string t285)) (fun _ hk => hk.2) (.string t286)) (fun _ hk => hk.2) (.slice Ao45 t287.length co45)) (fun _ hk => ⟨hk.1.1.2, hk.1.2⟩)⟩
   have n1_ : Aside0 (Kd.R k45 45 (((((((((w41.setCell ⟨gb291, 0, none⟩ (.bool t279)).setCell ⟨gb291, 1, none⟩ (.bool t280)).setCell ⟨gb291, 2, none⟩ (.bool t281)).setCell ⟨gb291, 3, none⟩ (.bool t282)).setCell ⟨gb291, 4, none⟩ (.int .i64 t283)).setCell ⟨gb291, 5, none⟩ (.int .i64 t284)).setCell ⟨gb291, 6, none⟩ (.string t285)).setCell ⟨gb291, 7, none⟩ (.string t286)).setCell ⟨gb291, 8, none⟩ (.slice Ao45 t287.length co45)) w.heap.size (fun k_ => some k_ ≠ (.slice Ao33 t255.length co33 : Value).ownBlock ∧ some k_ ≠ (.slice Ao45 t287.length co45 : Value).ownBlock) v267 t266) := ⟨by (with_reducible repeat (first | apply Kd.R_alloc | apply Kd.R_drewN | apply Kd.R_drew)); exact Kd.R_mono (Kd.R_far (p := ⟨gb291, 8, none⟩) (Kd.R_far (p := ⟨gb291, 7, none⟩) (Kd.R_far (p := ⟨gb291, 6, none⟩) (Kd.R_far (p := ⟨gb291, 5, none⟩) (Kd.R_far (p := ⟨gb291, 4, none⟩) (Kd.R_far (p := ⟨gb291, 3, none⟩) (Kd.R_far (p := ⟨gb291, 2, none⟩) (Kd.R_far (p := ⟨gb291, 1, none⟩) (Kd.R_far (p := ⟨gb291, 0, none⟩) (Kd.R_types HO268.out BK291.out (by decide)) (fun _ hk => hk.2) (.bool t279)) (fun _ hk => hk.2) (.bool t280)) (fun _ hk => hk.2) (.bool t281)) (fun _ hk => hk.2) (.bool t282)) (fun _ hk => hk.2) (.int .i64 t283)) (fun _ hk => hk.2) (.int .i64 t284)) (fun _ hk => hk.2) (.string t285)) (fun _ hk => hk.2) (.string t286)) (fun _ hk => hk.2) (.slice Ao45 t287.length co45)) (fun _ hk => ⟨hk.1.1.2, hk.1.2⟩)⟩
   have n2_ : Aside0 (Kd.R k45 45 (((((((((w41.setCell ⟨gb291, 0, none⟩ (.bool t279)).setCell ⟨gb291, 1, none⟩ (.bool t280)).setCell ⟨gb291, 2, none⟩ (.bool t281)).setCell ⟨gb291, 3, none⟩ (.bool t282)).setCell ⟨gb291, 4, none⟩ (.int .i64 t283)).setCell ⟨gb291, 5, none⟩ (.int .i64 t284)).setCell ⟨gb291, 6, none⟩ (.string t285)).setCell ⟨gb291, 7, none⟩ (.string t286)).setCell ⟨gb291, 8, none⟩ (.slice Ao45 t287.length co45)) w.heap.size (fun k_ => some k_ ≠ (.slice Ao33 t255.length co33 : Value).ownBlock ∧ some k_ ≠ (v267 : Value).ownBlock) (.slice Ao45 t287.length co45) t287) := ⟨by (with_reducible repeat (first | apply Kd.R_alloc | apply Kd.R_drewN | apply Kd.R_drew)); exact Kd.R_mono (Kd.R_far (p := ⟨gb291, 8, none⟩) (Kd.R_far (p := ⟨gb291, 7, none⟩) (Kd.R_far (p := ⟨gb291, 6, none⟩) (Kd.R_far (p := ⟨gb291, 5, none⟩) (Kd.R_far (p := ⟨gb291, 4, none⟩) (Kd.R_far (p := ⟨gb291, 3, none⟩) (Kd.R_far (p := ⟨gb291, 2, none⟩) (Kd.R_far (p := ⟨gb291, 1, none⟩) (Kd.R_far (p := ⟨gb291, 0, none⟩) (Kd.R_types HO289.out BK291.out (by decide)) (fun _ hk => hk.2) (.bool t279)) (fun _ hk => hk.2) (.bool t280)) (fun _ hk => hk.2) (.bool t281)) (fun _ hk => hk.2) (.bool t282)) (fun _ hk => hk.2) (.int .i64 t283)) (fun _ hk => hk.2) (.int .i64 t284)) (fun _ hk => hk.2) (.string t285)) (fun _ hk => hk.2) (.string t286)) (fun _ hk => hk.2) (.slice Ao45 t287.length co45)) (fun _ hk => ⟨hk.1.1.2, hk.1.2⟩)⟩
   have n3_ : Aside0 ((((((((((w41.setCell ⟨gb291, 0, none⟩ (.bool t279)).setCell ⟨gb291, 1, none⟩ (.bool t280)).setCell ⟨gb291, 2, none⟩ (.bool t281)).setCell ⟨gb291, 3, none⟩ (.bool t282)).setCell ⟨gb291, 4, none⟩ (.int .i64 t283)).setCell ⟨gb291, 5, none⟩ (.int .i64 t284)).setCell ⟨gb291, 6, none⟩ (.string t285)).setCell ⟨gb291, 7, none⟩ (.string t286)).setCell ⟨gb291, 8, none⟩ (.slice Ao45 t287.length co45)).heap[gb252]? = some (.cells #[.bool a0_0, .bool a0_1, .bool a0_2, .bool a0_3, .int .i64 a0_4, .int .i64 a0_5, .string a0_6, .string a0_7] 23 (0, 0))) := ⟨by (with_reducible repeat (first | refine blk_drewN ?_ _ | refine blk_drew ?_ | refine blk_alloc ?_ _ | refine blk_far ?_ NB252_291.out _)); exact BK252.out⟩
   have n4_ : Aside0 ((((((((((w41.setCell ⟨gb291, 0, none⟩ (.bool t279)).setCell ⟨gb291, 1, none⟩ (.bool t280)).setCell ⟨gb291, 2, none⟩ (.bool t281)).setCell ⟨gb291, 3, none⟩ (.bool t282)).setCell ⟨gb291, 4, none⟩ (.int .i64 t283)).setCell ⟨gb291, 5, none⟩ (.int .i64 t284)).setCell ⟨gb291, 6, none⟩ (.string t285)).setCell ⟨gb291, 7, none⟩ (.string t286)).setCell ⟨gb291, 8, none⟩ (.slice Ao45 t287.length co45)).heap[gb270]? = some (.cells #[.bool t258, .bool t259, .bool t260, .bool t261, .int .i64 t262, .int .i64 t263, .string t264, .string t265] 23 (0, 0))) := ⟨by (with_reducible repeat (first | refine blk_drewN ?_ _ | refine blk_drew ?_ | refine blk_alloc ?_ _ | refine blk_far ?_ NB270_291.out _)); exact BK270.out⟩
   have n5_ : Aside0 ((((((((((w41.setCell ⟨gb291, 0, none⟩ (.bool t279)).setCell ⟨gb291, 1, none⟩ (.bool t280)).setCell ⟨gb291, 2, none⟩ (.bool t281)).setCell ⟨gb291, 3, none⟩ (.bool t282)).setCell ⟨gb291, 4, none⟩ (.int .i64 t283)).setCell ⟨gb291, 5, none⟩ (.int .i64 t284)).setCell ⟨gb291, 6, none⟩ (.string t285)).setCell ⟨gb291, 7, none⟩ (.string t286)).setCell ⟨gb291, 8, none⟩ (.slice Ao45 t287.length co45)).heap[gb291]? = some (.cells #[.bool t279, .bool t280, .bool t281, .bool t282, .int .i64 t283, .int .i64 t284, .string t285, .string t286, .slice Ao45 t287.length co45] 33 (0, 0))) := ⟨by (with_reducible repeat (first | refine blk_drewN ?_ _ | refine blk_drew ?_ | refine blk_alloc ?_ _)); refine blk_put (cs := #[.bool t279, .bool t280, .bool t281, .bool t282, .int .i64 t283, .int .i64 t284, .string t285, .string t286, .slice none 0 0]) ?_ 8 _ rfl; (with_reducible repeat (first | refine blk_drewN ?_ _ | refine blk_drew ?_ | refine blk_alloc ?_ _)); refine blk_put (cs := #[.bool t279, .bool t280, .bool t281, .bool t282, .int .i64 t283, .int .i64 t284, .string t285, .string (⟨#[]⟩ : ByteArray), .slice none 0 0]) ?_ 7 _ rfl; (with_reducible repeat (first | refine blk_drewN ?_ _ | refine blk_drew ?_ | refine blk_alloc ?_ _)); refine blk_put (cs := #[.bool t279, .bool t280, .bool t281, .bool t282, .int .i64 t283, .int .i64 t284, .string (⟨#[]⟩ : ByteArray), .string (⟨#[]⟩ : ByteArray), .slice none 0 0]) ?_ 6 _ rfl; (with_reducible repeat (first | refine blk_drewN ?_ _ | refine blk_drew ?_ | refine blk_alloc ?_ _)); refine blk_put (cs := #[.bool t279, .bool t280, .bool t281, .bool t282, .int .i64 t283, .int .i64 0, .string (⟨#[]⟩ : ByteArray), .string (⟨#[]⟩ : ByteArray), .slice none 0 0]) ?_ 5 _ rfl; (with_reducible repeat (first | refine blk_drewN ?_ _ | refine blk_drew ?_ | refine blk_alloc ?_ _)); refine blk_put (cs := #[.bool t279, .bool t280, .bool t281, .bool t282, .int .i64 0, .int .i64 0, .string (⟨#[]⟩ : ByteArray), .string (⟨#[]⟩ : ByteArray), .slice none 0 0]) ?_ 4 _ rfl; (with_reducible repeat (first | refine blk_drewN ?_ _ | refine blk_drew ?_ | refine blk_alloc ?_ _)); refine blk_put (cs := #[.bool t279, .bool t280, .bool t281, .bool false, .int .i64 0, .int .i64 0, .string (⟨#[]⟩ : ByteArray), .string (⟨#[]⟩ : ByteArray), .slice none 0 0]) ?_ 3 _ rfl; (with_reducible repeat (first | refine blk_drewN ?_ _ | refine blk_drew ?_ | refine blk_alloc ?_ _)); refine blk_put (cs := #[.bool t279, .bool t280, .bool false, .bool false, .int .i64 0, .int .i64 0, .string (⟨#[]⟩ : ByteArray), .string (⟨#[]⟩ : ByteArray), .slice none 0 0]) ?_ 2 _ rfl; (with_reducible repeat (first | refine blk_drewN ?_ _ | refine blk_drew ?_ | refine blk_alloc ?_ _)); refine blk_put (cs := #[.bool t279, .bool false, .bool false, .bool false, .int .i64 0, .int .i64 0, .string (⟨#[]⟩ : ByteArray), .string (⟨#[]⟩ : ByteArray), .slice none 0 0]) ?_ 1 _ rfl; (with_reducible repeat (first | refine blk_drewN ?_ _ | refine blk_drew ?_ | refine blk_alloc ?_ _)); refine blk_put (cs := #[.bool false, .bool false, .bool false, .bool false, .int .i64 0, .int .i64 0, .string (⟨#[]⟩ : ByteArray), .string (⟨#[]⟩ : ByteArray), .slice none 0 0]) ?_ 0 _ rfl; (with_reducible repeat (first | refine blk_drewN ?_ _ | refine blk_drew ?_ | refine blk_alloc ?_ _)); exact BK291.out⟩
   have n6_ : Aside0 (Below w.heap.size w (((((((((w41.setCell ⟨gb291, 0, none⟩ (.bool t279)).setCell ⟨gb291, 1, none⟩ (.bool t280)).setCell ⟨gb291, 2, none⟩ (.bool t281)).setCell ⟨gb291, 3, none⟩ (.bool t282)).setCell ⟨gb291, 4, none⟩ (.int .i64 t283)).setCell ⟨gb291, 5, none⟩ (.int .i64 t284)).setCell ⟨gb291, 6, none⟩ (.string t285)).setCell ⟨gb291, 7, none⟩ (.string t286)).setCell ⟨gb291, 8, none⟩ (.slice Ao45 t287.length co45))) := ⟨hb_ HB⟩
   (try clear HO257)
   (try clear HO268)
   (try clear HO289)
   (try clear BK252)
   (try clear BK270)
   (try clear BK291)
   (try clear HB)
   generalize (((((((((w41.setCell ⟨gb291, 0, none⟩ (.bool t279)).setCell ⟨gb291, 1, none⟩ (.bool t280)).setCell ⟨gb291, 2, none⟩ (.bool t281)).setCell ⟨gb291, 3, none⟩ (.bool t282)).setCell ⟨gb291, 4, none⟩ (.int .i64 t283)).setCell ⟨gb291, 5, none⟩ (.int .i64 t284)).setCell ⟨gb291, 6, none⟩ (.string t285)).setCell ⟨gb291, 7, none⟩ (.string t286)).setCell ⟨gb291, 8, none⟩ (.slice Ao45 t287.length co45)) = w46 at n0_ n1_ n2_ n3_ n4_ n5_ n6_ ⊢
   have HO257 := n0_
   have HO268 := n1_
   have HO289 := n2_
   have BK252 := n3_
   have BK270 := n4_
   have BK291 := n5_
   have HB := n6_
   clear n0_ n1_ n2_ n3_ n4_ n5_ n6_
   have n0_ := Aside0.mk (Kd.R_drew HO257.out)
   have n1_ := Aside0.mk (Kd.R_drew HO268.out)
   have n2_ := Aside0.mk (Kd.R_drew HO289.out)
   have n3_ := Aside0.mk (blk_drew BK252.out)
   have n4_ := Aside0.mk (blk_drew BK270.out)
   have n5_ := Aside0.mk (blk_drew BK291.out)
   have n6_ := Aside0.mk (below_drew1 HB.out)
   clear HO257
   clear HO268
   clear HO289
   clear BK252
   clear BK270
   clear BK291
   clear HB
   have HO257 := n0_
   have HO268 := n1_
   have HO289 := n2_
   have BK252 := n3_
   have BK270 := n4_
   have BK291 := n5_
   have HB := n6_
   clear n0_ n1_ n2_ n3_ n4_ n5_ n6_
   refine start_ (n := 31) (S := fun w' => w'.cell? ⟨gb270, 0, none⟩ = some (.bool t258) ∧ w'.cell? ⟨gb270, 1, none⟩ = some (.bool t259) ∧ w'.cell? ⟨gb270, 2, none⟩ = some (.bool t260) ∧ w'.cell? ⟨gb270, 3, none⟩ = some (.bool t261) ∧ w'.cell? ⟨gb270, 4, none⟩ = some (.int .i64 t262) ∧ w'.cell? ⟨gb270, 5, none⟩ = some (.int .i64 t263) ∧ w'.cell? ⟨gb270, 6, none⟩ = some (.string t264) ∧ w'.cell? ⟨gb270, 7, none⟩ = some (.string t265) ∧ w'.cell? ⟨gb291, 0, none⟩ = some (.bool t279) ∧ w'.cell? ⟨gb291, 1, none⟩ = some (.bool t280) ∧ w'.cell? ⟨gb291, 2, none⟩ = some (.bool t281) ∧ w'.cell? ⟨gb291, 3, none⟩ = some (.bool t282) ∧ w'.cell? ⟨gb291, 4, none⟩ = some (.int .i64 t283) ∧ w'.cell? ⟨gb291, 5, none⟩ = some (.int .i64 t284) ∧ w'.cell? ⟨gb291, 6, none⟩ = some (.string t285) ∧ w'.cell? ⟨gb291, 7, none⟩ = some (.string t286) ∧ w'.cell? ⟨gb291, 8, none⟩ = some (.slice Ao45 t287.length co45)) (ds := []) d3x0 (by kernel_rfl) rfl rfl ⟨(blk_cell BK270.out 0).trans rfl, (blk_cell BK270.out 1).trans rfl, (blk_cell BK270.out 2).trans rfl, (blk_cell BK270.out 3).trans rfl, (blk_cell BK270.out 4).trans rfl, (blk_cell BK270.out 5).trans rfl, (blk_cell BK270.out 6).trans rfl, (blk_cell BK270.out 7).trans rfl, (blk_cell BK291.out 0).trans rfl, (blk_cell BK291.out 1).trans rfl, (blk_cell BK291.out 2).trans rfl, (blk_cell BK291.out 3).trans rfl, (blk_cell BK291.out 4).trans rfl, (blk_cell BK291.out 5).trans rfl, (blk_cell BK291.out 6).trans rfl, (blk_cell BK291.out 7).trans rfl, (blk_cell BK291.out 8).trans rfl⟩ (fun hHeld => ?_); refine with_tabW headgatelaw21_KeysAnswers.tab6 headgatelaw21_KeysAnswers.bits6 (fun HT_ HW_ => ?_)
   generalize w46.drew = w47 at HO257 HO268 HO289 BK252 BK270 BK291 HB hHeld ⊢
   refine pon_ 2 (some 44) d3x1 HT_.out ?_
   refine ptk_ 0 (some 42) d3x2 HT_.out HW_.out hHeld ?_
   refine ptk_ 3 (some 45) d3x3 HT_.out HW_.out hHeld ?_
   refine one_ (i := 1) (N := some 43) d3x4 rfl rfl (one_of HT_.out (by kernel_rfl)) (by decide) (fun K hK => ?_)
   refine goes_ Tryd.func13 (by kernel_rfl) rfl #[.agg #[.bool t258, .bool t259, .bool t260, .bool t261, .int .i64 t262, .int .i64 t263, .string t264, .string t265]] (by rfl) rfl rfl (by (try simp only [List.map_toArray, List.map_cons, List.map_nil]); first | done | rfl | (simp only [List.length_drop, List.length_take]; rfl)) ?_
   with_reducible refine (headgatelaw21_Own.calls t258 t259 t260 t261 t262 t263 t264 t265 t292 t293 t294 t295 t296 t297 t298 t299 _ A17.out).mono ?_
   rintro e w48 ⟨rfl, hb⟩
   refine ⟨_, rfl, ?_⟩
   have n0_ := Aside0.mk (Kd.R_below (by (with_reducible repeat (first | apply Kd.R_alloc | apply Kd.R_drewN | apply Kd.R_drew)); exact HO257.out) hb)
   have n1_ := Aside0.mk (Kd.R_below (by (with_reducible repeat (first | apply Kd.R_alloc | apply Kd.R_drewN | apply Kd.R_drew)); exact HO268.out) hb)
   have n2_ := Aside0.mk (Kd.R_below (by (with_reducible repeat (first | apply Kd.R_alloc | apply Kd.R_drewN | apply Kd.R_drew)); exact HO289.out) hb)
   have n3_ := Aside0.mk (blk_below (bk_ BK252) hb)
   have n4_ := Aside0.mk (blk_below (bk_ BK270) hb)
   have n5_ := Aside0.mk (blk_below (bk_ BK291) hb)
   have n6_ := Aside0.mk (below_step (hb_ HB) hb)
   clear HO257
   clear HO268
   clear HO289
   clear BK252
   clear BK270
   clear BK291
   clear HB
   have HO257 := n0_
   have HO268 := n1_
   have HO289 := n2_
   have BK252 := n3_
   have BK270 := n4_
   have BK291 := n5_
   have HB := n6_
   clear n0_ n1_ n2_ n3_ n4_ n5_ n6_
   (try clear hb)
   (try clear hb2)
   (try clear hk)
   (try clear hi)
   refine hK.out _ _ ⟨(blk_cell BK270.out 0).trans rfl, (blk_cell BK270.out 1).trans rfl, (blk_cell BK270.out 2).trans rfl, (blk_cell BK270.out 3).trans rfl, (blk_cell BK270.out 4).trans rfl, (blk_cell BK270.out 5).trans rfl, (blk_cell BK270.out 6).trans rfl, (blk_cell BK270.out 7).trans rfl, (blk_cell BK291.out 0).trans rfl, (blk_cell BK291.out 1).trans rfl, (blk_cell BK291.out 2).trans rfl, (blk_cell BK291.out 3).trans rfl, (blk_cell BK291.out 4).trans rfl, (blk_cell BK291.out 5).trans rfl, (blk_cell BK291.out 6).trans rfl, (blk_cell BK291.out 7).trans rfl, (blk_cell BK291.out 8).trans rfl⟩ (fun hHeld => ?_)
   clear hK K
   refine norm_ (a' := ?_) ?_ ?_
   rotate_left
   ·show Act.put _ (some 43) _ = _
    simp only [Act.put, la_, lb_, lc_, i64_w, i32_w]
    rfl
   refine one_ (i := 4) (N := some 46) d3x5 rfl rfl (one_of HT_.out (by kernel_rfl)) (by decide) (fun K hK => ?_)
   refine goes_ Tryd.func14 (by kernel_rfl) rfl #[.agg #[.bool t292, .bool t293, .bool t294, .bool t295, .int .i64 t296, .int .i64 t297, .string t298, .string t299], .agg #[.bool t279, .bool t280, .bool t281, .bool t282, .int .i64 t283, .int .i64 t284, .string t285, .string t286]] (by rfl) rfl rfl (by (try simp only [List.map_toArray, List.map_cons, List.map_nil]); first | done | rfl | (simp only [List.length_drop, List.length_take]; rfl)) ?_
   with_reducible refine (headgateref21_Same.calls t292 t293 t294 t295 t296 t297 t298 t299 t279 t280 t281 t282 t283 t284 t285 t286 true _ A18.out).mono ?_
   rintro e w49 ⟨rfl, hb⟩
   refine ⟨_, rfl, ?_⟩
   have n0_ := Aside0.mk (Kd.R_below (by (with_reducible repeat (first | apply Kd.R_alloc | apply Kd.R_drewN | apply Kd.R_drew)); exact HO257.out) hb)
   have n1_ := Aside0.mk (Kd.R_below (by (with_reducible repeat (first | apply Kd.R_alloc | apply Kd.R_drewN | apply Kd.R_drew)); exact HO268.out) hb)
   have n2_ := Aside0.mk (Kd.R_below (by (with_reducible repeat (first | apply Kd.R_alloc | apply Kd.R_drewN | apply Kd.R_drew)); exact HO289.out) hb)
   have n3_ := Aside0.mk (blk_below (bk_ BK252) hb)
   have n4_ := Aside0.mk (blk_below (bk_ BK270) hb)
   have n5_ := Aside0.mk (blk_below (bk_ BK291) hb)
   have n6_ := Aside0.mk (below_step (hb_ HB) hb)
   clear HO257
   clear HO268
   clear HO289
   clear BK252
   clear BK270
   clear BK291
   clear HB
   have HO257 := n0_
   have HO268 := n1_
   have HO289 := n2_
   have BK252 := n3_
   have BK270 := n4_
   have BK291 := n5_
   have HB := n6_
   clear n0_ n1_ n2_ n3_ n4_ n5_ n6_
   (try clear hb)
   (try clear hb2)
   (try clear hk)
   (try clear hi)
   obtain ⟨Ao50, co50, eo50⟩ := Kd.R_slice HO268.out
   (first | subst eo50 | (injection eo50 with f1_ f2_ f3_; have f4_ := f1_.symm; have f5_ := f3_.symm; clear f1_ f2_ f3_; subst f4_; subst f5_))
   refine hK.out _ _ ⟨(blk_cell BK270.out 0).trans rfl, (blk_cell BK270.out 1).trans rfl, (blk_cell BK270.out 2).trans rfl, (blk_cell BK270.out 3).trans rfl, (blk_cell BK270.out 4).trans rfl, (blk_cell BK270.out 5).trans rfl, (blk_cell BK270.out 6).trans rfl, (blk_cell BK270.out 7).trans rfl, (blk_cell BK291.out 0).trans rfl, (blk_cell BK291.out 1).trans rfl, (blk_cell BK291.out 2).trans rfl, (blk_cell BK291.out 3).trans rfl, (blk_cell BK291.out 4).trans rfl, (blk_cell BK291.out 5).trans rfl, (blk_cell BK291.out 6).trans rfl, (blk_cell BK291.out 7).trans rfl, (blk_cell BK291.out 8).trans rfl⟩ (fun hHeld => ?_)
   clear hK K
   refine norm_ (a' := ?_) ?_ ?_
   rotate_left
   ·show Act.put _ (some 46) _ = _
    simp only [Act.put, la_, lb_, lc_, i64_w, i32_w]
    rfl
   refine pon_ 5 (some 47) d3x6 HT_.out ?_
   refine pon_ 6 (some 48) d3x7 HT_.out ?_
   refine pon_ 7 (some 49) d3x8 HT_.out ?_
   refine ptk_ 8 (some 50) d3x9 HT_.out HW_.out hHeld ?_
   refine one_ (i := 9) (N := some 51) d3x10 rfl rfl (one_of HT_.out (by kernel_rfl)) (by decide) (fun K hK => ?_)
   refine goes_ Tryd.func15 (by kernel_rfl) rfl #[.slice Ao50 t266.length co50, .slice Ao45 t287.length co45] (by rfl) rfl rfl (by (try simp only [List.map_toArray, List.map_cons, List.map_nil]); first | done | rfl | (simp only [List.length_drop, List.length_take]; rfl)) ?_
   with_reducible refine (headgateref21_Pairs.calls kj2 _ _ t266 _ _ t287 true _ ?side1 ?side2 ?side3 ?side4 A20.out).mono ?_
   (case side1 => repeat (first | exact (Kd.R_reads' HO268.out).2.2 | (with_reducible refine Kd.C_alloc ?_ _) | (with_reducible refine Kd.C_drewN ?_ _) | (with_reducible refine Kd.C_drew ?_)))
   (case side2 => exact (Kd.R_reads' HO268.out).2.1)
   (case side3 => repeat (first | exact (Kd.R_reads' HO289.out).2.2 | (with_reducible refine Kd.C_alloc ?_ _) | (with_reducible refine Kd.C_drewN ?_ _) | (with_reducible refine Kd.C_drew ?_)))
   (case side4 => exact (Kd.R_reads' HO289.out).2.1)
   rintro e w' ⟨rfl, ⟨nd, rfl⟩⟩
   refine ⟨_, rfl, ?_⟩
   refine hK.out _ _ ⟨(blk_cell BK270.out 0).trans rfl, (blk_cell BK270.out 1).trans rfl, (blk_cell BK270.out 2).trans rfl, (blk_cell BK270.out 3).trans rfl, (blk_cell BK270.out 4).trans rfl, (blk_cell BK270.out 5).trans rfl, (blk_cell BK270.out 6).trans rfl, (blk_cell BK270.out 7).trans rfl, (blk_cell BK291.out 0).trans rfl, (blk_cell BK291.out 1).trans rfl, (blk_cell BK291.out 2).trans rfl, (blk_cell BK291.out 3).trans rfl, (blk_cell BK291.out 4).trans rfl, (blk_cell BK291.out 5).trans rfl, (blk_cell BK291.out 6).trans rfl, (blk_cell BK291.out 7).trans rfl, (blk_cell BK291.out 8).trans rfl⟩ (fun hHeld => ?_)
   clear hK K
   refine norm_ (a' := ?_) ?_ ?_
   rotate_left
   ·show Act.put _ (some 51) _ = _
    simp only [Act.put, la_, lb_, lc_, i64_w, i32_w]
    rfl
   refine pon_ 10 (some 52) d3x11 HT_.out ?_
   refine pon_ 11 (some 53) d3x12 HT_.out ?_
   refine pon_ 12 (some 54) d3x13 HT_.out ?_
   refine pon_ 13 (some 55) d3x14 HT_.out ?_
   refine pon_ 14 (some 56) d3x15 HT_.out ?_
   refine pon_ 15 (some 57) d3x16 HT_.out ?_
   refine pon_ 16 (some 58) d3x17 HT_.out ?_
   refine pon_ 17 (some 59) d3x18 HT_.out ?_
   refine pon_ 18 (some 60) d3x19 HT_.out ?_
   refine one_ (i := 19) (N := some 61) d3x20 rfl rfl (one_of HT_.out (by kernel_rfl)) (by decide) (fun K hK => ?_)
   refine goes_ Tryd.func15 (by kernel_rfl) rfl #[.slice Ao33 t255.length co33, .slice A1 l1.length c1] (by rfl) rfl rfl (by (try simp only [List.map_toArray, List.map_cons, List.map_nil]); first | done | rfl | (simp only [List.length_drop, List.length_take]; rfl)) ?_
   with_reducible refine (headgateref21_Pairs.calls kj2 _ _ t255 _ _ l1 true _ ?side1 ?side2 ?side3 ?side4 A23.out).mono ?_
   (case side1 => repeat (first | exact (Kd.R_reads' HO257.out).2.2 | (with_reducible refine Kd.C_alloc ?_ _) | (with_reducible refine Kd.C_drewN ?_ _) | (with_reducible refine Kd.C_drew ?_)))
   (case side2 => exact (Kd.R_reads' HO257.out).2.1)
   (case side3 => repeat (first | exact (Kd.C_below HR1.out (hb_ HB)) | (with_reducible refine Kd.C_alloc ?_ _) | (with_reducible refine Kd.C_drewN ?_ _) | (with_reducible refine Kd.C_drew ?_)))
   (case side4 => exact HC1.out)
   rintro e w' ⟨rfl, ⟨nd, rfl⟩⟩
   refine ⟨_, rfl, ?_⟩
   refine hK.out _ _ ⟨(blk_cell BK270.out 0).trans rfl, (blk_cell BK270.out 1).trans rfl, (blk_cell BK270.out 2).trans rfl, (blk_cell BK270.out 3).trans rfl, (blk_cell BK270.out 4).trans rfl, (blk_cell BK270.out 5).trans rfl, (blk_cell BK270.out 6).trans rfl, (blk_cell BK270.out 7).trans rfl, (blk_cell BK291.out 0).trans rfl, (blk_cell BK291.out 1).trans rfl, (blk_cell BK291.out 2).trans rfl, (blk_cell BK291.out 3).trans rfl, (blk_cell BK291.out 4).trans rfl, (blk_cell BK291.out 5).trans rfl, (blk_cell BK291.out 6).trans rfl, (blk_cell BK291.out 7).trans rfl, (blk_cell BK291.out 8).trans rfl⟩ (fun hHeld => ?_)
   clear hK K
   refine norm_ (a' := ?_) ?_ ?_
   rotate_left
   ·show Act.put _ (some 61) _ = _
    simp only [Act.put, la_, lb_, lc_, i64_w, i32_w]
    rfl
   refine pon_ 20 (some 62) d3x21 HT_.out ?_
   refine pon_ 21 (some 63) d3x22 HT_.out ?_
   refine one_ (i := 22) (N := some 64) d3x23 rfl rfl (one_of HT_.out (by kernel_rfl)) (by decide) (fun K hK => ?_)
   refine goes_ Tryd.func16 (by kernel_rfl) rfl #[] (by rfl) rfl rfl (by (try simp only [List.map_toArray, List.map_cons, List.map_nil]); first | done | rfl | (simp only [List.length_drop, List.length_take]; rfl)) ?_
   with_reducible refine (keys_First.calls  t303 t304 t305 t306 t307 t308 t309 t310 _ A25.out).mono ?_
   rintro e w51 ⟨rfl, hb⟩
   refine ⟨_, rfl, ?_⟩
   have n0_ := Aside0.mk (Kd.R_below (by (with_reducible repeat (first | apply Kd.R_alloc | apply Kd.R_drewN | apply Kd.R_drew)); exact HO257.out) hb)
   have n1_ := Aside0.mk (Kd.R_below (by (with_reducible repeat (first | apply Kd.R_alloc | apply Kd.R_drewN | apply Kd.R_drew)); exact HO268.out) hb)
   have n2_ := Aside0.mk (Kd.R_below (by (with_reducible repeat (first | apply Kd.R_alloc | apply Kd.R_drewN | apply Kd.R_drew)); exact HO289.out) hb)
   have n3_ := Aside0.mk (blk_below (bk_ BK252) hb)
   have n4_ := Aside0.mk (blk_below (bk_ BK270) hb)
   have n5_ := Aside0.mk (blk_below (bk_ BK291) hb)
   have n6_ := Aside0.mk (below_step (hb_ HB) hb)
   clear HO257
   clear HO268
   clear HO289
   clear BK252
   clear BK270
   clear BK291
   clear HB
   have HO257 := n0_
   have HO268 := n1_
   have HO289 := n2_
   have BK252 := n3_
   have BK270 := n4_
   have BK291 := n5_
   have HB := n6_
   clear n0_ n1_ n2_ n3_ n4_ n5_ n6_
   (try clear hb)
   (try clear hb2)
   (try clear hk)
   (try clear hi)
   refine hK.out _ _ ⟨(blk_cell BK270.out 0).trans rfl, (blk_cell BK270.out 1).trans rfl, (blk_cell BK270.out 2).trans rfl, (blk_cell BK270.out 3).trans rfl, (blk_cell BK270.out 4).trans rfl, (blk_cell BK270.out 5).trans rfl, (blk_cell BK270.out 6).trans rfl, (blk_cell BK270.out 7).trans rfl, (blk_cell BK291.out 0).trans rfl, (blk_cell BK291.out 1).trans rfl, (blk_cell BK291.out 2).trans rfl, (blk_cell BK291.out 3).trans rfl, (blk_cell BK291.out 4).trans rfl, (blk_cell BK291.out 5).trans rfl, (blk_cell BK291.out 6).trans rfl, (blk_cell BK291.out 7).trans rfl, (blk_cell BK291.out 8).trans rfl⟩ (fun hHeld => ?_)
   clear hK K
   refine norm_ (a' := ?_) ?_ ?_
   rotate_left
   ·show Act.put _ (some 64) _ = _
    simp only [Act.put, la_, lb_, lc_, i64_w, i32_w]
    rfl
   refine one_ (i := 23) (N := some 65) d3x24 rfl rfl (one_of HT_.out (by kernel_rfl)) (by decide) (fun K hK => ?_)
   refine goes_ Tryd.func13 (by kernel_rfl) rfl #[.agg #[.bool t303, .bool t304, .bool t305, .bool t306, .int .i64 t307, .int .i64 t308, .string t309, .string t310]] (by rfl) rfl rfl (by (try simp only [List.map_toArray, List.map_cons, List.map_nil]); first | done | rfl | (simp only [List.length_drop, List.length_take]; rfl)) ?_
   with_reducible refine (headgatelaw21_Own.calls t303 t304 t305 t306 t307 t308 t309 t310 t311 t312 t313 t314 t315 t316 t317 t318 _ A26.out).mono ?_
   rintro e w52 ⟨rfl, hb⟩
   refine ⟨_, rfl, ?_⟩
   have n0_ := Aside0.mk (Kd.R_below (by (with_reducible repeat (first | apply Kd.R_alloc | apply Kd.R_drewN | apply Kd.R_drew)); exact HO257.out) hb)
   have n1_ := Aside0.mk (Kd.R_below (by (with_reducible repeat (first | apply Kd.R_alloc | apply Kd.R_drewN | apply Kd.R_drew)); exact HO268.out) hb)
   have n2_ := Aside0.mk (Kd.R_below (by (with_reducible repeat (first | apply Kd.R_alloc | apply Kd.R_drewN | apply Kd.R_drew)); exact HO289.out) hb)
   have n3_ := Aside0.mk (blk_below (bk_ BK252) hb)
   have n4_ := Aside0.mk (blk_below (bk_ BK270) hb)
   have n5_ := Aside0.mk (blk_below (bk_ BK291) hb)
   have n6_ := Aside0.mk (below_step (hb_ HB) hb)
   clear HO257
   clear HO268
   clear HO289
   clear BK252
   clear BK270
   clear BK291
   clear HB
   have HO257 := n0_
   have HO268 := n1_
   have HO289 := n2_
   have BK252 := n3_
   have BK270 := n4_
   have BK291 := n5_
   have HB := n6_
   clear n0_ n1_ n2_ n3_ n4_ n5_ n6_
   (try clear hb)
   (try clear hb2)
   (try clear hk)
   (try clear hi)
   refine hK.out _ _ ⟨(blk_cell BK270.out 0).trans rfl, (blk_cell BK270.out 1).trans rfl, (blk_cell BK270.out 2).trans rfl, (blk_cell BK270.out 3).trans rfl, (blk_cell BK270.out 4).trans rfl, (blk_cell BK270.out 5).trans rfl, (blk_cell BK270.out 6).trans rfl, (blk_cell BK270.out 7).trans rfl, (blk_cell BK291.out 0).trans rfl, (blk_cell BK291.out 1).trans rfl, (blk_cell BK291.out 2).trans rfl, (blk_cell BK291.out 3).trans rfl, (blk_cell BK291.out 4).trans rfl, (blk_cell BK291.out 5).trans rfl, (blk_cell BK291.out 6).trans rfl, (blk_cell BK291.out 7).trans rfl, (blk_cell BK291.out 8).trans rfl⟩ (fun hHeld => ?_)
   clear hK K
   refine norm_ (a' := ?_) ?_ ?_
   rotate_left
   ·show Act.put _ (some 65) _ = _
    simp only [Act.put, la_, lb_, lc_, i64_w, i32_w]
    rfl
   refine one_ (i := 24) (N := some 66) d3x25 rfl rfl (one_of HT_.out (by kernel_rfl)) (by decide) (fun K hK => ?_)
   refine goes_ Tryd.func17 (by kernel_rfl) rfl #[] (by rfl) rfl rfl (by (try simp only [List.map_toArray, List.map_cons, List.map_nil]); first | done | rfl | (simp only [List.length_drop, List.length_take]; rfl)) ?_
   with_reducible refine (headgateref21_First.calls  t319 t320 t321 t322 t323 t324 t325 t326 _ A27.out).mono ?_
   rintro e w53 ⟨rfl, hb⟩
   refine ⟨_, rfl, ?_⟩
   have n0_ := Aside0.mk (Kd.R_below (by (with_reducible repeat (first | apply Kd.R_alloc | apply Kd.R_drewN | apply Kd.R_drew)); exact HO257.out) hb)
   have n1_ := Aside0.mk (Kd.R_below (by (with_reducible repeat (first | apply Kd.R_alloc | apply Kd.R_drewN | apply Kd.R_drew)); exact HO268.out) hb)
   have n2_ := Aside0.mk (Kd.R_below (by (with_reducible repeat (first | apply Kd.R_alloc | apply Kd.R_drewN | apply Kd.R_drew)); exact HO289.out) hb)
   have n3_ := Aside0.mk (blk_below (bk_ BK252) hb)
   have n4_ := Aside0.mk (blk_below (bk_ BK270) hb)
   have n5_ := Aside0.mk (blk_below (bk_ BK291) hb)
   have n6_ := Aside0.mk (below_step (hb_ HB) hb)
   clear HO257
   clear HO268
   clear HO289
   clear BK252
   clear BK270
   clear BK291
   clear HB
   have HO257 := n0_
   have HO268 := n1_
   have HO289 := n2_
   have BK252 := n3_
   have BK270 := n4_
   have BK291 := n5_
   have HB := n6_
   clear n0_ n1_ n2_ n3_ n4_ n5_ n6_
   (try clear hb)
   (try clear hb2)
   (try clear hk)
   (try clear hi)
   refine hK.out _ _ ⟨(blk_cell BK270.out 0).trans rfl, (blk_cell BK270.out 1).trans rfl, (blk_cell BK270.out 2).trans rfl, (blk_cell BK270.out 3).trans rfl, (blk_cell BK270.out 4).trans rfl, (blk_cell BK270.out 5).trans rfl, (blk_cell BK270.out 6).trans rfl, (blk_cell BK270.out 7).trans rfl, (blk_cell BK291.out 0).trans rfl, (blk_cell BK291.out 1).trans rfl, (blk_cell BK291.out 2).trans rfl, (blk_cell BK291.out 3).trans rfl, (blk_cell BK291.out 4).trans rfl, (blk_cell BK291.out 5).trans rfl, (blk_cell BK291.out 6).trans rfl, (blk_cell BK291.out 7).trans rfl, (blk_cell BK291.out 8).trans rfl⟩ (fun hHeld => ?_)
   clear hK K
   refine norm_ (a' := ?_) ?_ ?_
   rotate_left
   ·show Act.put _ (some 66) _ = _
    simp only [Act.put, la_, lb_, lc_, i64_w, i32_w]
    rfl
   refine one_ (i := 25) (N := some 67) d3x26 rfl rfl (one_of HT_.out (by kernel_rfl)) (by decide) (fun K hK => ?_)
   refine goes_ Tryd.func14 (by kernel_rfl) rfl #[.agg #[.bool t311, .bool t312, .bool t313, .bool t314, .int .i64 t315, .int .i64 t316, .string t317, .string t318], .agg #[.bool t319, .bool t320, .bool t321, .bool t322, .int .i64 t323, .int .i64 t324, .string t325, .string t326]] (by rfl) rfl rfl (by (try simp only [List.map_toArray, List.map_cons, List.map_nil]); first | done | rfl | (simp only [List.length_drop, List.length_take]; rfl)) ?_
   with_reducible refine (headgateref21_Same.calls t311 t312 t313 t314 t315 t316 t317 t318 t319 t320 t321 t322 t323 t324 t325 t326 true _ A28.out).mono ?_
   rintro e w54 ⟨rfl, hb⟩
   refine ⟨_, rfl, ?_⟩
   have n0_ := Aside0.mk (Kd.R_below (by (with_reducible repeat (first | apply Kd.R_alloc | apply Kd.R_drewN | apply Kd.R_drew)); exact HO257.out) hb)
   have n1_ := Aside0.mk (Kd.R_below (by (with_reducible repeat (first | apply Kd.R_alloc | apply Kd.R_drewN | apply Kd.R_drew)); exact HO268.out) hb)
   have n2_ := Aside0.mk (Kd.R_below (by (with_reducible repeat (first | apply Kd.R_alloc | apply Kd.R_drewN | apply Kd.R_drew)); exact HO289.out) hb)
   have n3_ := Aside0.mk (blk_below (bk_ BK252) hb)
   have n4_ := Aside0.mk (blk_below (bk_ BK270) hb)
   have n5_ := Aside0.mk (blk_below (bk_ BK291) hb)
   have n6_ := Aside0.mk (below_step (hb_ HB) hb)
   clear HO257
   clear HO268
   clear HO289
   clear BK252
   clear BK270
   clear BK291
   clear HB
   have HO257 := n0_
   have HO268 := n1_
   have HO289 := n2_
   have BK252 := n3_
   have BK270 := n4_
   have BK291 := n5_
   have HB := n6_
   clear n0_ n1_ n2_ n3_ n4_ n5_ n6_
   (try clear hb)
   (try clear hb2)
   (try clear hk)
   (try clear hi)
   refine hK.out _ _ ⟨(blk_cell BK270.out 0).trans rfl, (blk_cell BK270.out 1).trans rfl, (blk_cell BK270.out 2).trans rfl, (blk_cell BK270.out 3).trans rfl, (blk_cell BK270.out 4).trans rfl, (blk_cell BK270.out 5).trans rfl, (blk_cell BK270.out 6).trans rfl, (blk_cell BK270.out 7).trans rfl, (blk_cell BK291.out 0).trans rfl, (blk_cell BK291.out 1).trans rfl, (blk_cell BK291.out 2).trans rfl, (blk_cell BK291.out 3).trans rfl, (blk_cell BK291.out 4).trans rfl, (blk_cell BK291.out 5).trans rfl, (blk_cell BK291.out 6).trans rfl, (blk_cell BK291.out 7).trans rfl, (blk_cell BK291.out 8).trans rfl⟩ (fun hHeld => ?_)
   clear hK K
   refine norm_ (a' := ?_) ?_ ?_
   rotate_left
   ·show Act.put _ (some 67) _ = _
    simp only [Act.put, la_, lb_, lc_, i64_w, i32_w]
    rfl
   refine pon_ 26 (some 68) d3x27 HT_.out ?_
   refine pon_ 27 (some 69) d3x28 HT_.out ?_
   refine one_ (i := 28) (N := some 70) d3x29 rfl rfl (one_of HT_.out (by kernel_rfl)) (by decide) (fun K hK => ?_)
   refine goes_ Tryd.func9 (by kernel_rfl) rfl #[] (by rfl) rfl rfl (by (try simp only [List.map_toArray, List.map_cons, List.map_nil]); first | done | rfl | (simp only [List.length_drop, List.length_take]; rfl)) ?_
   with_reducible refine (headgatelaw21_wakes.calls  t328 _ ?side1 A30.out).mono ?_
   (case side1 => first | ((refine Glob.keep HG.out ?_); (repeat (first | (with_reducible first | exact HB.out | apply below_alloc | apply pw_below_drewN | apply below_drew1 | refine below_set ?_ GE252.out | refine below_set ?_ GE270.out | refine below_set ?_ GE291.out) | exact HB.out)); done) | exact HG.out)
   rintro e w55 ⟨rfl, hb⟩
   refine ⟨_, rfl, ?_⟩
   have n0_ := Aside0.mk (Kd.R_below (by (with_reducible repeat (first | apply Kd.R_alloc | apply Kd.R_drewN | apply Kd.R_drew)); exact HO257.out) hb)
   have n1_ := Aside0.mk (Kd.R_below (by (with_reducible repeat (first | apply Kd.R_alloc | apply Kd.R_drewN | apply Kd.R_drew)); exact HO268.out) hb)
   have n2_ := Aside0.mk (Kd.R_below (by (with_reducible repeat (first | apply Kd.R_alloc | apply Kd.R_drewN | apply Kd.R_drew)); exact HO289.out) hb)
   have n3_ := Aside0.mk (blk_below (bk_ BK252) hb)
   have n4_ := Aside0.mk (blk_below (bk_ BK270) hb)
   have n5_ := Aside0.mk (blk_below (bk_ BK291) hb)
   have n6_ := Aside0.mk (below_step (hb_ HB) hb)
   clear HO257
   clear HO268
   clear HO289
   clear BK252
   clear BK270
   clear BK291
   clear HB
   have HO257 := n0_
   have HO268 := n1_
   have HO289 := n2_
   have BK252 := n3_
   have BK270 := n4_
   have BK291 := n5_
   have HB := n6_
   clear n0_ n1_ n2_ n3_ n4_ n5_ n6_
   (try clear hb)
   (try clear hb2)
   (try clear hk)
   (try clear hi)
   refine hK.out _ _ ⟨(blk_cell BK270.out 0).trans rfl, (blk_cell BK270.out 1).trans rfl, (blk_cell BK270.out 2).trans rfl, (blk_cell BK270.out 3).trans rfl, (blk_cell BK270.out 4).trans rfl, (blk_cell BK270.out 5).trans rfl, (blk_cell BK270.out 6).trans rfl, (blk_cell BK270.out 7).trans rfl, (blk_cell BK291.out 0).trans rfl, (blk_cell BK291.out 1).trans rfl, (blk_cell BK291.out 2).trans rfl, (blk_cell BK291.out 3).trans rfl, (blk_cell BK291.out 4).trans rfl, (blk_cell BK291.out 5).trans rfl, (blk_cell BK291.out 6).trans rfl, (blk_cell BK291.out 7).trans rfl, (blk_cell BK291.out 8).trans rfl⟩ (fun hHeld => ?_)
   clear hK K
   refine norm_ (a' := ?_) ?_ ?_
   rotate_left
   ·show Act.put _ (some 70) _ = _
    simp only [Act.put, la_, lb_, lc_, i64_w, i32_w]
    rfl
   refine pon_ 29 (some 71) d3x30 HT_.out ?_
   refine pon_ 30 (some 4) d3x31 HT_.out ?_
   refine done_ (done_of HT_.out (by kernel_rfl)) ?_
   try go_wp2
   go_ret
   exact ⟨by first | rfl | (simp [errW_none, errW_some] <;> rfl) | (simp [*, errW_none, errW_some] <;> rfl) | (simp [bt, *]; done) | (unfold bt; simp [*]; done), by repeat (first | (with_reducible first | exact HB.out | apply below_alloc | apply pw_below_drewN | apply below_drew1 | refine below_set ?_ GE252.out | refine below_set ?_ GE270.out | refine below_set ?_ GE291.out) | exact HB.out)⟩
end Go.Proofs.YtclcnkmefldpiaaDoor.P
