-- written by this session's patched copy of the printer (wip/tools/patch_print.py); Lean checks it
import Derived.Test.YtjogkfcjlljjcaaDoorXaResvTwice
import Derived.Test.YtjogkfcjlljjcaaDoorLaResvTwice
namespace Go.Proofs.YtjogkfcjlljjcaaDoor.P
open Go.RowKit Go.Proofs.YtjogkfcjlljjcaaDoorW.PrintWords Go.Proofs.YtjogkfcjlljjcaaDoorW.PrintLast Go.Proofs.YtjogkfcjlljjcaaDoorW.PrintMore
attribute [local go_sem] max2_int min2_int max_two min_two max_three min_three max_four min_four   -- for this text's walks alone
set_option linter.unusedVariables false
set_option linter.unusedSimpArgs false
set_option linter.unnecessarySimpa false

def headgatelaw11_ResvTwice.T4 : Bool × List (List Nat × List Nat) := (true, [([], []), ([0], [0]), ([], []), ([1, 2, 1], [1, 2]), ([3], [3]), ([4], [4]), ([4], [4]), ([4], [4]), ([], []), ([8, 5, 3, 0, 1, 2, 3, 4, 5, 8], [5, 8]), ([6, 9, 0, 1, 2, 3, 4, 5, 6, 8, 9], [6]), ([7, 10, 0, 1, 2, 3, 4, 5, 6, 7, 8, 9, 10], [7])])
def headgatelaw11_ResvTwice.B4 : List Nat := [0, 1, 0, 7, 15, 31, 31, 31, 0, 319, 895, 2047]
theorem headgatelaw11_ResvTwice.tab4 : rtab .any (opsOf Tryd.f7 4) = headgatelaw11_ResvTwice.T4 := by kernel_rfl
theorem headgatelaw11_ResvTwice.bits4 : waitsOk headgatelaw11_ResvTwice.T4.2 headgatelaw11_ResvTwice.B4 = true := by kernel_rfl
def headgatelaw11_ResvTwice.T5 : Bool × List (List Nat × List Nat) := (true, [([], []), ([0], [0]), ([], []), ([1, 2, 1], [1, 2]), ([3], [3]), ([4], [4]), ([4], [4]), ([4], [4]), ([], []), ([8, 5, 3, 0, 1, 2, 3, 4, 5, 8], [5, 8]), ([6, 9, 0, 1, 2, 3, 4, 5, 6, 8, 9], [6]), ([7, 10, 0, 1, 2, 3, 4, 5, 6, 7, 8, 9, 10], [7])])
def headgatelaw11_ResvTwice.B5 : List Nat := [0, 1, 0, 7, 15, 31, 31, 31, 0, 319, 895, 2047]
theorem headgatelaw11_ResvTwice.tab5 : rtab .any (opsOf Tryd.f7 5) = headgatelaw11_ResvTwice.T5 := by kernel_rfl
theorem headgatelaw11_ResvTwice.bits5 : waitsOk headgatelaw11_ResvTwice.T5.2 headgatelaw11_ResvTwice.B5 = true := by kernel_rfl
def headgatelaw11_ResvTwice.T9 : Bool × List (List Nat × List Nat) := (true, [([], []), ([0], [0]), ([], []), ([1, 2, 1], [1, 2]), ([3], [3]), ([4], [4]), ([4], [4]), ([4], [4]), ([], []), ([8, 5, 3, 0, 1, 2, 3, 4, 5, 8], [5, 8]), ([6, 9, 0, 1, 2, 3, 4, 5, 6, 8, 9], [6]), ([7, 10, 0, 1, 2, 3, 4, 5, 6, 7, 8, 9, 10], [7])])
def headgatelaw11_ResvTwice.B9 : List Nat := [0, 1, 0, 7, 15, 31, 31, 31, 0, 319, 895, 2047]
theorem headgatelaw11_ResvTwice.tab9 : rtab .any (opsOf Tryd.f7 9) = headgatelaw11_ResvTwice.T9 := by kernel_rfl
theorem headgatelaw11_ResvTwice.bits9 : waitsOk headgatelaw11_ResvTwice.T9.2 headgatelaw11_ResvTwice.B9 = true := by kernel_rfl
abbrev d7x0 : Array Bool := #[false, false, false, false, false, false, false, false, false, false, false, false]
abbrev d7x1 : Array Bool := dB 12 1
abbrev d7x2 : Array Bool := dB 12 5
abbrev d7x3 : Array Bool := dB 12 261
abbrev d7x4 : Array Bool := dB 12 7
abbrev d7x5 : Array Bool := dB 12 263
abbrev d7x6 : Array Bool := dB 12 15
abbrev d7x7 : Array Bool := dB 12 271
abbrev d7x8 : Array Bool := dB 12 31
abbrev d7x9 : Array Bool := dB 12 287
abbrev d7x10 : Array Bool := dB 12 63
abbrev d7x11 : Array Bool := dB 12 319
abbrev d7x12 : Array Bool := dB 12 127
abbrev d7x13 : Array Bool := dB 12 383
abbrev d7x14 : Array Bool := dB 12 255
abbrev d7x15 : Array Bool := dB 12 511
abbrev d7x16 : Array Bool := dB 12 1023
abbrev d7x17 : Array Bool := dB 12 2047
abbrev d7x18 : Array Bool := dB 12 4095
set_option maxHeartbeats 8000000 in
set_option maxRecDepth 100000 in
theorem headgatelaw11_ResvTwice.calls (k : Nat) (A0_0 : Option Addr) (c0_0 : Nat) (l0_0 : List (S53)) (a0_1 : Int) (a0_2 : ByteArray) (a0_3 : Int) (a0_4 : Bool) (a1 : ByteArray) (a2 : Int) (r : Bool) (w : World) (hr0_0 : Kd.C k53 w A0_0 l0_0.length l0_0) (hc0_0 : l0_0.length ≤ c0_0) (hG : Glob w) (hT : r = true) (h : headgatelaw11_ResvTwice.f k l0_0 a0_1 a0_2 a0_3 a0_4 a1 a2 = some r) :
  Calls Tryd.prog 7 #[.agg #[.slice A0_0 l0_0.length c0_0, .int .i64 a0_1, .string a0_2, .int .u32 a0_3, .bool a0_4], .string a1, .int .i64 a2] w fun e w' => e = .returned (.bool r) ∧ Below w.heap.size w w' := by
 have hu27 := Tryd.underlying27
 have hu31 := Tryd.underlying31
 have HT0 := Aside0.mk hT
 clear hT
 have HG := Aside0.mk hG
 clear hG
 have HR0_0 := Aside0.mk hr0_0
 have HC0_0 := Aside0.mk hc0_0
 clear hr0_0 hc0_0
 have HB := Aside0.mk (Below.refl w.heap.size w)
 have H : ((headgatelaw10_Large.f k l0_0 a0_1 a0_2 a0_3 a0_4).bind fun t419 => (if t419 = true then (headgatelaw11_ResvTwice.j0 k a1 a2 true l0_0 a0_1 a0_2 a0_3 a0_4) else ((headgateref11_Good.f k l0_0 a0_1 a0_2 a0_3 a0_4).bind fun t420 => (if t420 = true then ((headgateref11_Key.f k l0_0 a0_1 a0_2 a0_3 a0_4 a1).bind fun t421 => (if t421 = 0 then (headgatelaw11_ResvTwice.j0 k a1 a2 true l0_0 a0_1 a0_2 a0_3 a0_4) else (headgatelaw11_ResvTwice.j0 k a1 a2 (a0_1 != 0) l0_0 a0_1 a0_2 a0_3 a0_4))) else (headgatelaw11_ResvTwice.j0 k a1 a2 true l0_0 a0_1 a0_2 a0_3 a0_4))))) = some r := h
 clear h
 have HC4 := Aside0.mk H
 clear H
 go_enter Tryd.func7, Tryd.ntmps7
 go_upto_region 1 with (first | ((with_reducible refine gate_dst (N := 3) rfl ?_); refine box_event ?hg (N := 3) ?hd (cs := #[.slice A0_0 l0_0.length c0_0, .int .i64 a0_1, .string a0_2, .int .u32 a0_3, .bool a0_4]) (t := 27) ?hr ?_; (case hd => rfl); (case hg => rfl); (case hr => first | (go_simp; done) | (go_simp; rfl)); intro gb418 hg w5 hbox hb; have n0_ := Aside0.mk (below_step (hb_ HB) hb); have n1_ := Aside0.mk (hbox); have n2_ := Aside0.mk ((by rw [hg]; exact (below_size (hb_ HB)) : w.heap.size ≤ gb418)); have n3_ := Aside0.mk ((by rw [hg]; exact (below_size (hb_ HB)) : w.heap.size ≤ gb418)); clear HB; have HB := n0_; have BK418 := n1_; have GW418 := n2_; have GE418 := n3_; clear n0_ n1_ n2_ n3_; clear hb hbox hg))
 (try simp only [Act.put, la_, lb_, lc_])
 go_cut [36] (fun v36 wc => ∃ (kq : Nat) (x36_3 : Bool), v36 = .bool x36_3 ∧ Aside0 (headgatelaw11_ResvTwice.j0 kq a1 a2 x36_3 l0_0 a0_1 a0_2 a0_3 a0_4 = some r) ∧ Aside0 (kq ≤ k) ∧ Aside0 (wc.heap[gb418]? = some (.cells #[(.slice A0_0 l0_0.length c0_0), .int .i64 a0_1, .string a0_2, .int .u32 a0_3, .bool a0_4] 27 (0, 0))) ∧ Aside0 (Below w.heap.size w wc))
 case first =>
  have H := HC4.out
  clear HC4
  replace H := Option.bind_eq_some_iff.mp H
  obtain ⟨t419, A60, H⟩ := H
  try dsimp only at H
  have A6 := Aside0.mk A60
  clear A60
  by_cases c7 : t419 = true
  ·subst c7
   have H1 := H
   rw [if_pos rfl] at H1
   clear H
   have H := H1
   clear H1
   have H' := Aside0.mk H
   clear H
   have hcz8_0 : w5.cell? ⟨gb418, 0, none⟩ = some (.slice A0_0 l0_0.length c0_0) := (blk_cell BK418.out 0).trans rfl
   have hcz8_1 : w5.cell? ⟨gb418, 1, none⟩ = some (.int .i64 a0_1) := (blk_cell BK418.out 1).trans rfl
   have hcz8_2 : w5.cell? ⟨gb418, 2, none⟩ = some (.string a0_2) := (blk_cell BK418.out 2).trans rfl
   have hcz8_3 : w5.cell? ⟨gb418, 3, none⟩ = some (.int .u32 a0_3) := (blk_cell BK418.out 3).trans rfl
   have hcz8_4 : w5.cell? ⟨gb418, 4, none⟩ = some (.bool a0_4) := (blk_cell BK418.out 4).trans rfl
   have hfz8_0 := blk_frozen BK418.out 0
   have hfz8_1 := blk_frozen BK418.out 1
   have hfz8_2 := blk_frozen BK418.out 2
   have hfz8_3 := blk_frozen BK418.out 3
   have hfz8_4 := blk_frozen BK418.out 4
   go_wp2_with (first | ((with_reducible refine gate_callee (f := 11) rfl ?_); refine goesL_ (some 19) rfl rfl Tryd.func11 (by kernel_rfl) rfl #[.agg #[.slice A0_0 l0_0.length c0_0, .int .i64 a0_1, .string a0_2, .int .u32 a0_3, .bool a0_4]] rfl (by (try simp only [List.map_toArray, List.map_cons, List.map_nil]); first | done | rfl | (simp only [List.length_drop, List.length_take]; rfl)) ?_; (with_reducible refine (headgatelaw10_Large.calls k _ _ l0_0 a0_1 a0_2 a0_3 a0_4 true _ ?side1 ?side2 A6.out).mono ?_); (case side1 => repeat (first | exact (Kd.C_below HR0_0.out HB.out) | (with_reducible refine Kd.C_alloc ?_ _) | (with_reducible refine Kd.C_drewN ?_ _) | (with_reducible refine Kd.C_drew ?_))); (case side2 => exact HC0_0.out); rintro e w9 ⟨rfl, hb⟩; refine ⟨_, rfl, ?_⟩; have n0_ := Aside0.mk (blk_below (bk_ BK418) hb); have n1_ := Aside0.mk (below_step (hb_ HB) hb); clear BK418; clear HB; have BK418 := n0_; have HB := n1_; clear n0_ n1_; (try clear hb); (try clear hb2); (try clear hk); (try clear hi)))
   go_meet
   case rel => exact ⟨_, (true), (by first | rfl | (simp; done) | (simp [*]; done)), H', ⟨by first | omega | exact Nat.le_refl _⟩, ⟨bk_ BK418⟩, ⟨hb_ HB⟩⟩
  replace c7 := Bool.eq_false_iff.mpr c7
  subst c7
  have H1 := H
  rw [if_neg (show ¬ (false = true) by decide)] at H1
  clear H
  have H := H1
  clear H1
  replace H := Option.bind_eq_some_iff.mp H
  obtain ⟨t420, A100, H⟩ := H
  try dsimp only at H
  have A10 := Aside0.mk A100
  clear A100
  refine neg_first (p := (t420 = true)) (fun c11 => ?_) (fun c11 => ?_)
  ·replace c11 := Bool.eq_false_iff.mpr c11
   subst c11
   have H1 := H
   rw [if_neg (show ¬ (false = true) by decide)] at H1
   clear H
   have H := H1
   clear H1
   have H' := Aside0.mk H
   clear H
   have hcz27_0 : w5.cell? ⟨gb418, 0, none⟩ = some (.slice A0_0 l0_0.length c0_0) := (blk_cell BK418.out 0).trans rfl
   have hcz27_1 : w5.cell? ⟨gb418, 1, none⟩ = some (.int .i64 a0_1) := (blk_cell BK418.out 1).trans rfl
   have hcz27_2 : w5.cell? ⟨gb418, 2, none⟩ = some (.string a0_2) := (blk_cell BK418.out 2).trans rfl
   have hcz27_3 : w5.cell? ⟨gb418, 3, none⟩ = some (.int .u32 a0_3) := (blk_cell BK418.out 3).trans rfl
   have hcz27_4 : w5.cell? ⟨gb418, 4, none⟩ = some (.bool a0_4) := (blk_cell BK418.out 4).trans rfl
   have hfz27_0 := blk_frozen BK418.out 0
   have hfz27_1 := blk_frozen BK418.out 1
   have hfz27_2 := blk_frozen BK418.out 2
   have hfz27_3 := blk_frozen BK418.out 3
   have hfz27_4 := blk_frozen BK418.out 4
   go_wp2_with (first | ((with_reducible refine gate_callee (f := 11) rfl ?_); refine goesL_ (some 19) rfl rfl Tryd.func11 (by kernel_rfl) rfl #[.agg #[.slice A0_0 l0_0.length c0_0, .int .i64 a0_1, .string a0_2, .int .u32 a0_3, .bool a0_4]] rfl (by (try simp only [List.map_toArray, List.map_cons, List.map_nil]); first | done | rfl | (simp only [List.length_drop, List.length_take]; rfl)) ?_; (with_reducible refine (headgatelaw10_Large.calls k _ _ l0_0 a0_1 a0_2 a0_3 a0_4 false _ ?side1 ?side2 A6.out).mono ?_); (case side1 => repeat (first | exact (Kd.C_below HR0_0.out HB.out) | (with_reducible refine Kd.C_alloc ?_ _) | (with_reducible refine Kd.C_drewN ?_ _) | (with_reducible refine Kd.C_drew ?_))); (case side2 => exact HC0_0.out); rintro e w28 ⟨rfl, hb⟩; refine ⟨_, rfl, ?_⟩; have n0_ := Aside0.mk (blk_below (bk_ BK418) hb); have n1_ := Aside0.mk (below_step (hb_ HB) hb); clear BK418; clear HB; have BK418 := n0_; have HB := n1_; clear n0_ n1_; (try clear hb); (try clear hb2); (try clear hk); (try clear hi); have hcz29_0 : w28.cell? ⟨gb418, 0, none⟩ = some (.slice A0_0 l0_0.length c0_0) := (blk_cell BK418.out 0).trans rfl; have hcz29_1 : w28.cell? ⟨gb418, 1, none⟩ = some (.int .i64 a0_1) := (blk_cell BK418.out 1).trans rfl; have hcz29_2 : w28.cell? ⟨gb418, 2, none⟩ = some (.string a0_2) := (blk_cell BK418.out 2).trans rfl; have hcz29_3 : w28.cell? ⟨gb418, 3, none⟩ = some (.int .u32 a0_3) := (blk_cell BK418.out 3).trans rfl; have hcz29_4 : w28.cell? ⟨gb418, 4, none⟩ = some (.bool a0_4) := (blk_cell BK418.out 4).trans rfl; have hfz29_0 := blk_frozen BK418.out 0; have hfz29_1 := blk_frozen BK418.out 1; have hfz29_2 := blk_frozen BK418.out 2; have hfz29_3 := blk_frozen BK418.out 3; have hfz29_4 := blk_frozen BK418.out 4) | (go_at_call 20; (with_reducible refine (headgateref11_Good.calls k _ _ l0_0 a0_1 a0_2 a0_3 a0_4 false _ ?side1 ?side2 A10.out).mono ?_); (case side1 => repeat (first | exact (Kd.C_below HR0_0.out HB.out) | (with_reducible refine Kd.C_alloc ?_ _) | (with_reducible refine Kd.C_drewN ?_ _) | (with_reducible refine Kd.C_drew ?_))); (case side2 => exact HC0_0.out); rintro e w30 ⟨rfl, hb⟩; have n0_ := Aside0.mk (blk_below (bk_ BK418) hb); have n1_ := Aside0.mk (below_step (hb_ HB) hb); clear BK418; clear HB; have BK418 := n0_; have HB := n1_; clear n0_ n1_; (try clear hb); (try clear hb2); (try clear hk); (try clear hi)))
   go_meet
   case rel => exact ⟨_, (true), (by first | rfl | (simp; done) | (simp [*]; done)), H', ⟨by first | omega | exact Nat.le_refl _⟩, ⟨bk_ BK418⟩, ⟨hb_ HB⟩⟩
  subst c11
  have H1 := H
  rw [if_pos rfl] at H1
  clear H
  have H := H1
  clear H1
  replace H := Option.bind_eq_some_iff.mp H
  obtain ⟨t421, A120, H⟩ := H
  try dsimp only at H
  have A12 := Aside0.mk A120
  clear A120
  by_cases c13 : t421 = 0
  ·rw [if_pos c13] at H
   have c13b0 : (t421 == 0) = true := beq_iff_eq.mpr c13
   have c13b1 : (t421 != 0) = false := bne_eq_false_iff_eq.mpr c13
   clear c13
   (first | rw [c13b0] | (simp only [i64_w, i32_w]; rw [c13b0]) | skip)
   have H' := Aside0.mk H
   clear H
   have hcz14_0 : w5.cell? ⟨gb418, 0, none⟩ = some (.slice A0_0 l0_0.length c0_0) := (blk_cell BK418.out 0).trans rfl
   have hcz14_1 : w5.cell? ⟨gb418, 1, none⟩ = some (.int .i64 a0_1) := (blk_cell BK418.out 1).trans rfl
   have hcz14_2 : w5.cell? ⟨gb418, 2, none⟩ = some (.string a0_2) := (blk_cell BK418.out 2).trans rfl
   have hcz14_3 : w5.cell? ⟨gb418, 3, none⟩ = some (.int .u32 a0_3) := (blk_cell BK418.out 3).trans rfl
   have hcz14_4 : w5.cell? ⟨gb418, 4, none⟩ = some (.bool a0_4) := (blk_cell BK418.out 4).trans rfl
   have hfz14_0 := blk_frozen BK418.out 0
   have hfz14_1 := blk_frozen BK418.out 1
   have hfz14_2 := blk_frozen BK418.out 2
   have hfz14_3 := blk_frozen BK418.out 3
   have hfz14_4 := blk_frozen BK418.out 4
   go_wp2_with (first | ((with_reducible refine gate_callee (f := 11) rfl ?_); refine goesL_ (some 19) rfl rfl Tryd.func11 (by kernel_rfl) rfl #[.agg #[.slice A0_0 l0_0.length c0_0, .int .i64 a0_1, .string a0_2, .int .u32 a0_3, .bool a0_4]] rfl (by (try simp only [List.map_toArray, List.map_cons, List.map_nil]); first | done | rfl | (simp only [List.length_drop, List.length_take]; rfl)) ?_; (with_reducible refine (headgatelaw10_Large.calls k _ _ l0_0 a0_1 a0_2 a0_3 a0_4 false _ ?side1 ?side2 A6.out).mono ?_); (case side1 => repeat (first | exact (Kd.C_below HR0_0.out HB.out) | (with_reducible refine Kd.C_alloc ?_ _) | (with_reducible refine Kd.C_drewN ?_ _) | (with_reducible refine Kd.C_drew ?_))); (case side2 => exact HC0_0.out); rintro e w15 ⟨rfl, hb⟩; refine ⟨_, rfl, ?_⟩; have n0_ := Aside0.mk (blk_below (bk_ BK418) hb); have n1_ := Aside0.mk (below_step (hb_ HB) hb); clear BK418; clear HB; have BK418 := n0_; have HB := n1_; clear n0_ n1_; (try clear hb); (try clear hb2); (try clear hk); (try clear hi); have hcz16_0 : w15.cell? ⟨gb418, 0, none⟩ = some (.slice A0_0 l0_0.length c0_0) := (blk_cell BK418.out 0).trans rfl; have hcz16_1 : w15.cell? ⟨gb418, 1, none⟩ = some (.int .i64 a0_1) := (blk_cell BK418.out 1).trans rfl; have hcz16_2 : w15.cell? ⟨gb418, 2, none⟩ = some (.string a0_2) := (blk_cell BK418.out 2).trans rfl; have hcz16_3 : w15.cell? ⟨gb418, 3, none⟩ = some (.int .u32 a0_3) := (blk_cell BK418.out 3).trans rfl; have hcz16_4 : w15.cell? ⟨gb418, 4, none⟩ = some (.bool a0_4) := (blk_cell BK418.out 4).trans rfl; have hfz16_0 := blk_frozen BK418.out 0; have hfz16_1 := blk_frozen BK418.out 1; have hfz16_2 := blk_frozen BK418.out 2; have hfz16_3 := blk_frozen BK418.out 3; have hfz16_4 := blk_frozen BK418.out 4) | (go_at_call 20; (with_reducible refine (headgateref11_Good.calls k _ _ l0_0 a0_1 a0_2 a0_3 a0_4 true _ ?side1 ?side2 A10.out).mono ?_); (case side1 => repeat (first | exact (Kd.C_below HR0_0.out HB.out) | (with_reducible refine Kd.C_alloc ?_ _) | (with_reducible refine Kd.C_drewN ?_ _) | (with_reducible refine Kd.C_drew ?_))); (case side2 => exact HC0_0.out); rintro e w17 ⟨rfl, hb⟩; have n0_ := Aside0.mk (blk_below (bk_ BK418) hb); have n1_ := Aside0.mk (below_step (hb_ HB) hb); clear BK418; clear HB; have BK418 := n0_; have HB := n1_; clear n0_ n1_; (try clear hb); (try clear hb2); (try clear hk); (try clear hi); have hcz18_0 : w17.cell? ⟨gb418, 0, none⟩ = some (.slice A0_0 l0_0.length c0_0) := (blk_cell BK418.out 0).trans rfl; have hcz18_1 : w17.cell? ⟨gb418, 1, none⟩ = some (.int .i64 a0_1) := (blk_cell BK418.out 1).trans rfl; have hcz18_2 : w17.cell? ⟨gb418, 2, none⟩ = some (.string a0_2) := (blk_cell BK418.out 2).trans rfl; have hcz18_3 : w17.cell? ⟨gb418, 3, none⟩ = some (.int .u32 a0_3) := (blk_cell BK418.out 3).trans rfl; have hcz18_4 : w17.cell? ⟨gb418, 4, none⟩ = some (.bool a0_4) := (blk_cell BK418.out 4).trans rfl; have hfz18_0 := blk_frozen BK418.out 0; have hfz18_1 := blk_frozen BK418.out 1; have hfz18_2 := blk_frozen BK418.out 2; have hfz18_3 := blk_frozen BK418.out 3; have hfz18_4 := blk_frozen BK418.out 4) | (go_at_call 19; (with_reducible refine (headgateref11_Key.calls k _ _ l0_0 a0_1 a0_2 a0_3 a0_4 a1 t421 _ ?side1 ?side2 A12.out).mono ?_); (case side1 => repeat (first | exact (Kd.C_below HR0_0.out HB.out) | (with_reducible refine Kd.C_alloc ?_ _) | (with_reducible refine Kd.C_drewN ?_ _) | (with_reducible refine Kd.C_drew ?_))); (case side2 => exact HC0_0.out); rintro e w19 ⟨rfl, hb⟩; have n0_ := Aside0.mk (blk_below (bk_ BK418) hb); have n1_ := Aside0.mk (below_step (hb_ HB) hb); clear BK418; clear HB; have BK418 := n0_; have HB := n1_; clear n0_ n1_; (try clear hb); (try clear hb2); (try clear hk); (try clear hi)))
   go_meet
   case rel => exact ⟨_, (true), (by first | rfl | (simp; done) | (simp [*]; done)), H', ⟨by first | omega | exact Nat.le_refl _⟩, ⟨bk_ BK418⟩, ⟨hb_ HB⟩⟩
  rw [if_neg c13] at H
  have c13b0 : (t421 == 0) = false := beq_eq_false_iff_ne.mpr c13
  have c13b1 : (t421 != 0) = true := bne_iff_ne.mpr c13
  (first | rw [c13b0] | (simp only [i64_w, i32_w]; rw [c13b0]) | skip)
  have H' := Aside0.mk H
  clear H
  have hcz20_0 : w5.cell? ⟨gb418, 0, none⟩ = some (.slice A0_0 l0_0.length c0_0) := (blk_cell BK418.out 0).trans rfl
  have hcz20_1 : w5.cell? ⟨gb418, 1, none⟩ = some (.int .i64 a0_1) := (blk_cell BK418.out 1).trans rfl
  have hcz20_2 : w5.cell? ⟨gb418, 2, none⟩ = some (.string a0_2) := (blk_cell BK418.out 2).trans rfl
  have hcz20_3 : w5.cell? ⟨gb418, 3, none⟩ = some (.int .u32 a0_3) := (blk_cell BK418.out 3).trans rfl
  have hcz20_4 : w5.cell? ⟨gb418, 4, none⟩ = some (.bool a0_4) := (blk_cell BK418.out 4).trans rfl
  have hfz20_0 := blk_frozen BK418.out 0
  have hfz20_1 := blk_frozen BK418.out 1
  have hfz20_2 := blk_frozen BK418.out 2
  have hfz20_3 := blk_frozen BK418.out 3
  have hfz20_4 := blk_frozen BK418.out 4
  go_wp2_with (first | ((with_reducible refine gate_callee (f := 11) rfl ?_); refine goesL_ (some 19) rfl rfl Tryd.func11 (by kernel_rfl) rfl #[.agg #[.slice A0_0 l0_0.length c0_0, .int .i64 a0_1, .string a0_2, .int .u32 a0_3, .bool a0_4]] rfl (by (try simp only [List.map_toArray, List.map_cons, List.map_nil]); first | done | rfl | (simp only [List.length_drop, List.length_take]; rfl)) ?_; (with_reducible refine (headgatelaw10_Large.calls k _ _ l0_0 a0_1 a0_2 a0_3 a0_4 false _ ?side1 ?side2 A6.out).mono ?_); (case side1 => repeat (first | exact (Kd.C_below HR0_0.out HB.out) | (with_reducible refine Kd.C_alloc ?_ _) | (with_reducible refine Kd.C_drewN ?_ _) | (with_reducible refine Kd.C_drew ?_))); (case side2 => exact HC0_0.out); rintro e w21 ⟨rfl, hb⟩; refine ⟨_, rfl, ?_⟩; have n0_ := Aside0.mk (blk_below (bk_ BK418) hb); have n1_ := Aside0.mk (below_step (hb_ HB) hb); clear BK418; clear HB; have BK418 := n0_; have HB := n1_; clear n0_ n1_; (try clear hb); (try clear hb2); (try clear hk); (try clear hi); have hcz22_0 : w21.cell? ⟨gb418, 0, none⟩ = some (.slice A0_0 l0_0.length c0_0) := (blk_cell BK418.out 0).trans rfl; have hcz22_1 : w21.cell? ⟨gb418, 1, none⟩ = some (.int .i64 a0_1) := (blk_cell BK418.out 1).trans rfl; have hcz22_2 : w21.cell? ⟨gb418, 2, none⟩ = some (.string a0_2) := (blk_cell BK418.out 2).trans rfl; have hcz22_3 : w21.cell? ⟨gb418, 3, none⟩ = some (.int .u32 a0_3) := (blk_cell BK418.out 3).trans rfl; have hcz22_4 : w21.cell? ⟨gb418, 4, none⟩ = some (.bool a0_4) := (blk_cell BK418.out 4).trans rfl; have hfz22_0 := blk_frozen BK418.out 0; have hfz22_1 := blk_frozen BK418.out 1; have hfz22_2 := blk_frozen BK418.out 2; have hfz22_3 := blk_frozen BK418.out 3; have hfz22_4 := blk_frozen BK418.out 4) | (go_at_call 20; (with_reducible refine (headgateref11_Good.calls k _ _ l0_0 a0_1 a0_2 a0_3 a0_4 true _ ?side1 ?side2 A10.out).mono ?_); (case side1 => repeat (first | exact (Kd.C_below HR0_0.out HB.out) | (with_reducible refine Kd.C_alloc ?_ _) | (with_reducible refine Kd.C_drewN ?_ _) | (with_reducible refine Kd.C_drew ?_))); (case side2 => exact HC0_0.out); rintro e w23 ⟨rfl, hb⟩; have n0_ := Aside0.mk (blk_below (bk_ BK418) hb); have n1_ := Aside0.mk (below_step (hb_ HB) hb); clear BK418; clear HB; have BK418 := n0_; have HB := n1_; clear n0_ n1_; (try clear hb); (try clear hb2); (try clear hk); (try clear hi); have hcz24_0 : w23.cell? ⟨gb418, 0, none⟩ = some (.slice A0_0 l0_0.length c0_0) := (blk_cell BK418.out 0).trans rfl; have hcz24_1 : w23.cell? ⟨gb418, 1, none⟩ = some (.int .i64 a0_1) := (blk_cell BK418.out 1).trans rfl; have hcz24_2 : w23.cell? ⟨gb418, 2, none⟩ = some (.string a0_2) := (blk_cell BK418.out 2).trans rfl; have hcz24_3 : w23.cell? ⟨gb418, 3, none⟩ = some (.int .u32 a0_3) := (blk_cell BK418.out 3).trans rfl; have hcz24_4 : w23.cell? ⟨gb418, 4, none⟩ = some (.bool a0_4) := (blk_cell BK418.out 4).trans rfl; have hfz24_0 := blk_frozen BK418.out 0; have hfz24_1 := blk_frozen BK418.out 1; have hfz24_2 := blk_frozen BK418.out 2; have hfz24_3 := blk_frozen BK418.out 3; have hfz24_4 := blk_frozen BK418.out 4) | (go_at_call 19; (with_reducible refine (headgateref11_Key.calls k _ _ l0_0 a0_1 a0_2 a0_3 a0_4 a1 t421 _ ?side1 ?side2 A12.out).mono ?_); (case side1 => repeat (first | exact (Kd.C_below HR0_0.out HB.out) | (with_reducible refine Kd.C_alloc ?_ _) | (with_reducible refine Kd.C_drewN ?_ _) | (with_reducible refine Kd.C_drew ?_))); (case side2 => exact HC0_0.out); rintro e w25 ⟨rfl, hb⟩; have n0_ := Aside0.mk (blk_below (bk_ BK418) hb); have n1_ := Aside0.mk (below_step (hb_ HB) hb); clear BK418; clear HB; have BK418 := n0_; have HB := n1_; clear n0_ n1_; (try clear hb); (try clear hb2); (try clear hk); (try clear hi); have hcz26_0 : w25.cell? ⟨gb418, 0, none⟩ = some (.slice A0_0 l0_0.length c0_0) := (blk_cell BK418.out 0).trans rfl; have hcz26_1 : w25.cell? ⟨gb418, 1, none⟩ = some (.int .i64 a0_1) := (blk_cell BK418.out 1).trans rfl; have hcz26_2 : w25.cell? ⟨gb418, 2, none⟩ = some (.string a0_2) := (blk_cell BK418.out 2).trans rfl; have hcz26_3 : w25.cell? ⟨gb418, 3, none⟩ = some (.int .u32 a0_3) := (blk_cell BK418.out 3).trans rfl; have hcz26_4 : w25.cell? ⟨gb418, 4, none⟩ = some (.bool a0_4) := (blk_cell BK418.out 4).trans rfl; have hfz26_0 := blk_frozen BK418.out 0; have hfz26_1 := blk_frozen BK418.out 1; have hfz26_2 := blk_frozen BK418.out 2; have hfz26_3 := blk_frozen BK418.out 3; have hfz26_4 := blk_frozen BK418.out 4))
  go_meet
  case rel => exact ⟨_, ((a0_1 != 0)), (by first | rfl | (simp; done) | (simp [*]; done)), H', ⟨by first | omega | exact Nat.le_refl _⟩, ⟨bk_ BK418⟩, ⟨hb_ HB⟩⟩
 case rest =>
  clear HC4
  try clear c1
  try clear p2
  try clear c7
  try clear c11
  try clear c13
  try clear c13b0
  try clear c13b1
  try clear hcz14_0
  try clear hcz14_1
  try clear hcz14_2
  try clear hcz14_3
  try clear hcz14_4
  try clear hcz16_0
  try clear hcz16_1
  try clear hcz16_2
  try clear hcz16_3
  try clear hcz16_4
  try clear hcz18_0
  try clear hcz18_1
  try clear hcz18_2
  try clear hcz18_3
  try clear hcz18_4
  try clear hcz20_0
  try clear hcz20_1
  try clear hcz20_2
  try clear hcz20_3
  try clear hcz20_4
  try clear hcz22_0
  try clear hcz22_1
  try clear hcz22_2
  try clear hcz22_3
  try clear hcz22_4
  try clear hcz24_0
  try clear hcz24_1
  try clear hcz24_2
  try clear hcz24_3
  try clear hcz24_4
  try clear hcz26_0
  try clear hcz26_1
  try clear hcz26_2
  try clear hcz26_3
  try clear hcz26_4
  try clear hcz27_0
  try clear hcz27_1
  try clear hcz27_2
  try clear hcz27_3
  try clear hcz27_4
  try clear hcz29_0
  try clear hcz29_1
  try clear hcz29_2
  try clear hcz29_3
  try clear hcz29_4
  try clear hcz8_0
  try clear hcz8_1
  try clear hcz8_2
  try clear hcz8_3
  try clear hcz8_4
  try clear hfz14_0
  try clear hfz14_1
  try clear hfz14_2
  try clear hfz14_3
  try clear hfz14_4
  try clear hfz16_0
  try clear hfz16_1
  try clear hfz16_2
  try clear hfz16_3
  try clear hfz16_4
  try clear hfz18_0
  try clear hfz18_1
  try clear hfz18_2
  try clear hfz18_3
  try clear hfz18_4
  try clear hfz20_0
  try clear hfz20_1
  try clear hfz20_2
  try clear hfz20_3
  try clear hfz20_4
  try clear hfz22_0
  try clear hfz22_1
  try clear hfz22_2
  try clear hfz22_3
  try clear hfz22_4
  try clear hfz24_0
  try clear hfz24_1
  try clear hfz24_2
  try clear hfz24_3
  try clear hfz24_4
  try clear hfz26_0
  try clear hfz26_1
  try clear hfz26_2
  try clear hfz26_3
  try clear hfz26_4
  try clear hfz27_0
  try clear hfz27_1
  try clear hfz27_2
  try clear hfz27_3
  try clear hfz27_4
  try clear hfz29_0
  try clear hfz29_1
  try clear hfz29_2
  try clear hfz29_3
  try clear hfz29_4
  try clear hfz8_0
  try clear hfz8_1
  try clear hfz8_2
  try clear hfz8_3
  try clear hfz8_4
  obtain ⟨kq, x36_3, rfl, HA, HJ3, BK418, HB⟩ := hcut
  cases kq with
  | zero => exact absurd HA.out (by simp [headgatelaw11_ResvTwice.j0])
  | succ kj3 =>
   have H := HA.out
   clear HA
   simp only [headgatelaw11_ResvTwice.j0] at H
   by_cases c31 : x36_3 = true
   ·subst c31
    have H1 := H
    rw [if_pos rfl] at H1
    clear H
    have H := H1
    clear H1
    replace H := Option.bind_eq_some_iff.mp H
    obtain ⟨t422, A320, H⟩ := H
    try dsimp only at H
    have A32 := Aside0.mk A320
    clear A320
    obtain rfl := Option.some.inj H
    go_wp2_with (first | ((with_reducible refine gate_callee (f := 13) rfl ?_); refine goesL_ (some 37) rfl rfl Tryd.func13 (by kernel_rfl) rfl #[] rfl (by (try simp only [List.map_toArray, List.map_cons, List.map_nil]); first | done | rfl | (simp only [List.length_drop, List.length_take]; rfl)) ?_; (with_reducible refine (headgatelaw11_wakes.calls kj3  t422 _ ?side1 A32.out).mono ?_); (case side1 => first | ((refine Glob.keep HG.out ?_); (repeat (first | (with_reducible first | exact HB.out | apply below_alloc | apply pw_below_drewN | apply below_drew1 | refine below_set ?_ GE418.out) | exact HB.out)); done) | exact HG.out); rintro e w33 ⟨rfl, hb⟩; refine ⟨_, rfl, ?_⟩; have n0_ := Aside0.mk (blk_below (bk_ BK418) hb); have n1_ := Aside0.mk (below_step (hb_ HB) hb); clear BK418; clear HB; have BK418 := n0_; have HB := n1_; clear n0_ n1_; (try clear hb); (try clear hb2); (try clear hk); (try clear hi)))
    go_ret
    exact ⟨by first | rfl | (simp [errW_none, errW_some] <;> rfl) | (simp [*, errW_none, errW_some] <;> rfl) | (simp [bt, *]; done) | (unfold bt; simp [*]; done), by repeat (first | (with_reducible first | exact HB.out | apply below_alloc | apply pw_below_drewN | apply below_drew1 | refine below_set ?_ GE418.out) | exact HB.out)⟩
   replace c31 := Bool.eq_false_iff.mpr c31
   subst c31
   have H1 := H
   rw [if_neg (show ¬ (false = true) by decide)] at H1
   clear H
   have H := H1
   clear H1
   replace H := Option.bind_eq_some_iff.mp H
   obtain ⟨t423, A340, H⟩ := H
   try dsimp only at H
   have A34 := Aside0.mk A340
   clear A340
   replace H := Option.bind_eq_some_iff.mp H
   obtain ⟨t424, A350, H⟩ := H
   try dsimp only at H
   have A35 := Aside0.mk A350
   clear A350
   replace H := Option.bind_eq_some_iff.mp H
   obtain ⟨⟨t426, t429, t430, t431, t432⟩, A360, H⟩ := H
   try dsimp only at H
   have A36 := Aside0.mk A360
   clear A360
   replace H := Option.bind_eq_some_iff.mp H
   obtain ⟨⟨t433, t436, t437, t438, t439, t440, t443⟩, A370, H⟩ := H
   try dsimp only at H
   have A37 := Aside0.mk A370
   clear A370
   replace H := Option.bind_eq_some_iff.mp H
   obtain ⟨⟨t445, t448, t449, t450, t451⟩, A380, H⟩ := H
   try dsimp only at H
   have A38 := Aside0.mk A380
   clear A380
   replace H := Option.bind_eq_some_iff.mp H
   obtain ⟨⟨t452, t455, t456, t457, t458, t459, t462⟩, A390, H⟩ := H
   try dsimp only at H
   have A39 := Aside0.mk A390
   clear A390
   have HC40 := Aside0.mk H
   clear H
   have hcz41_0 : wc.cell? ⟨gb418, 0, none⟩ = some (.slice A0_0 l0_0.length c0_0) := (blk_cell BK418.out 0).trans rfl
   have hcz41_1 : wc.cell? ⟨gb418, 1, none⟩ = some (.int .i64 a0_1) := (blk_cell BK418.out 1).trans rfl
   have hcz41_2 : wc.cell? ⟨gb418, 2, none⟩ = some (.string a0_2) := (blk_cell BK418.out 2).trans rfl
   have hcz41_3 : wc.cell? ⟨gb418, 3, none⟩ = some (.int .u32 a0_3) := (blk_cell BK418.out 3).trans rfl
   have hcz41_4 : wc.cell? ⟨gb418, 4, none⟩ = some (.bool a0_4) := (blk_cell BK418.out 4).trans rfl
   have hfz41_0 := blk_frozen BK418.out 0
   have hfz41_1 := blk_frozen BK418.out 1
   have hfz41_2 := blk_frozen BK418.out 2
   have hfz41_3 := blk_frozen BK418.out 3
   have hfz41_4 := blk_frozen BK418.out 4
   try go_wp2_with (first | ((with_reducible refine gate_callee (f := 19) rfl ?_); refine goesL_ (some 41) rfl rfl Tryd.func19 (by kernel_rfl) rfl #[.agg #[.slice A0_0 l0_0.length c0_0, .int .i64 a0_1, .string a0_2, .int .u32 a0_3, .bool a0_4], .string a1] rfl (by (try simp only [List.map_toArray, List.map_cons, List.map_nil]); first | done | rfl | (simp only [List.length_drop, List.length_take]; rfl)) ?_; (with_reducible refine (headgateref11_Key.calls kj3 _ _ l0_0 a0_1 a0_2 a0_3 a0_4 a1 t423 _ ?side1 ?side2 A34.out).mono ?_); (case side1 => repeat (first | exact (Kd.C_below HR0_0.out HB.out) | (with_reducible refine Kd.C_alloc ?_ _) | (with_reducible refine Kd.C_drewN ?_ _) | (with_reducible refine Kd.C_drew ?_))); (case side2 => exact HC0_0.out); rintro e w42 ⟨rfl, hb⟩; refine ⟨_, rfl, ?_⟩; have n0_ := Aside0.mk (blk_below (bk_ BK418) hb); have n1_ := Aside0.mk (below_step (hb_ HB) hb); clear BK418; clear HB; have BK418 := n0_; have HB := n1_; clear n0_ n1_; (try clear hb); (try clear hb2); (try clear hk); (try clear hi)) | ((with_reducible refine gate_callee (f := 22) rfl ?_); refine goesL_ (some 43) rfl rfl Tryd.func22 (by kernel_rfl) rfl #[.int .i64 a2, .int .i64 6] rfl (by (try simp only [List.map_toArray, List.map_cons, List.map_nil]); first | done | rfl | (simp only [List.length_drop, List.length_take]; rfl)) ?_; (with_reducible refine (headgatekeep_Mod.calls a2 6 t424 _ A35.out).mono ?_); rintro e w' ⟨rfl, ⟨nd, rfl⟩⟩; refine ⟨_, rfl, ?_⟩; (try (rw [drewN_self w42]; generalize hq_ : World.drewN w42 _ = w42; have n0_ : Aside0 (w42.heap[gb418]? = some (.cells #[.slice A0_0 l0_0.length c0_0, .int .i64 a0_1, .string a0_2, .int .u32 a0_3, .bool a0_4] 27 (0, 0))) := ⟨by rw [← hq_]; exact (bk_ BK418)⟩; have n1_ : Aside0 (Below w.heap.size w w42) := ⟨by rw [← hq_]; exact (hb_ HB)⟩; clear BK418 HB hq_; have BK418 := n0_; have HB := n1_; clear n0_ n1_))) | ((with_reducible refine gate_dst (N := 7) rfl ?_); refine box_event ?hg (N := 7) ?hd (cs := #[.int .i64 0, .int .i64 0, .string (⟨#[]⟩ : ByteArray), .int .i64 0, .int .i64 0, .string (⟨#[]⟩ : ByteArray), .bool false, .slice none 0 0, .int .u64 0, .int .u64 0, .int .u64 0, .int .i64 0, .bool false, .int .i64 0]) (t := 31) ?hr ?_; (case hd => rfl); (case hg => rfl); (case hr => first | (go_simp; done) | (go_simp; rfl)); intro gb425 hg w43 hbox hb; have n0_ := Aside0.mk (blk_below (bk_ BK418) hb); have n1_ := Aside0.mk (below_step (hb_ HB) hb); have n2_ := Aside0.mk (hbox); have n3_ := Aside0.mk ((by rw [hg]; exact (below_size (hb_ HB)) : w.heap.size ≤ gb425)); have n4_ := Aside0.mk ((by rw [hg]; exact (below_size (hb_ HB)) : w.heap.size ≤ gb425)); have n5_ := Aside0.mk ((by rw [hg]; exact Nat.ne_of_lt (blk_lt (g := gb418) (o := .cells #[.slice A0_0 l0_0.length c0_0, .int .i64 a0_1, .string a0_2, .int .u32 a0_3, .bool a0_4] 27 (0, 0)) (bk_ BK418)) : gb418 ≠ gb425)); have n6_ := Aside0.mk ((by rw [hg]; exact Nat.ne_of_gt (blk_lt (g := gb418) (o := .cells #[.slice A0_0 l0_0.length c0_0, .int .i64 a0_1, .string a0_2, .int .u32 a0_3, .bool a0_4] 27 (0, 0)) (bk_ BK418)) : gb425 ≠ gb418)); clear BK418; clear HB; have BK418 := n0_; have HB := n1_; have BK425 := n2_; have GW425 := n3_; have GE425 := n4_; have NB418_425 := n5_; have NB425_418 := n6_; clear n0_ n1_ n2_ n3_ n4_ n5_ n6_; clear hb hbox hg; have hnb44 := NB425_418.out; have hnc44 := NB418_425.out; have hcz45_0 : w43.cell? ⟨gb425, 0, none⟩ = some (.int .i64 0) := (blk_cell BK425.out 0).trans rfl; have hcz45_1 : w43.cell? ⟨gb425, 1, none⟩ = some (.int .i64 0) := (blk_cell BK425.out 1).trans rfl; have hcz45_2 : w43.cell? ⟨gb425, 2, none⟩ = some (.string (⟨#[]⟩ : ByteArray)) := (blk_cell BK425.out 2).trans rfl; have hcz45_3 : w43.cell? ⟨gb425, 3, none⟩ = some (.int .i64 0) := (blk_cell BK425.out 3).trans rfl; have hcz45_4 : w43.cell? ⟨gb425, 4, none⟩ = some (.int .i64 0) := (blk_cell BK425.out 4).trans rfl; have hcz45_5 : w43.cell? ⟨gb425, 5, none⟩ = some (.string (⟨#[]⟩ : ByteArray)) := (blk_cell BK425.out 5).trans rfl; have hcz45_6 : w43.cell? ⟨gb425, 6, none⟩ = some (.bool false) := (blk_cell BK425.out 6).trans rfl; have hcz45_7 : w43.cell? ⟨gb425, 7, none⟩ = some (.slice none 0 0) := (blk_cell BK425.out 7).trans rfl; have hcz45_8 : w43.cell? ⟨gb425, 8, none⟩ = some (.int .u64 0) := (blk_cell BK425.out 8).trans rfl; have hcz45_9 : w43.cell? ⟨gb425, 9, none⟩ = some (.int .u64 0) := (blk_cell BK425.out 9).trans rfl; have hcz45_10 : w43.cell? ⟨gb425, 10, none⟩ = some (.int .u64 0) := (blk_cell BK425.out 10).trans rfl; have hcz45_11 : w43.cell? ⟨gb425, 11, none⟩ = some (.int .i64 0) := (blk_cell BK425.out 11).trans rfl; have hcz45_12 : w43.cell? ⟨gb425, 12, none⟩ = some (.bool false) := (blk_cell BK425.out 12).trans rfl; have hcz45_13 : w43.cell? ⟨gb425, 13, none⟩ = some (.int .i64 0) := (blk_cell BK425.out 13).trans rfl; have hfz45_0 := blk_frozen BK425.out 0; have hfz45_1 := blk_frozen BK425.out 1; have hfz45_2 := blk_frozen BK425.out 2; have hfz45_3 := blk_frozen BK425.out 3; have hfz45_4 := blk_frozen BK425.out 4; have hfz45_5 := blk_frozen BK425.out 5; have hfz45_6 := blk_frozen BK425.out 6; have hfz45_7 := blk_frozen BK425.out 7; have hfz45_8 := blk_frozen BK425.out 8; have hfz45_9 := blk_frozen BK425.out 9; have hfz45_10 := blk_frozen BK425.out 10; have hfz45_11 := blk_frozen BK425.out 11; have hfz45_12 := blk_frozen BK425.out 12; have hfz45_13 := blk_frozen BK425.out 13))
   have n0_ : Aside0 (((((((((((((((w43.setCell ⟨gb425, 0, none⟩ (.int .i64 9)).setCell ⟨gb425, 1, none⟩ (.int .i64 0)).setCell ⟨gb425, 2, none⟩ (.string a1)).setCell ⟨gb425, 3, none⟩ (.int .i64 0)).setCell ⟨gb425, 4, none⟩ (.int .i64 0)).setCell ⟨gb425, 5, none⟩ (.string (⟨#[]⟩ : ByteArray))).setCell ⟨gb425, 6, none⟩ (.bool false)).setCell ⟨gb425, 7, none⟩ (.slice none 0 0)).setCell ⟨gb425, 8, none⟩ (.int .u64 t423)).setCell ⟨gb425, 9, none⟩ (.int .u64 0)).setCell ⟨gb425, 10, none⟩ (.int .u64 0)).setCell ⟨gb425, 11, none⟩ (.int .i64 (wrap64 (1 + t424)))).setCell ⟨gb425, 12, none⟩ (.bool false)).setCell ⟨gb425, 13, none⟩ (.int .i64 0)).heap[gb418]? = some (.cells #[.slice A0_0 l0_0.length c0_0, .int .i64 a0_1, .string a0_2, .int .u32 a0_3, .bool a0_4] 27 (0, 0))) := ⟨by (with_reducible repeat (first | refine blk_drewN ?_ _ | refine blk_drew ?_ | refine blk_alloc ?_ _ | refine blk_far ?_ NB418_425.out _)); exact BK418.out⟩
   have n1_ : Aside0 (((((((((((((((w43.setCell ⟨gb425, 0, none⟩ (.int .i64 9)).setCell ⟨gb425, 1, none⟩ (.int .i64 0)).setCell ⟨gb425, 2, none⟩ (.string a1)).setCell ⟨gb425, 3, none⟩ (.int .i64 0)).setCell ⟨gb425, 4, none⟩ (.int .i64 0)).setCell ⟨gb425, 5, none⟩ (.string (⟨#[]⟩ : ByteArray))).setCell ⟨gb425, 6, none⟩ (.bool false)).setCell ⟨gb425, 7, none⟩ (.slice none 0 0)).setCell ⟨gb425, 8, none⟩ (.int .u64 t423)).setCell ⟨gb425, 9, none⟩ (.int .u64 0)).setCell ⟨gb425, 10, none⟩ (.int .u64 0)).setCell ⟨gb425, 11, none⟩ (.int .i64 (wrap64 (1 + t424)))).setCell ⟨gb425, 12, none⟩ (.bool false)).setCell ⟨gb425, 13, none⟩ (.int .i64 0)).heap[gb425]? = some (.cells #[.int .i64 9, .int .i64 0, .string a1, .int .i64 0, .int .i64 0, .string (⟨#[]⟩ : ByteArray), .bool false, .slice none 0 0, .int .u64 t423, .int .u64 0, .int .u64 0, .int .i64 (wrap64 (1 + t424)), .bool false, .int .i64 0] 31 (0, 0))) := ⟨by (with_reducible repeat (first | refine blk_drewN ?_ _ | refine blk_drew ?_ | refine blk_alloc ?_ _)); refine blk_put (cs := #[.int .i64 9, .int .i64 0, .string a1, .int .i64 0, .int .i64 0, .string (⟨#[]⟩ : ByteArray), .bool false, .slice none 0 0, .int .u64 t423, .int .u64 0, .int .u64 0, .int .i64 (wrap64 (1 + t424)), .bool false, .int .i64 0]) ?_ 13 _ rfl; (with_reducible repeat (first | refine blk_drewN ?_ _ | refine blk_drew ?_ | refine blk_alloc ?_ _)); refine blk_put (cs := #[.int .i64 9, .int .i64 0, .string a1, .int .i64 0, .int .i64 0, .string (⟨#[]⟩ : ByteArray), .bool false, .slice none 0 0, .int .u64 t423, .int .u64 0, .int .u64 0, .int .i64 (wrap64 (1 + t424)), .bool false, .int .i64 0]) ?_ 12 _ rfl; (with_reducible repeat (first | refine blk_drewN ?_ _ | refine blk_drew ?_ | refine blk_alloc ?_ _)); refine blk_put (cs := #[.int .i64 9, .int .i64 0, .string a1, .int .i64 0, .int .i64 0, .string (⟨#[]⟩ : ByteArray), .bool false, .slice none 0 0, .int .u64 t423, .int .u64 0, .int .u64 0, .int .i64 0, .bool false, .int .i64 0]) ?_ 11 _ rfl; (with_reducible repeat (first | refine blk_drewN ?_ _ | refine blk_drew ?_ | refine blk_alloc ?_ _)); refine blk_put (cs := #[.int .i64 9, .int .i64 0, .string a1, .int .i64 0, .int .i64 0, .string (⟨#[]⟩ : ByteArray), .bool false, .slice none 0 0, .int .u64 t423, .int .u64 0, .int .u64 0, .int .i64 0, .bool false, .int .i64 0]) ?_ 10 _ rfl; (with_reducible repeat (first | refine blk_drewN ?_ _ | refine blk_drew ?_ | refine blk_alloc ?_ _)); refine blk_put (cs := #[.int .i64 9, .int .i64 0, .string a1, .int .i64 0, .int .i64 0, .string (⟨#[]⟩ : ByteArray), .bool false, .slice none 0 0, .int .u64 t423, .int .u64 0, .int .u64 0, .int .i64 0, .bool false, .int .i64 0]) ?_ 9 _ rfl; (with_reducible repeat (first | refine blk_drewN ?_ _ | refine blk_drew ?_ | refine blk_alloc ?_ _)); refine blk_put (cs := #[.int .i64 9, .int .i64 0, .string a1, .int .i64 0, .int .i64 0, .string (⟨#[]⟩ : ByteArray), .bool false, .slice none 0 0, .int .u64 0, .int .u64 0, .int .u64 0, .int .i64 0, .bool false, .int .i64 0]) ?_ 8 _ rfl; (with_reducible repeat (first | refine blk_drewN ?_ _ | refine blk_drew ?_ | refine blk_alloc ?_ _)); refine blk_put (cs := #[.int .i64 9, .int .i64 0, .string a1, .int .i64 0, .int .i64 0, .string (⟨#[]⟩ : ByteArray), .bool false, .slice none 0 0, .int .u64 0, .int .u64 0, .int .u64 0, .int .i64 0, .bool false, .int .i64 0]) ?_ 7 _ rfl; (with_reducible repeat (first | refine blk_drewN ?_ _ | refine blk_drew ?_ | refine blk_alloc ?_ _)); refine blk_put (cs := #[.int .i64 9, .int .i64 0, .string a1, .int .i64 0, .int .i64 0, .string (⟨#[]⟩ : ByteArray), .bool false, .slice none 0 0, .int .u64 0, .int .u64 0, .int .u64 0, .int .i64 0, .bool false, .int .i64 0]) ?_ 6 _ rfl; (with_reducible repeat (first | refine blk_drewN ?_ _ | refine blk_drew ?_ | refine blk_alloc ?_ _)); refine blk_put (cs := #[.int .i64 9, .int .i64 0, .string a1, .int .i64 0, .int .i64 0, .string (⟨#[]⟩ : ByteArray), .bool false, .slice none 0 0, .int .u64 0, .int .u64 0, .int .u64 0, .int .i64 0, .bool false, .int .i64 0]) ?_ 5 _ rfl; (with_reducible repeat (first | refine blk_drewN ?_ _ | refine blk_drew ?_ | refine blk_alloc ?_ _)); refine blk_put (cs := #[.int .i64 9, .int .i64 0, .string a1, .int .i64 0, .int .i64 0, .string (⟨#[]⟩ : ByteArray), .bool false, .slice none 0 0, .int .u64 0, .int .u64 0, .int .u64 0, .int .i64 0, .bool false, .int .i64 0]) ?_ 4 _ rfl; (with_reducible repeat (first | refine blk_drewN ?_ _ | refine blk_drew ?_ | refine blk_alloc ?_ _)); refine blk_put (cs := #[.int .i64 9, .int .i64 0, .string a1, .int .i64 0, .int .i64 0, .string (⟨#[]⟩ : ByteArray), .bool false, .slice none 0 0, .int .u64 0, .int .u64 0, .int .u64 0, .int .i64 0, .bool false, .int .i64 0]) ?_ 3 _ rfl; (with_reducible repeat (first | refine blk_drewN ?_ _ | refine blk_drew ?_ | refine blk_alloc ?_ _)); refine blk_put (cs := #[.int .i64 9, .int .i64 0, .string (⟨#[]⟩ : ByteArray), .int .i64 0, .int .i64 0, .string (⟨#[]⟩ : ByteArray), .bool false, .slice none 0 0, .int .u64 0, .int .u64 0, .int .u64 0, .int .i64 0, .bool false, .int .i64 0]) ?_ 2 _ rfl; (with_reducible repeat (first | refine blk_drewN ?_ _ | refine blk_drew ?_ | refine blk_alloc ?_ _)); refine blk_put (cs := #[.int .i64 9, .int .i64 0, .string (⟨#[]⟩ : ByteArray), .int .i64 0, .int .i64 0, .string (⟨#[]⟩ : ByteArray), .bool false, .slice none 0 0, .int .u64 0, .int .u64 0, .int .u64 0, .int .i64 0, .bool false, .int .i64 0]) ?_ 1 _ rfl; (with_reducible repeat (first | refine blk_drewN ?_ _ | refine blk_drew ?_ | refine blk_alloc ?_ _)); refine blk_put (cs := #[.int .i64 0, .int .i64 0, .string (⟨#[]⟩ : ByteArray), .int .i64 0, .int .i64 0, .string (⟨#[]⟩ : ByteArray), .bool false, .slice none 0 0, .int .u64 0, .int .u64 0, .int .u64 0, .int .i64 0, .bool false, .int .i64 0]) ?_ 0 _ rfl; (with_reducible repeat (first | refine blk_drewN ?_ _ | refine blk_drew ?_ | refine blk_alloc ?_ _)); exact BK425.out⟩
   have n2_ : Aside0 (Below w.heap.size w ((((((((((((((w43.setCell ⟨gb425, 0, none⟩ (.int .i64 9)).setCell ⟨gb425, 1, none⟩ (.int .i64 0)).setCell ⟨gb425, 2, none⟩ (.string a1)).setCell ⟨gb425, 3, none⟩ (.int .i64 0)).setCell ⟨gb425, 4, none⟩ (.int .i64 0)).setCell ⟨gb425, 5, none⟩ (.string (⟨#[]⟩ : ByteArray))).setCell ⟨gb425, 6, none⟩ (.bool false)).setCell ⟨gb425, 7, none⟩ (.slice none 0 0)).setCell ⟨gb425, 8, none⟩ (.int .u64 t423)).setCell ⟨gb425, 9, none⟩ (.int .u64 0)).setCell ⟨gb425, 10, none⟩ (.int .u64 0)).setCell ⟨gb425, 11, none⟩ (.int .i64 (wrap64 (1 + t424)))).setCell ⟨gb425, 12, none⟩ (.bool false)).setCell ⟨gb425, 13, none⟩ (.int .i64 0))) := ⟨hb_ HB⟩
   (try clear BK418)
   (try clear BK425)
   (try clear HB)
   generalize ((((((((((((((w43.setCell ⟨gb425, 0, none⟩ (.int .i64 9)).setCell ⟨gb425, 1, none⟩ (.int .i64 0)).setCell ⟨gb425, 2, none⟩ (.string a1)).setCell ⟨gb425, 3, none⟩ (.int .i64 0)).setCell ⟨gb425, 4, none⟩ (.int .i64 0)).setCell ⟨gb425, 5, none⟩ (.string (⟨#[]⟩ : ByteArray))).setCell ⟨gb425, 6, none⟩ (.bool false)).setCell ⟨gb425, 7, none⟩ (.slice none 0 0)).setCell ⟨gb425, 8, none⟩ (.int .u64 t423)).setCell ⟨gb425, 9, none⟩ (.int .u64 0)).setCell ⟨gb425, 10, none⟩ (.int .u64 0)).setCell ⟨gb425, 11, none⟩ (.int .i64 (wrap64 (1 + t424)))).setCell ⟨gb425, 12, none⟩ (.bool false)).setCell ⟨gb425, 13, none⟩ (.int .i64 0)) = w46 at n0_ n1_ n2_ ⊢
   have BK418 := n0_
   have BK425 := n1_
   have HB := n2_
   clear n0_ n1_ n2_
   have n0_ := Aside0.mk (blk_drew BK418.out)
   have n1_ := Aside0.mk (blk_drew BK425.out)
   have n2_ := Aside0.mk (below_drew1 HB.out)
   clear BK418
   clear BK425
   clear HB
   have BK418 := n0_
   have BK425 := n1_
   have HB := n2_
   clear n0_ n1_ n2_
   refine start_ (n := 12) (S := fun w' => w'.cell? ⟨gb418, 0, none⟩ = some (.slice A0_0 l0_0.length c0_0) ∧ w'.cell? ⟨gb418, 1, none⟩ = some (.int .i64 a0_1) ∧ w'.cell? ⟨gb418, 2, none⟩ = some (.string a0_2) ∧ w'.cell? ⟨gb418, 3, none⟩ = some (.int .u32 a0_3) ∧ w'.cell? ⟨gb418, 4, none⟩ = some (.bool a0_4) ∧ w'.cell? ⟨gb425, 0, none⟩ = some (.int .i64 9) ∧ w'.cell? ⟨gb425, 1, none⟩ = some (.int .i64 0) ∧ w'.cell? ⟨gb425, 2, none⟩ = some (.string a1) ∧ w'.cell? ⟨gb425, 3, none⟩ = some (.int .i64 0) ∧ w'.cell? ⟨gb425, 4, none⟩ = some (.int .i64 0) ∧ w'.cell? ⟨gb425, 5, none⟩ = some (.string (⟨#[]⟩ : ByteArray)) ∧ w'.cell? ⟨gb425, 6, none⟩ = some (.bool false) ∧ w'.cell? ⟨gb425, 7, none⟩ = some (.slice none 0 0) ∧ w'.cell? ⟨gb425, 8, none⟩ = some (.int .u64 t423) ∧ w'.cell? ⟨gb425, 9, none⟩ = some (.int .u64 0) ∧ w'.cell? ⟨gb425, 10, none⟩ = some (.int .u64 0) ∧ w'.cell? ⟨gb425, 11, none⟩ = some (.int .i64 (wrap64 (1 + t424))) ∧ w'.cell? ⟨gb425, 12, none⟩ = some (.bool false) ∧ w'.cell? ⟨gb425, 13, none⟩ = some (.int .i64 0)) (ds := []) d7x0 (by kernel_rfl) rfl rfl ⟨(blk_cell BK418.out 0).trans rfl, (blk_cell BK418.out 1).trans rfl, (blk_cell BK418.out 2).trans rfl, (blk_cell BK418.out 3).trans rfl, (blk_cell BK418.out 4).trans rfl, (blk_cell BK425.out 0).trans rfl, (blk_cell BK425.out 1).trans rfl, (blk_cell BK425.out 2).trans rfl, (blk_cell BK425.out 3).trans rfl, (blk_cell BK425.out 4).trans rfl, (blk_cell BK425.out 5).trans rfl, (blk_cell BK425.out 6).trans rfl, (blk_cell BK425.out 7).trans rfl, (blk_cell BK425.out 8).trans rfl, (blk_cell BK425.out 9).trans rfl, (blk_cell BK425.out 10).trans rfl, (blk_cell BK425.out 11).trans rfl, (blk_cell BK425.out 12).trans rfl, (blk_cell BK425.out 13).trans rfl⟩ (fun hHeld => ?_); refine with_tabW headgatelaw11_ResvTwice.tab4 headgatelaw11_ResvTwice.bits4 (fun HT_ HW_ => ?_)
   generalize w46.drew = w47 at BK418 BK425 HB hHeld ⊢
   refine ptk_ 0 (some 47) d7x1 HT_.out HW_.out hHeld ?_
   refine ptk_ 2 (some 49) d7x2 HT_.out HW_.out hHeld ?_
   refine join_ (σ := Value × Value × Value × Nat) 3 d7x15 (fun s_ => [(48, .agg #[s_.1, .int .i64 t429, .string t430, .int .u32 t431, .bool t432]), (50, .tuple #[.agg #[s_.2.1, .int .i64 t436, .string t437, .int .u32 t438, .bool t439], s_.2.2.1, .int .i64 t443]), (8, .pointer (some ⟨s_.2.2.2, 0, none⟩)), (46, .tuple #[.agg #[s_.2.1, .int .i64 t436, .string t437, .int .u32 t438, .bool t439], s_.2.2.1, .int .i64 t443]), (51, .agg #[s_.2.1, .int .i64 t436, .string t437, .int .u32 t438, .bool t439]), (52, s_.2.2.1), (53, .int .i64 t443)]) (fun s_ w' => (w'.cell? ⟨gb418, 0, none⟩ = some (.slice A0_0 l0_0.length c0_0) ∧ w'.cell? ⟨gb418, 1, none⟩ = some (.int .i64 a0_1) ∧ w'.cell? ⟨gb418, 2, none⟩ = some (.string a0_2) ∧ w'.cell? ⟨gb418, 3, none⟩ = some (.int .u32 a0_3) ∧ w'.cell? ⟨gb418, 4, none⟩ = some (.bool a0_4) ∧ w'.cell? ⟨gb425, 0, none⟩ = some (.int .i64 9) ∧ w'.cell? ⟨gb425, 1, none⟩ = some (.int .i64 0) ∧ w'.cell? ⟨gb425, 2, none⟩ = some (.string a1) ∧ w'.cell? ⟨gb425, 3, none⟩ = some (.int .i64 0) ∧ w'.cell? ⟨gb425, 4, none⟩ = some (.int .i64 0) ∧ w'.cell? ⟨gb425, 5, none⟩ = some (.string (⟨#[]⟩ : ByteArray)) ∧ w'.cell? ⟨gb425, 6, none⟩ = some (.bool false) ∧ w'.cell? ⟨gb425, 7, none⟩ = some (.slice none 0 0) ∧ w'.cell? ⟨gb425, 8, none⟩ = some (.int .u64 t423) ∧ w'.cell? ⟨gb425, 9, none⟩ = some (.int .u64 0) ∧ w'.cell? ⟨gb425, 10, none⟩ = some (.int .u64 0) ∧ w'.cell? ⟨gb425, 11, none⟩ = some (.int .i64 (wrap64 (1 + t424))) ∧ w'.cell? ⟨gb425, 12, none⟩ = some (.bool false) ∧ w'.cell? ⟨gb425, 13, none⟩ = some (.int .i64 0)) ∧ (Kd.R k53 53 w' w.heap.size (fun _ => True) s_.1 t426) ∧ (Kd.V k53 53 w' w.heap.size (fun k_ => some k_ ≠ (s_.2.2.1 : Value).ownBlock ∧ k_ ≠ gb418 ∧ k_ ≠ gb425 ∧ k_ ≠ s_.2.2.2) s_.2.1 t433) ∧ (Kd.R k46 46 w' w.heap.size (fun _ => True) s_.2.2.1 t440) ∧ (w'.heap[gb418]? = some (.cells #[.slice A0_0 l0_0.length c0_0, .int .i64 a0_1, .string a0_2, .int .u32 a0_3, .bool a0_4] 27 (0, 0))) ∧ (w'.heap[gb425]? = some (.cells #[.int .i64 9, .int .i64 0, .string a1, .int .i64 0, .int .i64 0, .string (⟨#[]⟩ : ByteArray), .bool false, .slice none 0 0, .int .u64 t423, .int .u64 0, .int .u64 0, .int .i64 (wrap64 (1 + t424)), .bool false, .int .i64 0] 31 (0, 0))) ∧ (w'.heap[s_.2.2.2]? = some (.cells #[.slice none 0 0, .int .i64 0, .string (⟨#[]⟩ : ByteArray), .int .u32 0, .bool false] 27 (0, 0))) ∧ (w.heap.size ≤ s_.2.2.2) ∧ (w.heap.size ≤ s_.2.2.2) ∧ (gb418 ≠ s_.2.2.2) ∧ (s_.2.2.2 ≠ gb418) ∧ (gb425 ≠ s_.2.2.2) ∧ (s_.2.2.2 ≠ gb425) ∧ (Below w.heap.size w w')) ?_ ?_
   rotate_left
   ·intro hCont
    refine two_ (i := 1) (j := 8) (Ni := some 48) (Nj := some 8) d7x4 d7x3 rfl rfl rfl rfl (two_of HT_.out (by kernel_rfl)) (by decide) (by decide) (fun K hK => ?_) (fun K hK => ?_)
    ·skip
     refine goes_ Tryd.func14 (by kernel_rfl) rfl #[.agg #[.slice A0_0 l0_0.length c0_0, .int .i64 a0_1, .string a0_2, .int .u32 a0_3, .bool a0_4]] (by rfl) rfl rfl (by (try simp only [List.map_toArray, List.map_cons, List.map_nil]); first | done | rfl | (simp only [List.length_drop, List.length_take]; rfl)) ?_
     with_reducible refine (headgatekeep_CopyTable.calls _ _ l0_0 a0_1 a0_2 a0_3 a0_4 t426 t429 t430 t431 t432 _ ?side1 ?side2 A36.out).mono ?_
     (case side1 => repeat (first | exact (Kd.C_below HR0_0.out HB.out) | (with_reducible refine Kd.C_alloc ?_ _) | (with_reducible refine Kd.C_drewN ?_ _) | (with_reducible refine Kd.C_drew ?_)))
     (case side2 => exact HC0_0.out)
     rintro e w48 ⟨v427, rfl, ho0, hb⟩
     refine ⟨_, rfl, ?_⟩
     have n0_ := Aside0.mk (Kd.R_lower ho0 (below_size (hb_ HB)))
     have n1_ := Aside0.mk (blk_below (bk_ BK418) hb)
     have n2_ := Aside0.mk (blk_below (bk_ BK425) hb)
     have n3_ := Aside0.mk (below_step (hb_ HB) hb)
     clear BK418
     clear BK425
     clear HB
     have HO428 := n0_
     have BK418 := n1_
     have BK425 := n2_
     have HB := n3_
     clear n0_ n1_ n2_ n3_
     (try clear hb)
     (try clear hb2)
     (try clear hk)
     (try clear hi)
     (try clear ho0)
     obtain ⟨Ao49, co49, eo49⟩ := Kd.R_slice HO428.out
     (first | subst eo49 | (injection eo49 with f1_ f2_ f3_; have f4_ := f1_.symm; have f5_ := f3_.symm; clear f1_ f2_ f3_; subst f4_; subst f5_))
     refine hK.out _ _ ⟨(blk_cell BK418.out 0).trans rfl, (blk_cell BK418.out 1).trans rfl, (blk_cell BK418.out 2).trans rfl, (blk_cell BK418.out 3).trans rfl, (blk_cell BK418.out 4).trans rfl, (blk_cell BK425.out 0).trans rfl, (blk_cell BK425.out 1).trans rfl, (blk_cell BK425.out 2).trans rfl, (blk_cell BK425.out 3).trans rfl, (blk_cell BK425.out 4).trans rfl, (blk_cell BK425.out 5).trans rfl, (blk_cell BK425.out 6).trans rfl, (blk_cell BK425.out 7).trans rfl, (blk_cell BK425.out 8).trans rfl, (blk_cell BK425.out 9).trans rfl, (blk_cell BK425.out 10).trans rfl, (blk_cell BK425.out 11).trans rfl, (blk_cell BK425.out 12).trans rfl, (blk_cell BK425.out 13).trans rfl⟩ (fun hHeld => ?_)
     clear hK K
     refine norm_ (a' := ?_) ?_ ?_
     rotate_left
     ·show Act.put _ (some 48) _ = _
      simp only [Act.put, la_, lb_, lc_, i64_w, i32_w]
      rfl
     refine two_ (i := 3) (j := 8) (Ni := some 50) (Nj := some 8) d7x6 d7x5 rfl rfl rfl rfl (two_of HT_.out (by kernel_rfl)) (by decide) (by decide) (fun K hK => ?_) (fun K hK => ?_)
     ·skip
      refine goes_ Tryd.func15 (by kernel_rfl) rfl #[.agg #[.slice Ao49 t426.length co49, .int .i64 t429, .string t430, .int .u32 t431, .bool t432], .agg #[.int .i64 9, .int .i64 0, .string a1, .int .i64 0, .int .i64 0, .string (⟨#[]⟩ : ByteArray), .bool false, .slice none 0 0, .int .u64 t423, .int .u64 0, .int .u64 0, .int .i64 (wrap64 (1 + t424)), .bool false, .int .i64 0]] (by rfl) rfl rfl (by (try simp only [List.map_toArray, List.map_cons, List.map_nil]); first | done | rfl | (simp only [List.length_drop, List.length_take]; rfl)) ?_
      refine (resv_Do.calls kj3 (fun k_ => some k_ = (.slice Ao49 t426.length co49 : Value).ownBlock) _ _ t426 t429 t430 t431 t432 9 0 a1 0 0 (⟨#[]⟩ : ByteArray) false _ _ ([] : List (S100)) t423 0 0 (wrap64 (1 + t424)) false 0 t433 t436 t437 t438 t439 t440 t443 _ ?side1 ?side2 ?side3 ?side4 A37.out).mono ?_
      (case side1 => exact Kd.R_V (Kd.R_tight rfl (Kd.R_types (Kd.R_types (HO428.out) BK418.out (by decide)) BK425.out (by decide))))
      (case side2 => exact Kd.C_nil _ _)
      (case side3 => exact Nat.le_refl _)
      (case side4 => first | ((refine Glob.keep HG.out ?_); (repeat (first | (with_reducible first | exact HB.out | apply below_alloc | apply pw_below_drewN | apply below_drew1 | refine below_set ?_ GE418.out | refine below_set ?_ GE425.out) | exact HB.out)); done) | exact HG.out)
      rintro e w50 ⟨v434, v441, rfl, ho0, ho1, hb⟩
      refine ⟨_, rfl, ?_⟩
      have n0_ := Aside0.mk (Kd.R_below (by (with_reducible repeat (first | apply Kd.R_alloc | apply Kd.R_drewN | apply Kd.R_drew)); exact HO428.out) hb)
      have n1_ := Aside0.mk (Kd.V_lower (Kd.V_mono (ok' := fun k_ => some k_ ≠ (v441 : Value).ownBlock ∧ k_ ≠ gb418 ∧ k_ ≠ gb425) ho0 (fun k_ hk_ => ⟨hk_.2, Or.elim hk_.1 (fun hs_ => ((Kd.R_types (Kd.R_types (HO428.out) BK418.out (by decide)) BK425.out (by decide)).1 k_ hs_.symm).1.2) (fun hn_ => (Kd.freshB (g := gb418) (o := .cells #[.slice A0_0 l0_0.length c0_0, .int .i64 a0_1, .string a0_2, .int .u32 a0_3, .bool a0_4] 27 (0, 0)) (bk_ BK418) k_ hn_)), Or.elim hk_.1 (fun hs_ => ((Kd.R_types (Kd.R_types (HO428.out) BK418.out (by decide)) BK425.out (by decide)).1 k_ hs_.symm).2) (fun hn_ => (Kd.freshB (g := gb425) (o := .cells #[.int .i64 9, .int .i64 0, .string a1, .int .i64 0, .int .i64 0, .string (⟨#[]⟩ : ByteArray), .bool false, .slice none 0 0, .int .u64 t423, .int .u64 0, .int .u64 0, .int .i64 (wrap64 (1 + t424)), .bool false, .int .i64 0] 31 (0, 0)) (bk_ BK425) k_ hn_))⟩)) (below_size (hb_ HB)))
      have n2_ := Aside0.mk (Kd.R_lower (Kd.R_mono (ok' := fun k_ => True) ho1 (fun _ hk_ => trivial)) (below_size (hb_ HB)))
      have n3_ := Aside0.mk (blk_below (bk_ BK418) hb)
      have n4_ := Aside0.mk (blk_below (bk_ BK425) hb)
      have n5_ := Aside0.mk (below_step (hb_ HB) hb)
      clear HO428
      clear BK418
      clear BK425
      clear HB
      have HO428 := n0_
      have HO435 := n1_
      have HO442 := n2_
      have BK418 := n3_
      have BK425 := n4_
      have HB := n5_
      clear n0_ n1_ n2_ n3_ n4_ n5_
      (try clear hb)
      (try clear hb2)
      (try clear hk)
      (try clear hi)
      (try clear ho0)
      (try clear ho1)
      refine hK.out _ _ ⟨(blk_cell BK418.out 0).trans rfl, (blk_cell BK418.out 1).trans rfl, (blk_cell BK418.out 2).trans rfl, (blk_cell BK418.out 3).trans rfl, (blk_cell BK418.out 4).trans rfl, (blk_cell BK425.out 0).trans rfl, (blk_cell BK425.out 1).trans rfl, (blk_cell BK425.out 2).trans rfl, (blk_cell BK425.out 3).trans rfl, (blk_cell BK425.out 4).trans rfl, (blk_cell BK425.out 5).trans rfl, (blk_cell BK425.out 6).trans rfl, (blk_cell BK425.out 7).trans rfl, (blk_cell BK425.out 8).trans rfl, (blk_cell BK425.out 9).trans rfl, (blk_cell BK425.out 10).trans rfl, (blk_cell BK425.out 11).trans rfl, (blk_cell BK425.out 12).trans rfl, (blk_cell BK425.out 13).trans rfl⟩ (fun hHeld => ?_)
      clear hK K
      refine norm_ (a' := ?_) ?_ ?_
      rotate_left
      ·show Act.put _ (some 50) _ = _
       simp only [Act.put, la_, lb_, lc_, i64_w, i32_w]
       rfl
      refine pon_ 4 (some 46) d7x8 HT_.out ?_
      refine pon_ 5 (some 51) d7x10 HT_.out ?_
      refine pon_ 6 (some 52) d7x12 HT_.out ?_
      refine pon_ 7 (some 53) d7x14 HT_.out ?_
      refine one_ (i := 8) (N := some 8) d7x15 rfl rfl (one_of HT_.out (by kernel_rfl)) (by decide) (fun K hK => ?_)
      refine box_step ?hg (N := 8) ?hd (cs := #[.slice none 0 0, .int .i64 0, .string (⟨#[]⟩ : ByteArray), .int .u32 0, .bool false]) (t := 27) ?hr ?_; (case hd => rfl); (case hg => rfl); (case hr => first | (go_simp; done) | (go_simp; rfl))
      intro gb444 hg w51 hbox hb
      have n0_ := Aside0.mk (Kd.R_below (by (with_reducible repeat (first | apply Kd.R_alloc | apply Kd.R_drewN | apply Kd.R_drew)); exact HO428.out) hb)
      have n1_ := Aside0.mk (Kd.V_below (Kd.V_elderB (by (with_reducible repeat (first | apply Kd.V_alloc | apply Kd.V_drewN | apply Kd.V_drew)); exact HO435.out) gb444 (Nat.le_of_eq hg.symm)) hb)
      have n2_ := Aside0.mk (Kd.R_below (by (with_reducible repeat (first | apply Kd.R_alloc | apply Kd.R_drewN | apply Kd.R_drew)); exact HO442.out) hb)
      have n3_ := Aside0.mk (blk_below (bk_ BK418) hb)
      have n4_ := Aside0.mk (blk_below (bk_ BK425) hb)
      have n5_ := Aside0.mk (below_step (hb_ HB) hb)
      have n6_ := Aside0.mk (hbox)
      have n7_ := Aside0.mk ((by rw [hg]; exact (below_size (hb_ HB)) : w.heap.size ≤ gb444))
      have n8_ := Aside0.mk ((by rw [hg]; exact (below_size (hb_ HB)) : w.heap.size ≤ gb444))
      have n9_ := Aside0.mk ((by rw [hg]; exact Nat.ne_of_lt (blk_lt (g := gb418) (o := .cells #[.slice A0_0 l0_0.length c0_0, .int .i64 a0_1, .string a0_2, .int .u32 a0_3, .bool a0_4] 27 (0, 0)) (bk_ BK418)) : gb418 ≠ gb444))
      have n10_ := Aside0.mk ((by rw [hg]; exact Nat.ne_of_gt (blk_lt (g := gb418) (o := .cells #[.slice A0_0 l0_0.length c0_0, .int .i64 a0_1, .string a0_2, .int .u32 a0_3, .bool a0_4] 27 (0, 0)) (bk_ BK418)) : gb444 ≠ gb418))
      have n11_ := Aside0.mk ((by rw [hg]; exact Nat.ne_of_lt (blk_lt (g := gb425) (o := .cells #[.int .i64 9, .int .i64 0, .string a1, .int .i64 0, .int .i64 0, .string (⟨#[]⟩ : ByteArray), .bool false, .slice none 0 0, .int .u64 t423, .int .u64 0, .int .u64 0, .int .i64 (wrap64 (1 + t424)), .bool false, .int .i64 0] 31 (0, 0)) (bk_ BK425)) : gb425 ≠ gb444))
      have n12_ := Aside0.mk ((by rw [hg]; exact Nat.ne_of_gt (blk_lt (g := gb425) (o := .cells #[.int .i64 9, .int .i64 0, .string a1, .int .i64 0, .int .i64 0, .string (⟨#[]⟩ : ByteArray), .bool false, .slice none 0 0, .int .u64 t423, .int .u64 0, .int .u64 0, .int .i64 (wrap64 (1 + t424)), .bool false, .int .i64 0] 31 (0, 0)) (bk_ BK425)) : gb444 ≠ gb425))
      clear HO428
      clear HO435
      clear HO442
      clear BK418
      clear BK425
      clear HB
      have HO428 := n0_
      have HO435 := n1_
      have HO442 := n2_
      have BK418 := n3_
      have BK425 := n4_
      have HB := n5_
      have BK444 := n6_
      have GW444 := n7_
      have GE444 := n8_
      have NB418_444 := n9_
      have NB444_418 := n10_
      have NB425_444 := n11_
      have NB444_425 := n12_
      clear n0_ n1_ n2_ n3_ n4_ n5_ n6_ n7_ n8_ n9_ n10_ n11_ n12_
      clear hb hbox hg
      refine hK.out _ _ ⟨(blk_cell BK418.out 0).trans rfl, (blk_cell BK418.out 1).trans rfl, (blk_cell BK418.out 2).trans rfl, (blk_cell BK418.out 3).trans rfl, (blk_cell BK418.out 4).trans rfl, (blk_cell BK425.out 0).trans rfl, (blk_cell BK425.out 1).trans rfl, (blk_cell BK425.out 2).trans rfl, (blk_cell BK425.out 3).trans rfl, (blk_cell BK425.out 4).trans rfl, (blk_cell BK425.out 5).trans rfl, (blk_cell BK425.out 6).trans rfl, (blk_cell BK425.out 7).trans rfl, (blk_cell BK425.out 8).trans rfl, (blk_cell BK425.out 9).trans rfl, (blk_cell BK425.out 10).trans rfl, (blk_cell BK425.out 11).trans rfl, (blk_cell BK425.out 12).trans rfl, (blk_cell BK425.out 13).trans rfl⟩ (fun hHeld => ?_)
      clear hK K
      refine norm_ (a' := ?_) ?_ ?_
      rotate_left
      ·show Act.put _ (some 8) _ = _
       simp only [Act.put, la_, lb_, lc_, i64_w, i32_w]
       rfl
      exact norm_ (by simp only [putAll, Act.put, la_, lb_, lc_]) (hCont (.slice Ao49 t426.length co49, v434, v441, gb444) _ ⟨hHeld, (by (with_reducible repeat (first | apply Kd.R_alloc | apply Kd.R_drewN | apply Kd.R_drew)); exact HO428.out), (by (with_reducible repeat (first | apply Kd.V_alloc | apply Kd.V_drewN | apply Kd.V_drew)); exact Kd.V_mono HO435.out (fun _ hk => ⟨hk.1.1, ⟨hk.1.2.1, ⟨hk.1.2.2, hk.2⟩⟩⟩)), (by (with_reducible repeat (first | apply Kd.R_alloc | apply Kd.R_drewN | apply Kd.R_drew)); exact HO442.out), (bk_ BK418), (bk_ BK425), (bk_ BK444), GW444.out, GE444.out, NB418_444.out, NB444_418.out, NB425_444.out, NB444_425.out, (hb_ HB)⟩)
     ·skip
      refine box_step ?hg (N := 8) ?hd (cs := #[.slice none 0 0, .int .i64 0, .string (⟨#[]⟩ : ByteArray), .int .u32 0, .bool false]) (t := 27) ?hr ?_; (case hd => rfl); (case hg => rfl); (case hr => first | (go_simp; done) | (go_simp; rfl))
      intro gb444 hg w49 hbox hb
      have n0_ := Aside0.mk (Kd.R_below (by (with_reducible repeat (first | apply Kd.R_alloc | apply Kd.R_drewN | apply Kd.R_drew)); exact HO428.out) hb)
      have n1_ := Aside0.mk (blk_below (bk_ BK418) hb)
      have n2_ := Aside0.mk (blk_below (bk_ BK425) hb)
      have n3_ := Aside0.mk (below_step (hb_ HB) hb)
      have n4_ := Aside0.mk (hbox)
      have n5_ := Aside0.mk ((by rw [hg]; exact (below_size (hb_ HB)) : w.heap.size ≤ gb444))
      have n6_ := Aside0.mk ((by rw [hg]; exact (below_size (hb_ HB)) : w.heap.size ≤ gb444))
      have n7_ := Aside0.mk ((by rw [hg]; exact Nat.ne_of_lt (blk_lt (g := gb418) (o := .cells #[.slice A0_0 l0_0.length c0_0, .int .i64 a0_1, .string a0_2, .int .u32 a0_3, .bool a0_4] 27 (0, 0)) (bk_ BK418)) : gb418 ≠ gb444))
      have n8_ := Aside0.mk ((by rw [hg]; exact Nat.ne_of_gt (blk_lt (g := gb418) (o := .cells #[.slice A0_0 l0_0.length c0_0, .int .i64 a0_1, .string a0_2, .int .u32 a0_3, .bool a0_4] 27 (0, 0)) (bk_ BK418)) : gb444 ≠ gb418))
      have n9_ := Aside0.mk ((by rw [hg]; exact Nat.ne_of_lt (blk_lt (g := gb425) (o := .cells #[.int .i64 9, .int .i64 0, .string a1, .int .i64 0, .int .i64 0, .string (⟨#[]⟩ : ByteArray), .bool false, .slice none 0 0, .int .u64 t423, .int .u64 0, .int .u64 0, .int .i64 (wrap64 (1 + t424)), .bool false, .int .i64 0] 31 (0, 0)) (bk_ BK425)) : gb425 ≠ gb444))
      have n10_ := Aside0.mk ((by rw [hg]; exact Nat.ne_of_gt (blk_lt (g := gb425) (o := .cells #[.int .i64 9, .int .i64 0, .string a1, .int .i64 0, .int .i64 0, .string (⟨#[]⟩ : ByteArray), .bool false, .slice none 0 0, .int .u64 t423, .int .u64 0, .int .u64 0, .int .i64 (wrap64 (1 + t424)), .bool false, .int .i64 0] 31 (0, 0)) (bk_ BK425)) : gb444 ≠ gb425))
      clear HO428
      clear BK418
      clear BK425
      clear HB
      have HO428 := n0_
      have BK418 := n1_
      have BK425 := n2_
      have HB := n3_
      have BK444 := n4_
      have GW444 := n5_
      have GE444 := n6_
      have NB418_444 := n7_
      have NB444_418 := n8_
      have NB425_444 := n9_
      have NB444_425 := n10_
      clear n0_ n1_ n2_ n3_ n4_ n5_ n6_ n7_ n8_ n9_ n10_
      clear hb hbox hg
      obtain ⟨Ao50, co50, eo50⟩ := Kd.R_slice HO428.out
      (first | subst eo50 | (injection eo50 with f1_ f2_ f3_; have f4_ := f1_.symm; have f5_ := f3_.symm; clear f1_ f2_ f3_; subst f4_; subst f5_))
      refine hK.out _ _ ⟨(blk_cell BK418.out 0).trans rfl, (blk_cell BK418.out 1).trans rfl, (blk_cell BK418.out 2).trans rfl, (blk_cell BK418.out 3).trans rfl, (blk_cell BK418.out 4).trans rfl, (blk_cell BK425.out 0).trans rfl, (blk_cell BK425.out 1).trans rfl, (blk_cell BK425.out 2).trans rfl, (blk_cell BK425.out 3).trans rfl, (blk_cell BK425.out 4).trans rfl, (blk_cell BK425.out 5).trans rfl, (blk_cell BK425.out 6).trans rfl, (blk_cell BK425.out 7).trans rfl, (blk_cell BK425.out 8).trans rfl, (blk_cell BK425.out 9).trans rfl, (blk_cell BK425.out 10).trans rfl, (blk_cell BK425.out 11).trans rfl, (blk_cell BK425.out 12).trans rfl, (blk_cell BK425.out 13).trans rfl⟩ (fun hHeld => ?_)
      clear hK K
      refine norm_ (a' := ?_) ?_ ?_
      rotate_left
      ·show Act.put _ (some 8) _ = _
       simp only [Act.put, la_, lb_, lc_, i64_w, i32_w]
       rfl
      refine one_ (i := 3) (N := some 50) d7x7 rfl rfl (one_of HT_.out (by kernel_rfl)) (by decide) (fun K hK => ?_)
      refine goes_ Tryd.func15 (by kernel_rfl) rfl #[.agg #[.slice Ao50 t426.length co50, .int .i64 t429, .string t430, .int .u32 t431, .bool t432], .agg #[.int .i64 9, .int .i64 0, .string a1, .int .i64 0, .int .i64 0, .string (⟨#[]⟩ : ByteArray), .bool false, .slice none 0 0, .int .u64 t423, .int .u64 0, .int .u64 0, .int .i64 (wrap64 (1 + t424)), .bool false, .int .i64 0]] (by rfl) rfl rfl (by (try simp only [List.map_toArray, List.map_cons, List.map_nil]); first | done | rfl | (simp only [List.length_drop, List.length_take]; rfl)) ?_
      refine (resv_Do.calls kj3 (fun k_ => some k_ = (.slice Ao50 t426.length co50 : Value).ownBlock) _ _ t426 t429 t430 t431 t432 9 0 a1 0 0 (⟨#[]⟩ : ByteArray) false _ _ ([] : List (S100)) t423 0 0 (wrap64 (1 + t424)) false 0 t433 t436 t437 t438 t439 t440 t443 _ ?side1 ?side2 ?side3 ?side4 A37.out).mono ?_
      (case side1 => exact Kd.R_V (Kd.R_tight rfl (Kd.R_types (Kd.R_types (Kd.R_types (HO428.out) BK418.out (by decide)) BK425.out (by decide)) BK444.out (by decide))))
      (case side2 => exact Kd.C_nil _ _)
      (case side3 => exact Nat.le_refl _)
      (case side4 => first | ((refine Glob.keep HG.out ?_); (repeat (first | (with_reducible first | exact HB.out | apply below_alloc | apply pw_below_drewN | apply below_drew1 | refine below_set ?_ GE418.out | refine below_set ?_ GE425.out | refine below_set ?_ GE444.out) | exact HB.out)); done) | exact HG.out)
      rintro e w51 ⟨v434, v441, rfl, ho0, ho1, hb⟩
      refine ⟨_, rfl, ?_⟩
      have n0_ := Aside0.mk (Kd.R_below (by (with_reducible repeat (first | apply Kd.R_alloc | apply Kd.R_drewN | apply Kd.R_drew)); exact HO428.out) hb)
      have n1_ := Aside0.mk (Kd.V_lower (Kd.V_mono (ok' := fun k_ => some k_ ≠ (v441 : Value).ownBlock ∧ k_ ≠ gb418 ∧ k_ ≠ gb425 ∧ k_ ≠ gb444) ho0 (fun k_ hk_ => ⟨hk_.2, Or.elim hk_.1 (fun hs_ => ((Kd.R_types (Kd.R_types (Kd.R_types (HO428.out) BK418.out (by decide)) BK425.out (by decide)) BK444.out (by decide)).1 k_ hs_.symm).1.1.2) (fun hn_ => (Kd.freshB (g := gb418) (o := .cells #[.slice A0_0 l0_0.length c0_0, .int .i64 a0_1, .string a0_2, .int .u32 a0_3, .bool a0_4] 27 (0, 0)) (bk_ BK418) k_ hn_)), Or.elim hk_.1 (fun hs_ => ((Kd.R_types (Kd.R_types (Kd.R_types (HO428.out) BK418.out (by decide)) BK425.out (by decide)) BK444.out (by decide)).1 k_ hs_.symm).1.2) (fun hn_ => (Kd.freshB (g := gb425) (o := .cells #[.int .i64 9, .int .i64 0, .string a1, .int .i64 0, .int .i64 0, .string (⟨#[]⟩ : ByteArray), .bool false, .slice none 0 0, .int .u64 t423, .int .u64 0, .int .u64 0, .int .i64 (wrap64 (1 + t424)), .bool false, .int .i64 0] 31 (0, 0)) (bk_ BK425) k_ hn_)), Or.elim hk_.1 (fun hs_ => ((Kd.R_types (Kd.R_types (Kd.R_types (HO428.out) BK418.out (by decide)) BK425.out (by decide)) BK444.out (by decide)).1 k_ hs_.symm).2) (fun hn_ => (Kd.freshB (g := gb444) (o := .cells #[.slice none 0 0, .int .i64 0, .string (⟨#[]⟩ : ByteArray), .int .u32 0, .bool false] 27 (0, 0)) (bk_ BK444) k_ hn_))⟩)) (below_size (hb_ HB)))
      have n2_ := Aside0.mk (Kd.R_lower (Kd.R_mono (ok' := fun k_ => True) ho1 (fun _ hk_ => trivial)) (below_size (hb_ HB)))
      have n3_ := Aside0.mk (blk_below (bk_ BK418) hb)
      have n4_ := Aside0.mk (blk_below (bk_ BK425) hb)
      have n5_ := Aside0.mk (blk_below (bk_ BK444) hb)
      have n6_ := Aside0.mk (below_step (hb_ HB) hb)
      clear HO428
      clear BK418
      clear BK425
      clear BK444
      clear HB
      have HO428 := n0_
      have HO435 := n1_
      have HO442 := n2_
      have BK418 := n3_
      have BK425 := n4_
      have BK444 := n5_
      have HB := n6_
      clear n0_ n1_ n2_ n3_ n4_ n5_ n6_
      (try clear hb)
      (try clear hb2)
      (try clear hk)
      (try clear hi)
      (try clear ho0)
      (try clear ho1)
      refine hK.out _ _ ⟨(blk_cell BK418.out 0).trans rfl, (blk_cell BK418.out 1).trans rfl, (blk_cell BK418.out 2).trans rfl, (blk_cell BK418.out 3).trans rfl, (blk_cell BK418.out 4).trans rfl, (blk_cell BK425.out 0).trans rfl, (blk_cell BK425.out 1).trans rfl, (blk_cell BK425.out 2).trans rfl, (blk_cell BK425.out 3).trans rfl, (blk_cell BK425.out 4).trans rfl, (blk_cell BK425.out 5).trans rfl, (blk_cell BK425.out 6).trans rfl, (blk_cell BK425.out 7).trans rfl, (blk_cell BK425.out 8).trans rfl, (blk_cell BK425.out 9).trans rfl, (blk_cell BK425.out 10).trans rfl, (blk_cell BK425.out 11).trans rfl, (blk_cell BK425.out 12).trans rfl, (blk_cell BK425.out 13).trans rfl⟩ (fun hHeld => ?_)
      clear hK K
      refine norm_ (a' := ?_) ?_ ?_
      rotate_left
      ·show Act.put _ (some 50) _ = _
       simp only [Act.put, la_, lb_, lc_, i64_w, i32_w]
       rfl
      refine pon_ 4 (some 46) d7x9 HT_.out ?_
      refine pon_ 5 (some 51) d7x11 HT_.out ?_
      refine pon_ 6 (some 52) d7x13 HT_.out ?_
      refine pon_ 7 (some 53) d7x15 HT_.out ?_
      exact norm_ (by simp only [putAll, Act.put, la_, lb_, lc_]) (hCont (.slice Ao50 t426.length co50, v434, v441, gb444) _ ⟨hHeld, (by (with_reducible repeat (first | apply Kd.R_alloc | apply Kd.R_drewN | apply Kd.R_drew)); exact HO428.out), (by (with_reducible repeat (first | apply Kd.V_alloc | apply Kd.V_drewN | apply Kd.V_drew)); exact HO435.out), (by (with_reducible repeat (first | apply Kd.R_alloc | apply Kd.R_drewN | apply Kd.R_drew)); exact HO442.out), (bk_ BK418), (bk_ BK425), (bk_ BK444), GW444.out, GE444.out, NB418_444.out, NB444_418.out, NB425_444.out, NB444_425.out, (hb_ HB)⟩)
    ·skip
     refine box_step ?hg (N := 8) ?hd (cs := #[.slice none 0 0, .int .i64 0, .string (⟨#[]⟩ : ByteArray), .int .u32 0, .bool false]) (t := 27) ?hr ?_; (case hd => rfl); (case hg => rfl); (case hr => first | (go_simp; done) | (go_simp; rfl))
     intro gb444 hg w48 hbox hb
     have n0_ := Aside0.mk (blk_below (bk_ BK418) hb)
     have n1_ := Aside0.mk (blk_below (bk_ BK425) hb)
     have n2_ := Aside0.mk (below_step (hb_ HB) hb)
     have n3_ := Aside0.mk (hbox)
     have n4_ := Aside0.mk ((by rw [hg]; exact (below_size (hb_ HB)) : w.heap.size ≤ gb444))
     have n5_ := Aside0.mk ((by rw [hg]; exact (below_size (hb_ HB)) : w.heap.size ≤ gb444))
     have n6_ := Aside0.mk ((by rw [hg]; exact Nat.ne_of_lt (blk_lt (g := gb418) (o := .cells #[.slice A0_0 l0_0.length c0_0, .int .i64 a0_1, .string a0_2, .int .u32 a0_3, .bool a0_4] 27 (0, 0)) (bk_ BK418)) : gb418 ≠ gb444))
     have n7_ := Aside0.mk ((by rw [hg]; exact Nat.ne_of_gt (blk_lt (g := gb418) (o := .cells #[.slice A0_0 l0_0.length c0_0, .int .i64 a0_1, .string a0_2, .int .u32 a0_3, .bool a0_4] 27 (0, 0)) (bk_ BK418)) : gb444 ≠ gb418))
     have n8_ := Aside0.mk ((by rw [hg]; exact Nat.ne_of_lt (blk_lt (g := gb425) (o := .cells #[.int .i64 9, .int .i64 0, .string a1, .int .i64 0, .int .i64 0, .string (⟨#[]⟩ : ByteArray), .bool false, .slice none 0 0, .int .u64 t423, .int .u64 0, .int .u64 0, .int .i64 (wrap64 (1 + t424)), .bool false, .int .i64 0] 31 (0, 0)) (bk_ BK425)) : gb425 ≠ gb444))
     have n9_ := Aside0.mk ((by rw [hg]; exact Nat.ne_of_gt (blk_lt (g := gb425) (o := .cells #[.int .i64 9, .int .i64 0, .string a1, .int .i64 0, .int .i64 0, .string (⟨#[]⟩ : ByteArray), .bool false, .slice none 0 0, .int .u64 t423, .int .u64 0, .int .u64 0, .int .i64 (wrap64 (1 + t424)), .bool false, .int .i64 0] 31 (0, 0)) (bk_ BK425)) : gb444 ≠ gb425))
     clear BK418
     clear BK425
     clear HB
     have BK418 := n0_
     have BK425 := n1_
     have HB := n2_
     have BK444 := n3_
     have GW444 := n4_
     have GE444 := n5_
     have NB418_444 := n6_
     have NB444_418 := n7_
     have NB425_444 := n8_
     have NB444_425 := n9_
     clear n0_ n1_ n2_ n3_ n4_ n5_ n6_ n7_ n8_ n9_
     clear hb hbox hg
     refine hK.out _ _ ⟨(blk_cell BK418.out 0).trans rfl, (blk_cell BK418.out 1).trans rfl, (blk_cell BK418.out 2).trans rfl, (blk_cell BK418.out 3).trans rfl, (blk_cell BK418.out 4).trans rfl, (blk_cell BK425.out 0).trans rfl, (blk_cell BK425.out 1).trans rfl, (blk_cell BK425.out 2).trans rfl, (blk_cell BK425.out 3).trans rfl, (blk_cell BK425.out 4).trans rfl, (blk_cell BK425.out 5).trans rfl, (blk_cell BK425.out 6).trans rfl, (blk_cell BK425.out 7).trans rfl, (blk_cell BK425.out 8).trans rfl, (blk_cell BK425.out 9).trans rfl, (blk_cell BK425.out 10).trans rfl, (blk_cell BK425.out 11).trans rfl, (blk_cell BK425.out 12).trans rfl, (blk_cell BK425.out 13).trans rfl⟩ (fun hHeld => ?_)
     clear hK K
     refine norm_ (a' := ?_) ?_ ?_
     rotate_left
     ·show Act.put _ (some 8) _ = _
      simp only [Act.put, la_, lb_, lc_, i64_w, i32_w]
      rfl
     refine one_ (i := 1) (N := some 48) d7x5 rfl rfl (one_of HT_.out (by kernel_rfl)) (by decide) (fun K hK => ?_)
     refine goes_ Tryd.func14 (by kernel_rfl) rfl #[.agg #[.slice A0_0 l0_0.length c0_0, .int .i64 a0_1, .string a0_2, .int .u32 a0_3, .bool a0_4]] (by rfl) rfl rfl (by (try simp only [List.map_toArray, List.map_cons, List.map_nil]); first | done | rfl | (simp only [List.length_drop, List.length_take]; rfl)) ?_
     with_reducible refine (headgatekeep_CopyTable.calls _ _ l0_0 a0_1 a0_2 a0_3 a0_4 t426 t429 t430 t431 t432 _ ?side1 ?side2 A36.out).mono ?_
     (case side1 => repeat (first | exact (Kd.C_below HR0_0.out HB.out) | (with_reducible refine Kd.C_alloc ?_ _) | (with_reducible refine Kd.C_drewN ?_ _) | (with_reducible refine Kd.C_drew ?_)))
     (case side2 => exact HC0_0.out)
     rintro e w49 ⟨v427, rfl, ho0, hb⟩
     refine ⟨_, rfl, ?_⟩
     have n0_ := Aside0.mk (Kd.R_lower ho0 (below_size (hb_ HB)))
     have n1_ := Aside0.mk (blk_below (bk_ BK418) hb)
     have n2_ := Aside0.mk (blk_below (bk_ BK425) hb)
     have n3_ := Aside0.mk (blk_below (bk_ BK444) hb)
     have n4_ := Aside0.mk (below_step (hb_ HB) hb)
     clear BK418
     clear BK425
     clear BK444
     clear HB
     have HO428 := n0_
     have BK418 := n1_
     have BK425 := n2_
     have BK444 := n3_
     have HB := n4_
     clear n0_ n1_ n2_ n3_ n4_
     (try clear hb)
     (try clear hb2)
     (try clear hk)
     (try clear hi)
     (try clear ho0)
     obtain ⟨Ao50, co50, eo50⟩ := Kd.R_slice HO428.out
     (first | subst eo50 | (injection eo50 with f1_ f2_ f3_; have f4_ := f1_.symm; have f5_ := f3_.symm; clear f1_ f2_ f3_; subst f4_; subst f5_))
     refine hK.out _ _ ⟨(blk_cell BK418.out 0).trans rfl, (blk_cell BK418.out 1).trans rfl, (blk_cell BK418.out 2).trans rfl, (blk_cell BK418.out 3).trans rfl, (blk_cell BK418.out 4).trans rfl, (blk_cell BK425.out 0).trans rfl, (blk_cell BK425.out 1).trans rfl, (blk_cell BK425.out 2).trans rfl, (blk_cell BK425.out 3).trans rfl, (blk_cell BK425.out 4).trans rfl, (blk_cell BK425.out 5).trans rfl, (blk_cell BK425.out 6).trans rfl, (blk_cell BK425.out 7).trans rfl, (blk_cell BK425.out 8).trans rfl, (blk_cell BK425.out 9).trans rfl, (blk_cell BK425.out 10).trans rfl, (blk_cell BK425.out 11).trans rfl, (blk_cell BK425.out 12).trans rfl, (blk_cell BK425.out 13).trans rfl⟩ (fun hHeld => ?_)
     clear hK K
     refine norm_ (a' := ?_) ?_ ?_
     rotate_left
     ·show Act.put _ (some 48) _ = _
      simp only [Act.put, la_, lb_, lc_, i64_w, i32_w]
      rfl
     refine one_ (i := 3) (N := some 50) d7x7 rfl rfl (one_of HT_.out (by kernel_rfl)) (by decide) (fun K hK => ?_)
     refine goes_ Tryd.func15 (by kernel_rfl) rfl #[.agg #[.slice Ao50 t426.length co50, .int .i64 t429, .string t430, .int .u32 t431, .bool t432], .agg #[.int .i64 9, .int .i64 0, .string a1, .int .i64 0, .int .i64 0, .string (⟨#[]⟩ : ByteArray), .bool false, .slice none 0 0, .int .u64 t423, .int .u64 0, .int .u64 0, .int .i64 (wrap64 (1 + t424)), .bool false, .int .i64 0]] (by rfl) rfl rfl (by (try simp only [List.map_toArray, List.map_cons, List.map_nil]); first | done | rfl | (simp only [List.length_drop, List.length_take]; rfl)) ?_
     refine (resv_Do.calls kj3 (fun k_ => some k_ = (.slice Ao50 t426.length co50 : Value).ownBlock) _ _ t426 t429 t430 t431 t432 9 0 a1 0 0 (⟨#[]⟩ : ByteArray) false _ _ ([] : List (S100)) t423 0 0 (wrap64 (1 + t424)) false 0 t433 t436 t437 t438 t439 t440 t443 _ ?side1 ?side2 ?side3 ?side4 A37.out).mono ?_
     (case side1 => exact Kd.R_V (Kd.R_tight rfl (Kd.R_types (Kd.R_types (Kd.R_types (HO428.out) BK418.out (by decide)) BK425.out (by decide)) BK444.out (by decide))))
     (case side2 => exact Kd.C_nil _ _)
     (case side3 => exact Nat.le_refl _)
     (case side4 => first | ((refine Glob.keep HG.out ?_); (repeat (first | (with_reducible first | exact HB.out | apply below_alloc | apply pw_below_drewN | apply below_drew1 | refine below_set ?_ GE418.out | refine below_set ?_ GE425.out | refine below_set ?_ GE444.out) | exact HB.out)); done) | exact HG.out)
     rintro e w51 ⟨v434, v441, rfl, ho0, ho1, hb⟩
     refine ⟨_, rfl, ?_⟩
     have n0_ := Aside0.mk (Kd.R_below (by (with_reducible repeat (first | apply Kd.R_alloc | apply Kd.R_drewN | apply Kd.R_drew)); exact HO428.out) hb)
     have n1_ := Aside0.mk (Kd.V_lower (Kd.V_mono (ok' := fun k_ => some k_ ≠ (v441 : Value).ownBlock ∧ k_ ≠ gb418 ∧ k_ ≠ gb425 ∧ k_ ≠ gb444) ho0 (fun k_ hk_ => ⟨hk_.2, Or.elim hk_.1 (fun hs_ => ((Kd.R_types (Kd.R_types (Kd.R_types (HO428.out) BK418.out (by decide)) BK425.out (by decide)) BK444.out (by decide)).1 k_ hs_.symm).1.1.2) (fun hn_ => (Kd.freshB (g := gb418) (o := .cells #[.slice A0_0 l0_0.length c0_0, .int .i64 a0_1, .string a0_2, .int .u32 a0_3, .bool a0_4] 27 (0, 0)) (bk_ BK418) k_ hn_)), Or.elim hk_.1 (fun hs_ => ((Kd.R_types (Kd.R_types (Kd.R_types (HO428.out) BK418.out (by decide)) BK425.out (by decide)) BK444.out (by decide)).1 k_ hs_.symm).1.2) (fun hn_ => (Kd.freshB (g := gb425) (o := .cells #[.int .i64 9, .int .i64 0, .string a1, .int .i64 0, .int .i64 0, .string (⟨#[]⟩ : ByteArray), .bool false, .slice none 0 0, .int .u64 t423, .int .u64 0, .int .u64 0, .int .i64 (wrap64 (1 + t424)), .bool false, .int .i64 0] 31 (0, 0)) (bk_ BK425) k_ hn_)), Or.elim hk_.1 (fun hs_ => ((Kd.R_types (Kd.R_types (Kd.R_types (HO428.out) BK418.out (by decide)) BK425.out (by decide)) BK444.out (by decide)).1 k_ hs_.symm).2) (fun hn_ => (Kd.freshB (g := gb444) (o := .cells #[.slice none 0 0, .int .i64 0, .string (⟨#[]⟩ : ByteArray), .int .u32 0, .bool false] 27 (0, 0)) (bk_ BK444) k_ hn_))⟩)) (below_size (hb_ HB)))
     have n2_ := Aside0.mk (Kd.R_lower (Kd.R_mono (ok' := fun k_ => True) ho1 (fun _ hk_ => trivial)) (below_size (hb_ HB)))
     have n3_ := Aside0.mk (blk_below (bk_ BK418) hb)
     have n4_ := Aside0.mk (blk_below (bk_ BK425) hb)
     have n5_ := Aside0.mk (blk_below (bk_ BK444) hb)
     have n6_ := Aside0.mk (below_step (hb_ HB) hb)
     clear HO428
     clear BK418
     clear BK425
     clear BK444
     clear HB
     have HO428 := n0_
     have HO435 := n1_
     have HO442 := n2_
     have BK418 := n3_
     have BK425 := n4_
     have BK444 := n5_
     have HB := n6_
     clear n0_ n1_ n2_ n3_ n4_ n5_ n6_
     (try clear hb)
     (try clear hb2)
     (try clear hk)
     (try clear hi)
     (try clear ho0)
     (try clear ho1)
     refine hK.out _ _ ⟨(blk_cell BK418.out 0).trans rfl, (blk_cell BK418.out 1).trans rfl, (blk_cell BK418.out 2).trans rfl, (blk_cell BK418.out 3).trans rfl, (blk_cell BK418.out 4).trans rfl, (blk_cell BK425.out 0).trans rfl, (blk_cell BK425.out 1).trans rfl, (blk_cell BK425.out 2).trans rfl, (blk_cell BK425.out 3).trans rfl, (blk_cell BK425.out 4).trans rfl, (blk_cell BK425.out 5).trans rfl, (blk_cell BK425.out 6).trans rfl, (blk_cell BK425.out 7).trans rfl, (blk_cell BK425.out 8).trans rfl, (blk_cell BK425.out 9).trans rfl, (blk_cell BK425.out 10).trans rfl, (blk_cell BK425.out 11).trans rfl, (blk_cell BK425.out 12).trans rfl, (blk_cell BK425.out 13).trans rfl⟩ (fun hHeld => ?_)
     clear hK K
     refine norm_ (a' := ?_) ?_ ?_
     rotate_left
     ·show Act.put _ (some 50) _ = _
      simp only [Act.put, la_, lb_, lc_, i64_w, i32_w]
      rfl
     refine pon_ 4 (some 46) d7x9 HT_.out ?_
     refine pon_ 5 (some 51) d7x11 HT_.out ?_
     refine pon_ 6 (some 52) d7x13 HT_.out ?_
     refine pon_ 7 (some 53) d7x15 HT_.out ?_
     exact norm_ (by simp only [putAll, Act.put, la_, lb_, lc_]) (hCont (.slice Ao50 t426.length co50, v434, v441, gb444) _ ⟨hHeld, (by (with_reducible repeat (first | apply Kd.R_alloc | apply Kd.R_drewN | apply Kd.R_drew)); exact HO428.out), (by (with_reducible repeat (first | apply Kd.V_alloc | apply Kd.V_drewN | apply Kd.V_drew)); exact HO435.out), (by (with_reducible repeat (first | apply Kd.R_alloc | apply Kd.R_drewN | apply Kd.R_drew)); exact HO442.out), (bk_ BK418), (bk_ BK425), (bk_ BK444), GW444.out, GE444.out, NB418_444.out, NB444_418.out, NB425_444.out, NB444_425.out, (hb_ HB)⟩)
   rintro ⟨v427, v434, v441, gb444⟩ w52 ⟨hS_, h0_, h1_, h2_, h3_, h4_, h5_, h6_, h7_, h8_, h9_, h10_, h11_, h12_⟩
   have n0_ : Aside0 (Kd.R k53 53 w52 w.heap.size (fun _ => True) v427 t426) := ⟨h0_⟩
   have n1_ : Aside0 (Kd.V k53 53 w52 w.heap.size (fun k_ => some k_ ≠ (v441 : Value).ownBlock ∧ k_ ≠ gb418 ∧ k_ ≠ gb425 ∧ k_ ≠ gb444) v434 t433) := ⟨h1_⟩
   have n2_ : Aside0 (Kd.R k46 46 w52 w.heap.size (fun _ => True) v441 t440) := ⟨h2_⟩
   have n3_ : Aside0 (w52.heap[gb418]? = some (.cells #[.slice A0_0 l0_0.length c0_0, .int .i64 a0_1, .string a0_2, .int .u32 a0_3, .bool a0_4] 27 (0, 0))) := ⟨h3_⟩
   have n4_ : Aside0 (w52.heap[gb425]? = some (.cells #[.int .i64 9, .int .i64 0, .string a1, .int .i64 0, .int .i64 0, .string (⟨#[]⟩ : ByteArray), .bool false, .slice none 0 0, .int .u64 t423, .int .u64 0, .int .u64 0, .int .i64 (wrap64 (1 + t424)), .bool false, .int .i64 0] 31 (0, 0))) := ⟨h4_⟩
   have n5_ : Aside0 (w52.heap[gb444]? = some (.cells #[.slice none 0 0, .int .i64 0, .string (⟨#[]⟩ : ByteArray), .int .u32 0, .bool false] 27 (0, 0))) := ⟨h5_⟩
   have n6_ : Aside0 (w.heap.size ≤ gb444) := ⟨h6_⟩
   have n7_ : Aside0 (w.heap.size ≤ gb444) := ⟨h7_⟩
   have n8_ : Aside0 (gb418 ≠ gb444) := ⟨h8_⟩
   have n9_ : Aside0 (gb444 ≠ gb418) := ⟨h9_⟩
   have n10_ : Aside0 (gb425 ≠ gb444) := ⟨h10_⟩
   have n11_ : Aside0 (gb444 ≠ gb425) := ⟨h11_⟩
   have n12_ : Aside0 (Below w.heap.size w w52) := ⟨h12_⟩
   clear BK418
   clear BK425
   clear HB
   clear h0_ h1_ h2_ h3_ h4_ h5_ h6_ h7_ h8_ h9_ h10_ h11_ h12_
   have HO428 := n0_
   have HO435 := n1_
   have HO442 := n2_
   have BK418 := n3_
   have BK425 := n4_
   have BK444 := n5_
   have GW444 := n6_
   have GE444 := n7_
   have NB418_444 := n8_
   have NB444_418 := n9_
   have NB425_444 := n10_
   have NB444_425 := n11_
   have HB := n12_
   clear n0_ n1_ n2_ n3_ n4_ n5_ n6_ n7_ n8_ n9_ n10_ n11_ n12_
   have hHeld : w52.cell? ⟨gb418, 0, none⟩ = some (.slice A0_0 l0_0.length c0_0) ∧ w52.cell? ⟨gb418, 1, none⟩ = some (.int .i64 a0_1) ∧ w52.cell? ⟨gb418, 2, none⟩ = some (.string a0_2) ∧ w52.cell? ⟨gb418, 3, none⟩ = some (.int .u32 a0_3) ∧ w52.cell? ⟨gb418, 4, none⟩ = some (.bool a0_4) ∧ w52.cell? ⟨gb425, 0, none⟩ = some (.int .i64 9) ∧ w52.cell? ⟨gb425, 1, none⟩ = some (.int .i64 0) ∧ w52.cell? ⟨gb425, 2, none⟩ = some (.string a1) ∧ w52.cell? ⟨gb425, 3, none⟩ = some (.int .i64 0) ∧ w52.cell? ⟨gb425, 4, none⟩ = some (.int .i64 0) ∧ w52.cell? ⟨gb425, 5, none⟩ = some (.string (⟨#[]⟩ : ByteArray)) ∧ w52.cell? ⟨gb425, 6, none⟩ = some (.bool false) ∧ w52.cell? ⟨gb425, 7, none⟩ = some (.slice none 0 0) ∧ w52.cell? ⟨gb425, 8, none⟩ = some (.int .u64 t423) ∧ w52.cell? ⟨gb425, 9, none⟩ = some (.int .u64 0) ∧ w52.cell? ⟨gb425, 10, none⟩ = some (.int .u64 0) ∧ w52.cell? ⟨gb425, 11, none⟩ = some (.int .i64 (wrap64 (1 + t424))) ∧ w52.cell? ⟨gb425, 12, none⟩ = some (.bool false) ∧ w52.cell? ⟨gb425, 13, none⟩ = some (.int .i64 0) := hS_
   obtain ⟨Ao53, co53, eo53⟩ := Kd.V_slice HO435.out
   (first | subst eo53 | (injection eo53 with f1_ f2_ f3_; have f4_ := f1_.symm; have f5_ := f3_.symm; clear f1_ f2_ f3_; subst f4_; subst f5_))
   refine norm_ (a' := ?_) ?_ ?_
   rotate_left
   ·simp only [putAll, Act.put, la_, lb_, lc_]
    rfl
   refine one_ (i := 9) (N := none) d7x16 rfl rfl (one_of HT_.out (by kernel_rfl)) (by decide) (fun K hK => ?_)
   have hs54 : w52.cell? ⟨gb444, 0, none⟩ = some (.slice none 0 0) := (blk_cell BK444.out 0).trans rfl
   have hfs54 := blk_frozen BK444.out 0
   have hns54_0 := NB418_444.out
   have hns54_1 := NB425_444.out
   have hms54_0 := NB444_418.out
   have hms54_1 := NB444_425.out
   have hs55 : w52.cell? ⟨gb444, 1, none⟩ = some (.int .i64 0) := (blk_cell BK444.out 1).trans rfl
   have hfs55 := blk_frozen BK444.out 1
   have hns55_0 := NB418_444.out
   have hns55_1 := NB425_444.out
   have hms55_0 := NB444_418.out
   have hms55_1 := NB444_425.out
   have hs56 : w52.cell? ⟨gb444, 2, none⟩ = some (.string (⟨#[]⟩ : ByteArray)) := (blk_cell BK444.out 2).trans rfl
   have hfs56 := blk_frozen BK444.out 2
   have hns56_0 := NB418_444.out
   have hns56_1 := NB425_444.out
   have hms56_0 := NB444_418.out
   have hms56_1 := NB444_425.out
   have hs57 : w52.cell? ⟨gb444, 3, none⟩ = some (.int .u32 0) := (blk_cell BK444.out 3).trans rfl
   have hfs57 := blk_frozen BK444.out 3
   have hns57_0 := NB418_444.out
   have hns57_1 := NB425_444.out
   have hms57_0 := NB444_418.out
   have hms57_1 := NB444_425.out
   have hs58 : w52.cell? ⟨gb444, 4, none⟩ = some (.bool false) := (blk_cell BK444.out 4).trans rfl
   have hfs58 := blk_frozen BK444.out 4
   have hns58_0 := NB418_444.out
   have hns58_1 := NB425_444.out
   have hms58_0 := NB444_418.out
   have hms58_1 := NB444_425.out
   refine skip_ (w1 := ?_) (by rfl) rfl ?_ ?_
   rotate_left
   ·go_simp
    rfl
   refine hK.out _ _ ⟨((cf_ NB418_444.out).trans (((cf_ NB418_444.out).trans (((cf_ NB418_444.out).trans (((cf_ NB418_444.out).trans (((cf_ NB418_444.out).trans (hHeld.1)))))))))), ((cf_ NB418_444.out).trans (((cf_ NB418_444.out).trans (((cf_ NB418_444.out).trans (((cf_ NB418_444.out).trans (((cf_ NB418_444.out).trans (hHeld.2.1)))))))))), ((cf_ NB418_444.out).trans (((cf_ NB418_444.out).trans (((cf_ NB418_444.out).trans (((cf_ NB418_444.out).trans (((cf_ NB418_444.out).trans (hHeld.2.2.1)))))))))), ((cf_ NB418_444.out).trans (((cf_ NB418_444.out).trans (((cf_ NB418_444.out).trans (((cf_ NB418_444.out).trans (((cf_ NB418_444.out).trans (hHeld.2.2.2.1)))))))))), ((cf_ NB418_444.out).trans (((cf_ NB418_444.out).trans (((cf_ NB418_444.out).trans (((cf_ NB418_444.out).trans (((cf_ NB418_444.out).trans (hHeld.2.2.2.2.1)))))))))), ((cf_ NB425_444.out).trans (((cf_ NB425_444.out).trans (((cf_ NB425_444.out).trans (((cf_ NB425_444.out).trans (((cf_ NB425_444.out).trans (hHeld.2.2.2.2.2.1)))))))))), ((cf_ NB425_444.out).trans (((cf_ NB425_444.out).trans (((cf_ NB425_444.out).trans (((cf_ NB425_444.out).trans (((cf_ NB425_444.out).trans (hHeld.2.2.2.2.2.2.1)))))))))), ((cf_ NB425_444.out).trans (((cf_ NB425_444.out).trans (((cf_ NB425_444.out).trans (((cf_ NB425_444.out).trans (((cf_ NB425_444.out).trans (hHeld.2.2.2.2.2.2.2.1)))))))))), ((cf_ NB425_444.out).trans (((cf_ NB425_444.out).trans (((cf_ NB425_444.out).trans (((cf_ NB425_444.out).trans (((cf_ NB425_444.out).trans (hHeld.2.2.2.2.2.2.2.2.1)))))))))), ((cf_ NB425_444.out).trans (((cf_ NB425_444.out).trans (((cf_ NB425_444.out).trans (((cf_ NB425_444.out).trans (((cf_ NB425_444.out).trans (hHeld.2.2.2.2.2.2.2.2.2.1)))))))))), ((cf_ NB425_444.out).trans (((cf_ NB425_444.out).trans (((cf_ NB425_444.out).trans (((cf_ NB425_444.out).trans (((cf_ NB425_444.out).trans (hHeld.2.2.2.2.2.2.2.2.2.2.1)))))))))), ((cf_ NB425_444.out).trans (((cf_ NB425_444.out).trans (((cf_ NB425_444.out).trans (((cf_ NB425_444.out).trans (((cf_ NB425_444.out).trans (hHeld.2.2.2.2.2.2.2.2.2.2.2.1)))))))))), ((cf_ NB425_444.out).trans (((cf_ NB425_444.out).trans (((cf_ NB425_444.out).trans (((cf_ NB425_444.out).trans (((cf_ NB425_444.out).trans (hHeld.2.2.2.2.2.2.2.2.2.2.2.2.1)))))))))), ((cf_ NB425_444.out).trans (((cf_ NB425_444.out).trans (((cf_ NB425_444.out).trans (((cf_ NB425_444.out).trans (((cf_ NB425_444.out).trans (hHeld.2.2.2.2.2.2.2.2.2.2.2.2.2.1)))))))))), ((cf_ NB425_444.out).trans (((cf_ NB425_444.out).trans (((cf_ NB425_444.out).trans (((cf_ NB425_444.out).trans (((cf_ NB425_444.out).trans (hHeld.2.2.2.2.2.2.2.2.2.2.2.2.2.2.1)))))))))), ((cf_ NB425_444.out).trans (((cf_ NB425_444.out).trans (((cf_ NB425_444.out).trans (((cf_ NB425_444.out).trans (((cf_ NB425_444.out).trans (hHeld.2.2.2.2.2.2.2.2.2.2.2.2.2.2.2.1)))))))))), ((cf_ NB425_444.out).trans (((cf_ NB425_444.out).trans (((cf_ NB425_444.out).trans (((cf_ NB425_444.out).trans (((cf_ NB425_444.out).trans (hHeld.2.2.2.2.2.2.2.2.2.2.2.2.2.2.2.2.1)))))))))), ((cf_ NB425_444.out).trans (((cf_ NB425_444.out).trans (((cf_ NB425_444.out).trans (((cf_ NB425_444.out).trans (((cf_ NB425_444.out).trans (hHeld.2.2.2.2.2.2.2.2.2.2.2.2.2.2.2.2.2.1)))))))))), ((cf_ NB425_444.out).trans (((cf_ NB425_444.out).trans (((cf_ NB425_444.out).trans (((cf_ NB425_444.out).trans (((cf_ NB425_444.out).trans (hHeld.2.2.2.2.2.2.2.2.2.2.2.2.2.2.2.2.2.2))))))))))⟩ (fun hHeld => ?_)
   clear hK K
   refine pon_ 10 (some 9) d7x17 HT_.out ?_
   refine pon_ 11 (some 10) d7x18 HT_.out ?_
   refine done_ (done_of HT_.out (by kernel_rfl)) ?_
   try go_wp2
   have n0_ : Aside0 (Kd.R k53 53 (((((w52.setCell ⟨gb444, 0, none⟩ (.slice Ao53 t433.length co53)).setCell ⟨gb444, 1, none⟩ (.int .i64 t436)).setCell ⟨gb444, 2, none⟩ (.string t437)).setCell ⟨gb444, 3, none⟩ (.int .u32 t438)).setCell ⟨gb444, 4, none⟩ (.bool t439)) w.heap.size (fun _ => True) v427 t426) := ⟨by (with_reducible repeat (first | apply Kd.R_alloc | apply Kd.R_drewN | apply Kd.R_drew)); exact Kd.R_mono (Kd.R_far (p := ⟨gb444, 4, none⟩) (Kd.R_far (p := ⟨gb444, 3, none⟩) (Kd.R_far (p := ⟨gb444, 2, none⟩) (Kd.R_far (p := ⟨gb444, 1, none⟩) (Kd.R_far (p := ⟨gb444, 0, none⟩) (Kd.R_types HO428.out BK444.out (by decide)) (fun _ hk => hk.2) (.slice Ao53 t433.length co53)) (fun _ hk => hk.2) (.int .i64 t436)) (fun _ hk => hk.2) (.string t437)) (fun _ hk => hk.2) (.int .u32 t438)) (fun _ hk => hk.2) (.bool t439)) (fun _ hk => trivial)⟩
   have n1_ : Aside0 (Kd.V k53 53 (((((w52.setCell ⟨gb444, 0, none⟩ (.slice Ao53 t433.length co53)).setCell ⟨gb444, 1, none⟩ (.int .i64 t436)).setCell ⟨gb444, 2, none⟩ (.string t437)).setCell ⟨gb444, 3, none⟩ (.int .u32 t438)).setCell ⟨gb444, 4, none⟩ (.bool t439)) w.heap.size (fun k_ => some k_ ≠ (v441 : Value).ownBlock ∧ k_ ≠ gb418 ∧ k_ ≠ gb425 ∧ k_ ≠ gb444) (.slice Ao53 t433.length co53) t433) := ⟨by (with_reducible repeat (first | apply Kd.V_alloc | apply Kd.V_drewN | apply Kd.V_drew)); exact Kd.V_mono (Kd.V_far (p := ⟨gb444, 4, none⟩) (Kd.V_far (p := ⟨gb444, 3, none⟩) (Kd.V_far (p := ⟨gb444, 2, none⟩) (Kd.V_far (p := ⟨gb444, 1, none⟩) (Kd.V_far (p := ⟨gb444, 0, none⟩) (Kd.V_mono HO435.out (fun k_ hk => (⟨hk, hk.2.2.2⟩ : _ ∧ k_ ≠ gb444))) (fun _ hk => hk.2) (.slice Ao53 t433.length co53)) (fun _ hk => hk.2) (.int .i64 t436)) (fun _ hk => hk.2) (.string t437)) (fun _ hk => hk.2) (.int .u32 t438)) (fun _ hk => hk.2) (.bool t439)) (fun _ hk => ⟨hk.1.1, ⟨hk.1.2.1, ⟨hk.1.2.2.1, hk.1.2.2.2⟩⟩⟩)⟩
   have n2_ : Aside0 (Kd.R k46 46 (((((w52.setCell ⟨gb444, 0, none⟩ (.slice Ao53 t433.length co53)).setCell ⟨gb444, 1, none⟩ (.int .i64 t436)).setCell ⟨gb444, 2, none⟩ (.string t437)).setCell ⟨gb444, 3, none⟩ (.int .u32 t438)).setCell ⟨gb444, 4, none⟩ (.bool t439)) w.heap.size (fun _ => True) v441 t440) := ⟨by (with_reducible repeat (first | apply Kd.R_alloc | apply Kd.R_drewN | apply Kd.R_drew)); exact Kd.R_mono (Kd.R_far (p := ⟨gb444, 4, none⟩) (Kd.R_far (p := ⟨gb444, 3, none⟩) (Kd.R_far (p := ⟨gb444, 2, none⟩) (Kd.R_far (p := ⟨gb444, 1, none⟩) (Kd.R_far (p := ⟨gb444, 0, none⟩) (Kd.R_types HO442.out BK444.out (by decide)) (fun _ hk => hk.2) (.slice Ao53 t433.length co53)) (fun _ hk => hk.2) (.int .i64 t436)) (fun _ hk => hk.2) (.string t437)) (fun _ hk => hk.2) (.int .u32 t438)) (fun _ hk => hk.2) (.bool t439)) (fun _ hk => trivial)⟩
   have n3_ : Aside0 ((((((w52.setCell ⟨gb444, 0, none⟩ (.slice Ao53 t433.length co53)).setCell ⟨gb444, 1, none⟩ (.int .i64 t436)).setCell ⟨gb444, 2, none⟩ (.string t437)).setCell ⟨gb444, 3, none⟩ (.int .u32 t438)).setCell ⟨gb444, 4, none⟩ (.bool t439)).heap[gb418]? = some (.cells #[.slice A0_0 l0_0.length c0_0, .int .i64 a0_1, .string a0_2, .int .u32 a0_3, .bool a0_4] 27 (0, 0))) := ⟨by (with_reducible repeat (first | refine blk_drewN ?_ _ | refine blk_drew ?_ | refine blk_alloc ?_ _ | refine blk_far ?_ NB418_444.out _)); exact BK418.out⟩
   have n4_ : Aside0 ((((((w52.setCell ⟨gb444, 0, none⟩ (.slice Ao53 t433.length co53)).setCell ⟨gb444, 1, none⟩ (.int .i64 t436)).setCell ⟨gb444, 2, none⟩ (.string t437)).setCell ⟨gb444, 3, none⟩ (.int .u32 t438)).setCell ⟨gb444, 4, none⟩ (.bool t439)).heap[gb425]? = some (.cells #[.int .i64 9, .int .i64 0, .string a1, .int .i64 0, .int .i64 0, .string (⟨#[]⟩ : ByteArray), .bool false, .slice none 0 0, .int .u64 t423, .int .u64 0, .int .u64 0, .int .i64 (wrap64 (1 + t424)), .bool false, .int .i64 0] 31 (0, 0))) := ⟨by (with_reducible repeat (first | refine blk_drewN ?_ _ | refine blk_drew ?_ | refine blk_alloc ?_ _ | refine blk_far ?_ NB425_444.out _)); exact BK425.out⟩
   have n5_ : Aside0 ((((((w52.setCell ⟨gb444, 0, none⟩ (.slice Ao53 t433.length co53)).setCell ⟨gb444, 1, none⟩ (.int .i64 t436)).setCell ⟨gb444, 2, none⟩ (.string t437)).setCell ⟨gb444, 3, none⟩ (.int .u32 t438)).setCell ⟨gb444, 4, none⟩ (.bool t439)).heap[gb444]? = some (.cells #[.slice Ao53 t433.length co53, .int .i64 t436, .string t437, .int .u32 t438, .bool t439] 27 (0, 0))) := ⟨by (with_reducible repeat (first | refine blk_drewN ?_ _ | refine blk_drew ?_ | refine blk_alloc ?_ _)); refine blk_put (cs := #[.slice Ao53 t433.length co53, .int .i64 t436, .string t437, .int .u32 t438, .bool false]) ?_ 4 _ rfl; (with_reducible repeat (first | refine blk_drewN ?_ _ | refine blk_drew ?_ | refine blk_alloc ?_ _)); refine blk_put (cs := #[.slice Ao53 t433.length co53, .int .i64 t436, .string t437, .int .u32 0, .bool false]) ?_ 3 _ rfl; (with_reducible repeat (first | refine blk_drewN ?_ _ | refine blk_drew ?_ | refine blk_alloc ?_ _)); refine blk_put (cs := #[.slice Ao53 t433.length co53, .int .i64 t436, .string (⟨#[]⟩ : ByteArray), .int .u32 0, .bool false]) ?_ 2 _ rfl; (with_reducible repeat (first | refine blk_drewN ?_ _ | refine blk_drew ?_ | refine blk_alloc ?_ _)); refine blk_put (cs := #[.slice Ao53 t433.length co53, .int .i64 0, .string (⟨#[]⟩ : ByteArray), .int .u32 0, .bool false]) ?_ 1 _ rfl; (with_reducible repeat (first | refine blk_drewN ?_ _ | refine blk_drew ?_ | refine blk_alloc ?_ _)); refine blk_put (cs := #[.slice none 0 0, .int .i64 0, .string (⟨#[]⟩ : ByteArray), .int .u32 0, .bool false]) ?_ 0 _ rfl; (with_reducible repeat (first | refine blk_drewN ?_ _ | refine blk_drew ?_ | refine blk_alloc ?_ _)); exact BK444.out⟩
   have n6_ : Aside0 (Below w.heap.size w (((((w52.setCell ⟨gb444, 0, none⟩ (.slice Ao53 t433.length co53)).setCell ⟨gb444, 1, none⟩ (.int .i64 t436)).setCell ⟨gb444, 2, none⟩ (.string t437)).setCell ⟨gb444, 3, none⟩ (.int .u32 t438)).setCell ⟨gb444, 4, none⟩ (.bool t439))) := ⟨hb_ HB⟩
   (try clear HO428)
   (try clear HO435)
   (try clear HO442)
   (try clear BK418)
   (try clear BK425)
   (try clear BK444)
   (try clear HB)
   generalize (((((w52.setCell ⟨gb444, 0, none⟩ (.slice Ao53 t433.length co53)).setCell ⟨gb444, 1, none⟩ (.int .i64 t436)).setCell ⟨gb444, 2, none⟩ (.string t437)).setCell ⟨gb444, 3, none⟩ (.int .u32 t438)).setCell ⟨gb444, 4, none⟩ (.bool t439)) = w59 at n0_ n1_ n2_ n3_ n4_ n5_ n6_ ⊢
   have HO428 := n0_
   have HO435 := n1_
   have HO442 := n2_
   have BK418 := n3_
   have BK425 := n4_
   have BK444 := n5_
   have HB := n6_
   clear n0_ n1_ n2_ n3_ n4_ n5_ n6_
   have n0_ := Aside0.mk (Kd.R_drew HO428.out)
   have n1_ := Aside0.mk (Kd.V_drew HO435.out)
   have n2_ := Aside0.mk (Kd.R_drew HO442.out)
   have n3_ := Aside0.mk (blk_drew BK418.out)
   have n4_ := Aside0.mk (blk_drew BK425.out)
   have n5_ := Aside0.mk (blk_drew BK444.out)
   have n6_ := Aside0.mk (below_drew1 HB.out)
   clear HO428
   clear HO435
   clear HO442
   clear BK418
   clear BK425
   clear BK444
   clear HB
   have HO428 := n0_
   have HO435 := n1_
   have HO442 := n2_
   have BK418 := n3_
   have BK425 := n4_
   have BK444 := n5_
   have HB := n6_
   clear n0_ n1_ n2_ n3_ n4_ n5_ n6_
   refine start_ (n := 12) (S := fun w' => w'.cell? ⟨gb444, 0, none⟩ = some (.slice Ao53 t433.length co53) ∧ w'.cell? ⟨gb444, 1, none⟩ = some (.int .i64 t436) ∧ w'.cell? ⟨gb444, 2, none⟩ = some (.string t437) ∧ w'.cell? ⟨gb444, 3, none⟩ = some (.int .u32 t438) ∧ w'.cell? ⟨gb444, 4, none⟩ = some (.bool t439) ∧ w'.cell? ⟨gb425, 0, none⟩ = some (.int .i64 9) ∧ w'.cell? ⟨gb425, 1, none⟩ = some (.int .i64 0) ∧ w'.cell? ⟨gb425, 2, none⟩ = some (.string a1) ∧ w'.cell? ⟨gb425, 3, none⟩ = some (.int .i64 0) ∧ w'.cell? ⟨gb425, 4, none⟩ = some (.int .i64 0) ∧ w'.cell? ⟨gb425, 5, none⟩ = some (.string (⟨#[]⟩ : ByteArray)) ∧ w'.cell? ⟨gb425, 6, none⟩ = some (.bool false) ∧ w'.cell? ⟨gb425, 7, none⟩ = some (.slice none 0 0) ∧ w'.cell? ⟨gb425, 8, none⟩ = some (.int .u64 t423) ∧ w'.cell? ⟨gb425, 9, none⟩ = some (.int .u64 0) ∧ w'.cell? ⟨gb425, 10, none⟩ = some (.int .u64 0) ∧ w'.cell? ⟨gb425, 11, none⟩ = some (.int .i64 (wrap64 (1 + t424))) ∧ w'.cell? ⟨gb425, 12, none⟩ = some (.bool false) ∧ w'.cell? ⟨gb425, 13, none⟩ = some (.int .i64 0)) (ds := []) d7x0 (by kernel_rfl) rfl rfl ⟨(blk_cell BK444.out 0).trans rfl, (blk_cell BK444.out 1).trans rfl, (blk_cell BK444.out 2).trans rfl, (blk_cell BK444.out 3).trans rfl, (blk_cell BK444.out 4).trans rfl, (blk_cell BK425.out 0).trans rfl, (blk_cell BK425.out 1).trans rfl, (blk_cell BK425.out 2).trans rfl, (blk_cell BK425.out 3).trans rfl, (blk_cell BK425.out 4).trans rfl, (blk_cell BK425.out 5).trans rfl, (blk_cell BK425.out 6).trans rfl, (blk_cell BK425.out 7).trans rfl, (blk_cell BK425.out 8).trans rfl, (blk_cell BK425.out 9).trans rfl, (blk_cell BK425.out 10).trans rfl, (blk_cell BK425.out 11).trans rfl, (blk_cell BK425.out 12).trans rfl, (blk_cell BK425.out 13).trans rfl⟩ (fun hHeld => ?_); refine with_tabW headgatelaw11_ResvTwice.tab5 headgatelaw11_ResvTwice.bits5 (fun HT_ HW_ => ?_)
   generalize w59.drew = w60 at HO428 HO435 HO442 BK418 BK425 BK444 HB hHeld ⊢
   refine ptk_ 0 (some 55) d7x1 HT_.out HW_.out hHeld ?_
   refine ptk_ 2 (some 57) d7x2 HT_.out HW_.out hHeld ?_
   refine join_ (σ := Value × Value × Value × Nat) 3 d7x15 (fun s_ => [(56, .agg #[s_.1, .int .i64 t448, .string t449, .int .u32 t450, .bool t451]), (58, .tuple #[.agg #[s_.2.1, .int .i64 t455, .string t456, .int .u32 t457, .bool t458], s_.2.2.1, .int .i64 t462]), (11, .pointer (some ⟨s_.2.2.2, 0, none⟩)), (54, .tuple #[.agg #[s_.2.1, .int .i64 t455, .string t456, .int .u32 t457, .bool t458], s_.2.2.1, .int .i64 t462]), (59, .agg #[s_.2.1, .int .i64 t455, .string t456, .int .u32 t457, .bool t458]), (60, s_.2.2.1), (61, .int .i64 t462)]) (fun s_ w' => (w'.cell? ⟨gb444, 0, none⟩ = some (.slice Ao53 t433.length co53) ∧ w'.cell? ⟨gb444, 1, none⟩ = some (.int .i64 t436) ∧ w'.cell? ⟨gb444, 2, none⟩ = some (.string t437) ∧ w'.cell? ⟨gb444, 3, none⟩ = some (.int .u32 t438) ∧ w'.cell? ⟨gb444, 4, none⟩ = some (.bool t439) ∧ w'.cell? ⟨gb425, 0, none⟩ = some (.int .i64 9) ∧ w'.cell? ⟨gb425, 1, none⟩ = some (.int .i64 0) ∧ w'.cell? ⟨gb425, 2, none⟩ = some (.string a1) ∧ w'.cell? ⟨gb425, 3, none⟩ = some (.int .i64 0) ∧ w'.cell? ⟨gb425, 4, none⟩ = some (.int .i64 0) ∧ w'.cell? ⟨gb425, 5, none⟩ = some (.string (⟨#[]⟩ : ByteArray)) ∧ w'.cell? ⟨gb425, 6, none⟩ = some (.bool false) ∧ w'.cell? ⟨gb425, 7, none⟩ = some (.slice none 0 0) ∧ w'.cell? ⟨gb425, 8, none⟩ = some (.int .u64 t423) ∧ w'.cell? ⟨gb425, 9, none⟩ = some (.int .u64 0) ∧ w'.cell? ⟨gb425, 10, none⟩ = some (.int .u64 0) ∧ w'.cell? ⟨gb425, 11, none⟩ = some (.int .i64 (wrap64 (1 + t424))) ∧ w'.cell? ⟨gb425, 12, none⟩ = some (.bool false) ∧ w'.cell? ⟨gb425, 13, none⟩ = some (.int .i64 0)) ∧ (Kd.R k53 53 w' w.heap.size (fun k_ => some k_ ≠ (s_.1 : Value).ownBlock) v427 t426) ∧ (Kd.V k53 53 w' w.heap.size (fun k_ => some k_ ≠ (v441 : Value).ownBlock ∧ some k_ ≠ (s_.1 : Value).ownBlock ∧ some k_ ≠ (s_.2.2.1 : Value).ownBlock ∧ k_ ≠ gb418 ∧ k_ ≠ gb425 ∧ k_ ≠ gb444 ∧ k_ ≠ s_.2.2.2) (.slice Ao53 t433.length co53) t433) ∧ (Kd.R k46 46 w' w.heap.size (fun k_ => some k_ ≠ (s_.2.2.1 : Value).ownBlock) v441 t440) ∧ (Kd.R k53 53 w' w.heap.size (fun k_ => some k_ ≠ (v427 : Value).ownBlock) s_.1 t445) ∧ (Kd.V k53 53 w' w.heap.size (fun k_ => some k_ ≠ (v427 : Value).ownBlock ∧ some k_ ≠ (v441 : Value).ownBlock ∧ some k_ ≠ (s_.2.2.1 : Value).ownBlock ∧ k_ ≠ gb418 ∧ k_ ≠ gb425 ∧ k_ ≠ gb444 ∧ k_ ≠ s_.2.2.2) s_.2.1 t452) ∧ (Kd.R k46 46 w' w.heap.size (fun k_ => some k_ ≠ (v441 : Value).ownBlock) s_.2.2.1 t459) ∧ (w'.heap[gb418]? = some (.cells #[.slice A0_0 l0_0.length c0_0, .int .i64 a0_1, .string a0_2, .int .u32 a0_3, .bool a0_4] 27 (0, 0))) ∧ (w'.heap[gb425]? = some (.cells #[.int .i64 9, .int .i64 0, .string a1, .int .i64 0, .int .i64 0, .string (⟨#[]⟩ : ByteArray), .bool false, .slice none 0 0, .int .u64 t423, .int .u64 0, .int .u64 0, .int .i64 (wrap64 (1 + t424)), .bool false, .int .i64 0] 31 (0, 0))) ∧ (w'.heap[gb444]? = some (.cells #[.slice Ao53 t433.length co53, .int .i64 t436, .string t437, .int .u32 t438, .bool t439] 27 (0, 0))) ∧ (w'.heap[s_.2.2.2]? = some (.cells #[.slice none 0 0, .int .i64 0, .string (⟨#[]⟩ : ByteArray), .int .u32 0, .bool false] 27 (0, 0))) ∧ (w.heap.size ≤ s_.2.2.2) ∧ (w.heap.size ≤ s_.2.2.2) ∧ (gb418 ≠ s_.2.2.2) ∧ (s_.2.2.2 ≠ gb418) ∧ (gb425 ≠ s_.2.2.2) ∧ (s_.2.2.2 ≠ gb425) ∧ (gb444 ≠ s_.2.2.2) ∧ (s_.2.2.2 ≠ gb444) ∧ (Below w.heap.size w w')) ?_ ?_
   rotate_left
   ·intro hCont
    refine two_ (i := 1) (j := 8) (Ni := some 56) (Nj := some 11) d7x4 d7x3 rfl rfl rfl rfl (two_of HT_.out (by kernel_rfl)) (by decide) (by decide) (fun K hK => ?_) (fun K hK => ?_)
    ·skip
     refine goes_ Tryd.func14 (by kernel_rfl) rfl #[.agg #[.slice Ao53 t433.length co53, .int .i64 t436, .string t437, .int .u32 t438, .bool t439]] (by rfl) rfl rfl (by (try simp only [List.map_toArray, List.map_cons, List.map_nil]); first | done | rfl | (simp only [List.length_drop, List.length_take]; rfl)) ?_
     with_reducible refine (headgatekeep_CopyTable.calls _ _ t433 t436 t437 t438 t439 t445 t448 t449 t450 t451 _ ?side1 ?side2 A38.out).mono ?_
     (case side1 => repeat (first | exact (Kd.V_reads' HO435.out).2.2 | (with_reducible refine Kd.C_alloc ?_ _) | (with_reducible refine Kd.C_drewN ?_ _) | (with_reducible refine Kd.C_drew ?_)))
     (case side2 => exact (Kd.V_reads' HO435.out).2.1)
     rintro e w61 ⟨v446, rfl, ho0, hb⟩
     refine ⟨_, rfl, ?_⟩
     have n0_ := Aside0.mk (Kd.R_elder' (by (with_reducible repeat (first | apply Kd.R_alloc | apply Kd.R_drewN | apply Kd.R_drew)); exact HO428.out) (Kd.R_base ho0) hb)
     have n1_ := Aside0.mk (Kd.V_elder' (by (with_reducible repeat (first | apply Kd.V_alloc | apply Kd.V_drewN | apply Kd.V_drew)); exact HO435.out) (Kd.R_base ho0) hb)
     have n2_ := Aside0.mk (Kd.R_below (by (with_reducible repeat (first | apply Kd.R_alloc | apply Kd.R_drewN | apply Kd.R_drew)); exact HO442.out) hb)
     have n3_ := Aside0.mk (Kd.R_lower (Kd.R_new' ho0 (Kd.R_lt (by (with_reducible repeat (first | apply Kd.R_alloc | apply Kd.R_drewN | apply Kd.R_drew)); exact HO428.out))) (below_size (hb_ HB)))
     have n4_ := Aside0.mk (blk_below (bk_ BK418) hb)
     have n5_ := Aside0.mk (blk_below (bk_ BK425) hb)
     have n6_ := Aside0.mk (blk_below (bk_ BK444) hb)
     have n7_ := Aside0.mk (below_step (hb_ HB) hb)
     clear HO428
     clear HO435
     clear HO442
     clear BK418
     clear BK425
     clear BK444
     clear HB
     have HO428 := n0_
     have HO435 := n1_
     have HO442 := n2_
     have HO447 := n3_
     have BK418 := n4_
     have BK425 := n5_
     have BK444 := n6_
     have HB := n7_
     clear n0_ n1_ n2_ n3_ n4_ n5_ n6_ n7_
     (try clear hb)
     (try clear hb2)
     (try clear hk)
     (try clear hi)
     (try clear ho0)
     obtain ⟨Ao62, co62, eo62⟩ := Kd.R_slice HO447.out
     (first | subst eo62 | (injection eo62 with f1_ f2_ f3_; have f4_ := f1_.symm; have f5_ := f3_.symm; clear f1_ f2_ f3_; subst f4_; subst f5_))
     refine hK.out _ _ ⟨(blk_cell BK444.out 0).trans rfl, (blk_cell BK444.out 1).trans rfl, (blk_cell BK444.out 2).trans rfl, (blk_cell BK444.out 3).trans rfl, (blk_cell BK444.out 4).trans rfl, (blk_cell BK425.out 0).trans rfl, (blk_cell BK425.out 1).trans rfl, (blk_cell BK425.out 2).trans rfl, (blk_cell BK425.out 3).trans rfl, (blk_cell BK425.out 4).trans rfl, (blk_cell BK425.out 5).trans rfl, (blk_cell BK425.out 6).trans rfl, (blk_cell BK425.out 7).trans rfl, (blk_cell BK425.out 8).trans rfl, (blk_cell BK425.out 9).trans rfl, (blk_cell BK425.out 10).trans rfl, (blk_cell BK425.out 11).trans rfl, (blk_cell BK425.out 12).trans rfl, (blk_cell BK425.out 13).trans rfl⟩ (fun hHeld => ?_)
     clear hK K
     refine norm_ (a' := ?_) ?_ ?_
     rotate_left
     ·show Act.put _ (some 56) _ = _
      simp only [Act.put, la_, lb_, lc_, i64_w, i32_w]
      rfl
     refine two_ (i := 3) (j := 8) (Ni := some 58) (Nj := some 11) d7x6 d7x5 rfl rfl rfl rfl (two_of HT_.out (by kernel_rfl)) (by decide) (by decide) (fun K hK => ?_) (fun K hK => ?_)
     ·skip
      refine goes_ Tryd.func15 (by kernel_rfl) rfl #[.agg #[.slice Ao62 t445.length co62, .int .i64 t448, .string t449, .int .u32 t450, .bool t451], .agg #[.int .i64 9, .int .i64 0, .string a1, .int .i64 0, .int .i64 0, .string (⟨#[]⟩ : ByteArray), .bool false, .slice none 0 0, .int .u64 t423, .int .u64 0, .int .u64 0, .int .i64 (wrap64 (1 + t424)), .bool false, .int .i64 0]] (by rfl) rfl rfl (by (try simp only [List.map_toArray, List.map_cons, List.map_nil]); first | done | rfl | (simp only [List.length_drop, List.length_take]; rfl)) ?_
      refine (resv_Do.calls kj3 (fun k_ => some k_ = (.slice Ao62 t445.length co62 : Value).ownBlock) _ _ t445 t448 t449 t450 t451 9 0 a1 0 0 (⟨#[]⟩ : ByteArray) false _ _ ([] : List (S100)) t423 0 0 (wrap64 (1 + t424)) false 0 t452 t455 t456 t457 t458 t459 t462 _ ?side1 ?side2 ?side3 ?side4 A39.out).mono ?_
      (case side1 => exact Kd.R_V (Kd.R_tight rfl (Kd.R_types (Kd.R_types (Kd.R_types (Kd.R_apart' (HO447.out) (Kd.R_typed HO442.out) (by decide)) BK418.out (by decide)) BK425.out (by decide)) BK444.out (by decide))))
      (case side2 => exact Kd.C_nil _ _)
      (case side3 => exact Nat.le_refl _)
      (case side4 => first | ((refine Glob.keep HG.out ?_); (repeat (first | (with_reducible first | exact HB.out | apply below_alloc | apply pw_below_drewN | apply below_drew1 | refine below_set ?_ GE418.out | refine below_set ?_ GE425.out | refine below_set ?_ GE444.out) | exact HB.out)); done) | exact HG.out)
      rintro e w63 ⟨v453, v460, rfl, ho0, ho1, hb⟩
      refine ⟨_, rfl, ?_⟩
      have n0_ := Aside0.mk (Kd.R_below (by (with_reducible repeat (first | apply Kd.R_alloc | apply Kd.R_drewN | apply Kd.R_drew)); exact HO428.out) hb)
      have n1_ := Aside0.mk (Kd.V_elder' (by (with_reducible repeat (first | apply Kd.V_alloc | apply Kd.V_drewN | apply Kd.V_drew)); exact HO435.out) (Kd.R_base ho1) hb)
      have n2_ := Aside0.mk (Kd.R_elder' (by (with_reducible repeat (first | apply Kd.R_alloc | apply Kd.R_drewN | apply Kd.R_drew)); exact HO442.out) (Kd.R_base ho1) hb)
      have n3_ := Aside0.mk (Kd.R_below (by (with_reducible repeat (first | apply Kd.R_alloc | apply Kd.R_drewN | apply Kd.R_drew)); exact HO447.out) hb)
      have n4_ := Aside0.mk (Kd.V_lower (Kd.V_mono (ok' := fun k_ => some k_ ≠ (v460 : Value).ownBlock ∧ some k_ ≠ (v427 : Value).ownBlock ∧ some k_ ≠ (v441 : Value).ownBlock ∧ k_ ≠ gb418 ∧ k_ ≠ gb425 ∧ k_ ≠ gb444) ho0 (fun k_ hk_ => ⟨hk_.2, Or.elim hk_.1 (fun hs_ => ((Kd.R_types (Kd.R_types (Kd.R_types (Kd.R_apart' (HO447.out) (Kd.R_typed HO442.out) (by decide)) BK418.out (by decide)) BK425.out (by decide)) BK444.out (by decide)).1 k_ hs_.symm).1.1.1.1.2) (fun hn_ => (Kd.fresh' (Kd.R_lt (by (with_reducible repeat (first | apply Kd.R_alloc | apply Kd.R_drewN | apply Kd.R_drew)); exact HO428.out)) k_ hn_)), Or.elim hk_.1 (fun hs_ => ((Kd.R_types (Kd.R_types (Kd.R_types (Kd.R_apart' (HO447.out) (Kd.R_typed HO442.out) (by decide)) BK418.out (by decide)) BK425.out (by decide)) BK444.out (by decide)).1 k_ hs_.symm).1.1.1.2) (fun hn_ => (Kd.fresh' (Kd.R_lt (by (with_reducible repeat (first | apply Kd.R_alloc | apply Kd.R_drewN | apply Kd.R_drew)); exact HO442.out)) k_ hn_)), Or.elim hk_.1 (fun hs_ => ((Kd.R_types (Kd.R_types (Kd.R_types (Kd.R_apart' (HO447.out) (Kd.R_typed HO442.out) (by decide)) BK418.out (by decide)) BK425.out (by decide)) BK444.out (by decide)).1 k_ hs_.symm).1.1.2) (fun hn_ => (Kd.freshB (g := gb418) (o := .cells #[.slice A0_0 l0_0.length c0_0, .int .i64 a0_1, .string a0_2, .int .u32 a0_3, .bool a0_4] 27 (0, 0)) (bk_ BK418) k_ hn_)), Or.elim hk_.1 (fun hs_ => ((Kd.R_types (Kd.R_types (Kd.R_types (Kd.R_apart' (HO447.out) (Kd.R_typed HO442.out) (by decide)) BK418.out (by decide)) BK425.out (by decide)) BK444.out (by decide)).1 k_ hs_.symm).1.2) (fun hn_ => (Kd.freshB (g := gb425) (o := .cells #[.int .i64 9, .int .i64 0, .string a1, .int .i64 0, .int .i64 0, .string (⟨#[]⟩ : ByteArray), .bool false, .slice none 0 0, .int .u64 t423, .int .u64 0, .int .u64 0, .int .i64 (wrap64 (1 + t424)), .bool false, .int .i64 0] 31 (0, 0)) (bk_ BK425) k_ hn_)), Or.elim hk_.1 (fun hs_ => ((Kd.R_types (Kd.R_types (Kd.R_types (Kd.R_apart' (HO447.out) (Kd.R_typed HO442.out) (by decide)) BK418.out (by decide)) BK425.out (by decide)) BK444.out (by decide)).1 k_ hs_.symm).2) (fun hn_ => (Kd.freshB (g := gb444) (o := .cells #[.slice Ao53 t433.length co53, .int .i64 t436, .string t437, .int .u32 t438, .bool t439] 27 (0, 0)) (bk_ BK444) k_ hn_))⟩)) (below_size (hb_ HB)))
      have n5_ := Aside0.mk (Kd.R_lower (Kd.R_new' (Kd.R_mono (ok' := fun k_ => True) ho1 (fun _ hk_ => trivial)) (Kd.R_lt (by (with_reducible repeat (first | apply Kd.R_alloc | apply Kd.R_drewN | apply Kd.R_drew)); exact HO442.out))) (below_size (hb_ HB)))
      have n6_ := Aside0.mk (blk_below (bk_ BK418) hb)
      have n7_ := Aside0.mk (blk_below (bk_ BK425) hb)
      have n8_ := Aside0.mk (blk_below (bk_ BK444) hb)
      have n9_ := Aside0.mk (below_step (hb_ HB) hb)
      clear HO428
      clear HO435
      clear HO442
      clear HO447
      clear BK418
      clear BK425
      clear BK444
      clear HB
      have HO428 := n0_
      have HO435 := n1_
      have HO442 := n2_
      have HO447 := n3_
      have HO454 := n4_
      have HO461 := n5_
      have BK418 := n6_
      have BK425 := n7_
      have BK444 := n8_
      have HB := n9_
      clear n0_ n1_ n2_ n3_ n4_ n5_ n6_ n7_ n8_ n9_
      (try clear hb)
      (try clear hb2)
      (try clear hk)
      (try clear hi)
      (try clear ho0)
      (try clear ho1)
      refine hK.out _ _ ⟨(blk_cell BK444.out 0).trans rfl, (blk_cell BK444.out 1).trans rfl, (blk_cell BK444.out 2).trans rfl, (blk_cell BK444.out 3).trans rfl, (blk_cell BK444.out 4).trans rfl, (blk_cell BK425.out 0).trans rfl, (blk_cell BK425.out 1).trans rfl, (blk_cell BK425.out 2).trans rfl, (blk_cell BK425.out 3).trans rfl, (blk_cell BK425.out 4).trans rfl, (blk_cell BK425.out 5).trans rfl, (blk_cell BK425.out 6).trans rfl, (blk_cell BK425.out 7).trans rfl, (blk_cell BK425.out 8).trans rfl, (blk_cell BK425.out 9).trans rfl, (blk_cell BK425.out 10).trans rfl, (blk_cell BK425.out 11).trans rfl, (blk_cell BK425.out 12).trans rfl, (blk_cell BK425.out 13).trans rfl⟩ (fun hHeld => ?_)
      clear hK K
      refine norm_ (a' := ?_) ?_ ?_
      rotate_left
      ·show Act.put _ (some 58) _ = _
       simp only [Act.put, la_, lb_, lc_, i64_w, i32_w]
       rfl
      refine pon_ 4 (some 54) d7x8 HT_.out ?_
      refine pon_ 5 (some 59) d7x10 HT_.out ?_
      refine pon_ 6 (some 60) d7x12 HT_.out ?_
      refine pon_ 7 (some 61) d7x14 HT_.out ?_
      refine one_ (i := 8) (N := some 11) d7x15 rfl rfl (one_of HT_.out (by kernel_rfl)) (by decide) (fun K hK => ?_)
      refine box_step ?hg (N := 11) ?hd (cs := #[.slice none 0 0, .int .i64 0, .string (⟨#[]⟩ : ByteArray), .int .u32 0, .bool false]) (t := 27) ?hr ?_; (case hd => rfl); (case hg => rfl); (case hr => first | (go_simp; done) | (go_simp; rfl))
      intro gb463 hg w64 hbox hb
      have n0_ := Aside0.mk (Kd.R_below (by (with_reducible repeat (first | apply Kd.R_alloc | apply Kd.R_drewN | apply Kd.R_drew)); exact HO428.out) hb)
      have n1_ := Aside0.mk (Kd.V_below (Kd.V_elderB (by (with_reducible repeat (first | apply Kd.V_alloc | apply Kd.V_drewN | apply Kd.V_drew)); exact HO435.out) gb463 (Nat.le_of_eq hg.symm)) hb)
      have n2_ := Aside0.mk (Kd.R_below (by (with_reducible repeat (first | apply Kd.R_alloc | apply Kd.R_drewN | apply Kd.R_drew)); exact HO442.out) hb)
      have n3_ := Aside0.mk (Kd.R_below (by (with_reducible repeat (first | apply Kd.R_alloc | apply Kd.R_drewN | apply Kd.R_drew)); exact HO447.out) hb)
      have n4_ := Aside0.mk (Kd.V_below (Kd.V_elderB (by (with_reducible repeat (first | apply Kd.V_alloc | apply Kd.V_drewN | apply Kd.V_drew)); exact HO454.out) gb463 (Nat.le_of_eq hg.symm)) hb)
      have n5_ := Aside0.mk (Kd.R_below (by (with_reducible repeat (first | apply Kd.R_alloc | apply Kd.R_drewN | apply Kd.R_drew)); exact HO461.out) hb)
      have n6_ := Aside0.mk (blk_below (bk_ BK418) hb)
      have n7_ := Aside0.mk (blk_below (bk_ BK425) hb)
      have n8_ := Aside0.mk (blk_below (bk_ BK444) hb)
      have n9_ := Aside0.mk (below_step (hb_ HB) hb)
      have n10_ := Aside0.mk (hbox)
      have n11_ := Aside0.mk ((by rw [hg]; exact (below_size (hb_ HB)) : w.heap.size ≤ gb463))
      have n12_ := Aside0.mk ((by rw [hg]; exact (below_size (hb_ HB)) : w.heap.size ≤ gb463))
      have n13_ := Aside0.mk ((by rw [hg]; exact Nat.ne_of_lt (blk_lt (g := gb418) (o := .cells #[.slice A0_0 l0_0.length c0_0, .int .i64 a0_1, .string a0_2, .int .u32 a0_3, .bool a0_4] 27 (0, 0)) (bk_ BK418)) : gb418 ≠ gb463))
      have n14_ := Aside0.mk ((by rw [hg]; exact Nat.ne_of_gt (blk_lt (g := gb418) (o := .cells #[.slice A0_0 l0_0.length c0_0, .int .i64 a0_1, .string a0_2, .int .u32 a0_3, .bool a0_4] 27 (0, 0)) (bk_ BK418)) : gb463 ≠ gb418))
      have n15_ := Aside0.mk ((by rw [hg]; exact Nat.ne_of_lt (blk_lt (g := gb425) (o := .cells #[.int .i64 9, .int .i64 0, .string a1, .int .i64 0, .int .i64 0, .string (⟨#[]⟩ : ByteArray), .bool false, .slice none 0 0, .int .u64 t423, .int .u64 0, .int .u64 0, .int .i64 (wrap64 (1 + t424)), .bool false, .int .i64 0] 31 (0, 0)) (bk_ BK425)) : gb425 ≠ gb463))
      have n16_ := Aside0.mk ((by rw [hg]; exact Nat.ne_of_gt (blk_lt (g := gb425) (o := .cells #[.int .i64 9, .int .i64 0, .string a1, .int .i64 0, .int .i64 0, .string (⟨#[]⟩ : ByteArray), .bool false, .slice none 0 0, .int .u64 t423, .int .u64 0, .int .u64 0, .int .i64 (wrap64 (1 + t424)), .bool false, .int .i64 0] 31 (0, 0)) (bk_ BK425)) : gb463 ≠ gb425))
      have n17_ := Aside0.mk ((by rw [hg]; exact Nat.ne_of_lt (blk_lt (g := gb444) (o := .cells #[.slice Ao53 t433.length co53, .int .i64 t436, .string t437, .int .u32 t438, .bool t439] 27 (0, 0)) (bk_ BK444)) : gb444 ≠ gb463))
      have n18_ := Aside0.mk ((by rw [hg]; exact Nat.ne_of_gt (blk_lt (g := gb444) (o := .cells #[.slice Ao53 t433.length co53, .int .i64 t436, .string t437, .int .u32 t438, .bool t439] 27 (0, 0)) (bk_ BK444)) : gb463 ≠ gb444))
      clear HO428
      clear HO435
      clear HO442
      clear HO447
      clear HO454
      clear HO461
      clear BK418
      clear BK425
      clear BK444
      clear HB
      have HO428 := n0_
      have HO435 := n1_
      have HO442 := n2_
      have HO447 := n3_
      have HO454 := n4_
      have HO461 := n5_
      have BK418 := n6_
      have BK425 := n7_
      have BK444 := n8_
      have HB := n9_
      have BK463 := n10_
      have GW463 := n11_
      have GE463 := n12_
      have NB418_463 := n13_
      have NB463_418 := n14_
      have NB425_463 := n15_
      have NB463_425 := n16_
      have NB444_463 := n17_
      have NB463_444 := n18_
      clear n0_ n1_ n2_ n3_ n4_ n5_ n6_ n7_ n8_ n9_ n10_ n11_ n12_ n13_ n14_ n15_ n16_ n17_ n18_
      clear hb hbox hg
      refine hK.out _ _ ⟨(blk_cell BK444.out 0).trans rfl, (blk_cell BK444.out 1).trans rfl, (blk_cell BK444.out 2).trans rfl, (blk_cell BK444.out 3).trans rfl, (blk_cell BK444.out 4).trans rfl, (blk_cell BK425.out 0).trans rfl, (blk_cell BK425.out 1).trans rfl, (blk_cell BK425.out 2).trans rfl, (blk_cell BK425.out 3).trans rfl, (blk_cell BK425.out 4).trans rfl, (blk_cell BK425.out 5).trans rfl, (blk_cell BK425.out 6).trans rfl, (blk_cell BK425.out 7).trans rfl, (blk_cell BK425.out 8).trans rfl, (blk_cell BK425.out 9).trans rfl, (blk_cell BK425.out 10).trans rfl, (blk_cell BK425.out 11).trans rfl, (blk_cell BK425.out 12).trans rfl, (blk_cell BK425.out 13).trans rfl⟩ (fun hHeld => ?_)
      clear hK K
      refine norm_ (a' := ?_) ?_ ?_
      rotate_left
      ·show Act.put _ (some 11) _ = _
       simp only [Act.put, la_, lb_, lc_, i64_w, i32_w]
       rfl
      exact norm_ (by simp only [putAll, Act.put, la_, lb_, lc_]) (hCont (.slice Ao62 t445.length co62, v453, v460, gb463) _ ⟨hHeld, (by (with_reducible repeat (first | apply Kd.R_alloc | apply Kd.R_drewN | apply Kd.R_drew)); exact Kd.R_mono HO428.out (fun _ hk => hk.2)), (by (with_reducible repeat (first | apply Kd.V_alloc | apply Kd.V_drewN | apply Kd.V_drew)); exact Kd.V_mono HO435.out (fun _ hk => ⟨hk.1.1.1.1, ⟨hk.1.1.2, ⟨hk.1.2, ⟨hk.1.1.1.2.1, ⟨hk.1.1.1.2.2.1, ⟨hk.1.1.1.2.2.2, hk.2⟩⟩⟩⟩⟩⟩)), (by (with_reducible repeat (first | apply Kd.R_alloc | apply Kd.R_drewN | apply Kd.R_drew)); exact Kd.R_mono HO442.out (fun _ hk => hk.2)), (by (with_reducible repeat (first | apply Kd.R_alloc | apply Kd.R_drewN | apply Kd.R_drew)); exact Kd.R_mono HO447.out (fun _ hk => hk.2)), (by (with_reducible repeat (first | apply Kd.V_alloc | apply Kd.V_drewN | apply Kd.V_drew)); exact Kd.V_mono HO454.out (fun _ hk => ⟨hk.1.2.1, ⟨hk.1.2.2.1, ⟨hk.1.1, ⟨hk.1.2.2.2.1, ⟨hk.1.2.2.2.2.1, ⟨hk.1.2.2.2.2.2, hk.2⟩⟩⟩⟩⟩⟩)), (by (with_reducible repeat (first | apply Kd.R_alloc | apply Kd.R_drewN | apply Kd.R_drew)); exact Kd.R_mono HO461.out (fun _ hk => hk.2)), (bk_ BK418), (bk_ BK425), (bk_ BK444), (bk_ BK463), GW463.out, GE463.out, NB418_463.out, NB463_418.out, NB425_463.out, NB463_425.out, NB444_463.out, NB463_444.out, (hb_ HB)⟩)
     ·skip
      refine box_step ?hg (N := 11) ?hd (cs := #[.slice none 0 0, .int .i64 0, .string (⟨#[]⟩ : ByteArray), .int .u32 0, .bool false]) (t := 27) ?hr ?_; (case hd => rfl); (case hg => rfl); (case hr => first | (go_simp; done) | (go_simp; rfl))
      intro gb463 hg w62 hbox hb
      have n0_ := Aside0.mk (Kd.R_below (by (with_reducible repeat (first | apply Kd.R_alloc | apply Kd.R_drewN | apply Kd.R_drew)); exact HO428.out) hb)
      have n1_ := Aside0.mk (Kd.V_below (Kd.V_elderB (by (with_reducible repeat (first | apply Kd.V_alloc | apply Kd.V_drewN | apply Kd.V_drew)); exact HO435.out) gb463 (Nat.le_of_eq hg.symm)) hb)
      have n2_ := Aside0.mk (Kd.R_below (by (with_reducible repeat (first | apply Kd.R_alloc | apply Kd.R_drewN | apply Kd.R_drew)); exact HO442.out) hb)
      have n3_ := Aside0.mk (Kd.R_below (by (with_reducible repeat (first | apply Kd.R_alloc | apply Kd.R_drewN | apply Kd.R_drew)); exact HO447.out) hb)
      have n4_ := Aside0.mk (blk_below (bk_ BK418) hb)
      have n5_ := Aside0.mk (blk_below (bk_ BK425) hb)
      have n6_ := Aside0.mk (blk_below (bk_ BK444) hb)
      have n7_ := Aside0.mk (below_step (hb_ HB) hb)
      have n8_ := Aside0.mk (hbox)
      have n9_ := Aside0.mk ((by rw [hg]; exact (below_size (hb_ HB)) : w.heap.size ≤ gb463))
      have n10_ := Aside0.mk ((by rw [hg]; exact (below_size (hb_ HB)) : w.heap.size ≤ gb463))
      have n11_ := Aside0.mk ((by rw [hg]; exact Nat.ne_of_lt (blk_lt (g := gb418) (o := .cells #[.slice A0_0 l0_0.length c0_0, .int .i64 a0_1, .string a0_2, .int .u32 a0_3, .bool a0_4] 27 (0, 0)) (bk_ BK418)) : gb418 ≠ gb463))
      have n12_ := Aside0.mk ((by rw [hg]; exact Nat.ne_of_gt (blk_lt (g := gb418) (o := .cells #[.slice A0_0 l0_0.length c0_0, .int .i64 a0_1, .string a0_2, .int .u32 a0_3, .bool a0_4] 27 (0, 0)) (bk_ BK418)) : gb463 ≠ gb418))
      have n13_ := Aside0.mk ((by rw [hg]; exact Nat.ne_of_lt (blk_lt (g := gb425) (o := .cells #[.int .i64 9, .int .i64 0, .string a1, .int .i64 0, .int .i64 0, .string (⟨#[]⟩ : ByteArray), .bool false, .slice none 0 0, .int .u64 t423, .int .u64 0, .int .u64 0, .int .i64 (wrap64 (1 + t424)), .bool false, .int .i64 0] 31 (0, 0)) (bk_ BK425)) : gb425 ≠ gb463))
      have n14_ := Aside0.mk ((by rw [hg]; exact Nat.ne_of_gt (blk_lt (g := gb425) (o := .cells #[.int .i64 9, .int .i64 0, .string a1, .int .i64 0, .int .i64 0, .string (⟨#[]⟩ : ByteArray), .bool false, .slice none 0 0, .int .u64 t423, .int .u64 0, .int .u64 0, .int .i64 (wrap64 (1 + t424)), .bool false, .int .i64 0] 31 (0, 0)) (bk_ BK425)) : gb463 ≠ gb425))
      have n15_ := Aside0.mk ((by rw [hg]; exact Nat.ne_of_lt (blk_lt (g := gb444) (o := .cells #[.slice Ao53 t433.length co53, .int .i64 t436, .string t437, .int .u32 t438, .bool t439] 27 (0, 0)) (bk_ BK444)) : gb444 ≠ gb463))
      have n16_ := Aside0.mk ((by rw [hg]; exact Nat.ne_of_gt (blk_lt (g := gb444) (o := .cells #[.slice Ao53 t433.length co53, .int .i64 t436, .string t437, .int .u32 t438, .bool t439] 27 (0, 0)) (bk_ BK444)) : gb463 ≠ gb444))
      clear HO428
      clear HO435
      clear HO442
      clear HO447
      clear BK418
      clear BK425
      clear BK444
      clear HB
      have HO428 := n0_
      have HO435 := n1_
      have HO442 := n2_
      have HO447 := n3_
      have BK418 := n4_
      have BK425 := n5_
      have BK444 := n6_
      have HB := n7_
      have BK463 := n8_
      have GW463 := n9_
      have GE463 := n10_
      have NB418_463 := n11_
      have NB463_418 := n12_
      have NB425_463 := n13_
      have NB463_425 := n14_
      have NB444_463 := n15_
      have NB463_444 := n16_
      clear n0_ n1_ n2_ n3_ n4_ n5_ n6_ n7_ n8_ n9_ n10_ n11_ n12_ n13_ n14_ n15_ n16_
      clear hb hbox hg
      obtain ⟨Ao63, co63, eo63⟩ := Kd.R_slice HO447.out
      (first | subst eo63 | (injection eo63 with f1_ f2_ f3_; have f4_ := f1_.symm; have f5_ := f3_.symm; clear f1_ f2_ f3_; subst f4_; subst f5_))
      refine hK.out _ _ ⟨(blk_cell BK444.out 0).trans rfl, (blk_cell BK444.out 1).trans rfl, (blk_cell BK444.out 2).trans rfl, (blk_cell BK444.out 3).trans rfl, (blk_cell BK444.out 4).trans rfl, (blk_cell BK425.out 0).trans rfl, (blk_cell BK425.out 1).trans rfl, (blk_cell BK425.out 2).trans rfl, (blk_cell BK425.out 3).trans rfl, (blk_cell BK425.out 4).trans rfl, (blk_cell BK425.out 5).trans rfl, (blk_cell BK425.out 6).trans rfl, (blk_cell BK425.out 7).trans rfl, (blk_cell BK425.out 8).trans rfl, (blk_cell BK425.out 9).trans rfl, (blk_cell BK425.out 10).trans rfl, (blk_cell BK425.out 11).trans rfl, (blk_cell BK425.out 12).trans rfl, (blk_cell BK425.out 13).trans rfl⟩ (fun hHeld => ?_)
      clear hK K
      refine norm_ (a' := ?_) ?_ ?_
      rotate_left
      ·show Act.put _ (some 11) _ = _
       simp only [Act.put, la_, lb_, lc_, i64_w, i32_w]
       rfl
      refine one_ (i := 3) (N := some 58) d7x7 rfl rfl (one_of HT_.out (by kernel_rfl)) (by decide) (fun K hK => ?_)
      refine goes_ Tryd.func15 (by kernel_rfl) rfl #[.agg #[.slice Ao63 t445.length co63, .int .i64 t448, .string t449, .int .u32 t450, .bool t451], .agg #[.int .i64 9, .int .i64 0, .string a1, .int .i64 0, .int .i64 0, .string (⟨#[]⟩ : ByteArray), .bool false, .slice none 0 0, .int .u64 t423, .int .u64 0, .int .u64 0, .int .i64 (wrap64 (1 + t424)), .bool false, .int .i64 0]] (by rfl) rfl rfl (by (try simp only [List.map_toArray, List.map_cons, List.map_nil]); first | done | rfl | (simp only [List.length_drop, List.length_take]; rfl)) ?_
      refine (resv_Do.calls kj3 (fun k_ => some k_ = (.slice Ao63 t445.length co63 : Value).ownBlock) _ _ t445 t448 t449 t450 t451 9 0 a1 0 0 (⟨#[]⟩ : ByteArray) false _ _ ([] : List (S100)) t423 0 0 (wrap64 (1 + t424)) false 0 t452 t455 t456 t457 t458 t459 t462 _ ?side1 ?side2 ?side3 ?side4 A39.out).mono ?_
      (case side1 => exact Kd.R_V (Kd.R_tight rfl (Kd.R_types (Kd.R_types (Kd.R_types (Kd.R_types (Kd.R_apart' (HO447.out) (Kd.R_typed HO442.out) (by decide)) BK418.out (by decide)) BK425.out (by decide)) BK444.out (by decide)) BK463.out (by decide))))
      (case side2 => exact Kd.C_nil _ _)
      (case side3 => exact Nat.le_refl _)
      (case side4 => first | ((refine Glob.keep HG.out ?_); (repeat (first | (with_reducible first | exact HB.out | apply below_alloc | apply pw_below_drewN | apply below_drew1 | refine below_set ?_ GE418.out | refine below_set ?_ GE425.out | refine below_set ?_ GE444.out | refine below_set ?_ GE463.out) | exact HB.out)); done) | exact HG.out)
      rintro e w64 ⟨v453, v460, rfl, ho0, ho1, hb⟩
      refine ⟨_, rfl, ?_⟩
      have n0_ := Aside0.mk (Kd.R_below (by (with_reducible repeat (first | apply Kd.R_alloc | apply Kd.R_drewN | apply Kd.R_drew)); exact HO428.out) hb)
      have n1_ := Aside0.mk (Kd.V_elder' (by (with_reducible repeat (first | apply Kd.V_alloc | apply Kd.V_drewN | apply Kd.V_drew)); exact HO435.out) (Kd.R_base ho1) hb)
      have n2_ := Aside0.mk (Kd.R_elder' (by (with_reducible repeat (first | apply Kd.R_alloc | apply Kd.R_drewN | apply Kd.R_drew)); exact HO442.out) (Kd.R_base ho1) hb)
      have n3_ := Aside0.mk (Kd.R_below (by (with_reducible repeat (first | apply Kd.R_alloc | apply Kd.R_drewN | apply Kd.R_drew)); exact HO447.out) hb)
      have n4_ := Aside0.mk (Kd.V_lower (Kd.V_mono (ok' := fun k_ => some k_ ≠ (v460 : Value).ownBlock ∧ some k_ ≠ (v427 : Value).ownBlock ∧ some k_ ≠ (v441 : Value).ownBlock ∧ k_ ≠ gb418 ∧ k_ ≠ gb425 ∧ k_ ≠ gb444 ∧ k_ ≠ gb463) ho0 (fun k_ hk_ => ⟨hk_.2, Or.elim hk_.1 (fun hs_ => ((Kd.R_types (Kd.R_types (Kd.R_types (Kd.R_types (Kd.R_apart' (HO447.out) (Kd.R_typed HO442.out) (by decide)) BK418.out (by decide)) BK425.out (by decide)) BK444.out (by decide)) BK463.out (by decide)).1 k_ hs_.symm).1.1.1.1.1.2) (fun hn_ => (Kd.fresh' (Kd.R_lt (by (with_reducible repeat (first | apply Kd.R_alloc | apply Kd.R_drewN | apply Kd.R_drew)); exact HO428.out)) k_ hn_)), Or.elim hk_.1 (fun hs_ => ((Kd.R_types (Kd.R_types (Kd.R_types (Kd.R_types (Kd.R_apart' (HO447.out) (Kd.R_typed HO442.out) (by decide)) BK418.out (by decide)) BK425.out (by decide)) BK444.out (by decide)) BK463.out (by decide)).1 k_ hs_.symm).1.1.1.1.2) (fun hn_ => (Kd.fresh' (Kd.R_lt (by (with_reducible repeat (first | apply Kd.R_alloc | apply Kd.R_drewN | apply Kd.R_drew)); exact HO442.out)) k_ hn_)), Or.elim hk_.1 (fun hs_ => ((Kd.R_types (Kd.R_types (Kd.R_types (Kd.R_types (Kd.R_apart' (HO447.out) (Kd.R_typed HO442.out) (by decide)) BK418.out (by decide)) BK425.out (by decide)) BK444.out (by decide)) BK463.out (by decide)).1 k_ hs_.symm).1.1.1.2) (fun hn_ => (Kd.freshB (g := gb418) (o := .cells #[.slice A0_0 l0_0.length c0_0, .int .i64 a0_1, .string a0_2, .int .u32 a0_3, .bool a0_4] 27 (0, 0)) (bk_ BK418) k_ hn_)), Or.elim hk_.1 (fun hs_ => ((Kd.R_types (Kd.R_types (Kd.R_types (Kd.R_types (Kd.R_apart' (HO447.out) (Kd.R_typed HO442.out) (by decide)) BK418.out (by decide)) BK425.out (by decide)) BK444.out (by decide)) BK463.out (by decide)).1 k_ hs_.symm).1.1.2) (fun hn_ => (Kd.freshB (g := gb425) (o := .cells #[.int .i64 9, .int .i64 0, .string a1, .int .i64 0, .int .i64 0, .string (⟨#[]⟩ : ByteArray), .bool false, .slice none 0 0, .int .u64 t423, .int .u64 0, .int .u64 0, .int .i64 (wrap64 (1 + t424)), .bool false, .int .i64 0] 31 (0, 0)) (bk_ BK425) k_ hn_)), Or.elim hk_.1 (fun hs_ => ((Kd.R_types (Kd.R_types (Kd.R_types (Kd.R_types (Kd.R_apart' (HO447.out) (Kd.R_typed HO442.out) (by decide)) BK418.out (by decide)) BK425.out (by decide)) BK444.out (by decide)) BK463.out (by decide)).1 k_ hs_.symm).1.2) (fun hn_ => (Kd.freshB (g := gb444) (o := .cells #[.slice Ao53 t433.length co53, .int .i64 t436, .string t437, .int .u32 t438, .bool t439] 27 (0, 0)) (bk_ BK444) k_ hn_)), Or.elim hk_.1 (fun hs_ => ((Kd.R_types (Kd.R_types (Kd.R_types (Kd.R_types (Kd.R_apart' (HO447.out) (Kd.R_typed HO442.out) (by decide)) BK418.out (by decide)) BK425.out (by decide)) BK444.out (by decide)) BK463.out (by decide)).1 k_ hs_.symm).2) (fun hn_ => (Kd.freshB (g := gb463) (o := .cells #[.slice none 0 0, .int .i64 0, .string (⟨#[]⟩ : ByteArray), .int .u32 0, .bool false] 27 (0, 0)) (bk_ BK463) k_ hn_))⟩)) (below_size (hb_ HB)))
      have n5_ := Aside0.mk (Kd.R_lower (Kd.R_new' (Kd.R_mono (ok' := fun k_ => True) ho1 (fun _ hk_ => trivial)) (Kd.R_lt (by (with_reducible repeat (first | apply Kd.R_alloc | apply Kd.R_drewN | apply Kd.R_drew)); exact HO442.out))) (below_size (hb_ HB)))
      have n6_ := Aside0.mk (blk_below (bk_ BK418) hb)
      have n7_ := Aside0.mk (blk_below (bk_ BK425) hb)
      have n8_ := Aside0.mk (blk_below (bk_ BK444) hb)
      have n9_ := Aside0.mk (blk_below (bk_ BK463) hb)
      have n10_ := Aside0.mk (below_step (hb_ HB) hb)
      clear HO428
      clear HO435
      clear HO442
      clear HO447
      clear BK418
      clear BK425
      clear BK444
      clear BK463
      clear HB
      have HO428 := n0_
      have HO435 := n1_
      have HO442 := n2_
      have HO447 := n3_
      have HO454 := n4_
      have HO461 := n5_
      have BK418 := n6_
      have BK425 := n7_
      have BK444 := n8_
      have BK463 := n9_
      have HB := n10_
      clear n0_ n1_ n2_ n3_ n4_ n5_ n6_ n7_ n8_ n9_ n10_
      (try clear hb)
      (try clear hb2)
      (try clear hk)
      (try clear hi)
      (try clear ho0)
      (try clear ho1)
      refine hK.out _ _ ⟨(blk_cell BK444.out 0).trans rfl, (blk_cell BK444.out 1).trans rfl, (blk_cell BK444.out 2).trans rfl, (blk_cell BK444.out 3).trans rfl, (blk_cell BK444.out 4).trans rfl, (blk_cell BK425.out 0).trans rfl, (blk_cell BK425.out 1).trans rfl, (blk_cell BK425.out 2).trans rfl, (blk_cell BK425.out 3).trans rfl, (blk_cell BK425.out 4).trans rfl, (blk_cell BK425.out 5).trans rfl, (blk_cell BK425.out 6).trans rfl, (blk_cell BK425.out 7).trans rfl, (blk_cell BK425.out 8).trans rfl, (blk_cell BK425.out 9).trans rfl, (blk_cell BK425.out 10).trans rfl, (blk_cell BK425.out 11).trans rfl, (blk_cell BK425.out 12).trans rfl, (blk_cell BK425.out 13).trans rfl⟩ (fun hHeld => ?_)
      clear hK K
      refine norm_ (a' := ?_) ?_ ?_
      rotate_left
      ·show Act.put _ (some 58) _ = _
       simp only [Act.put, la_, lb_, lc_, i64_w, i32_w]
       rfl
      refine pon_ 4 (some 54) d7x9 HT_.out ?_
      refine pon_ 5 (some 59) d7x11 HT_.out ?_
      refine pon_ 6 (some 60) d7x13 HT_.out ?_
      refine pon_ 7 (some 61) d7x15 HT_.out ?_
      exact norm_ (by simp only [putAll, Act.put, la_, lb_, lc_]) (hCont (.slice Ao63 t445.length co63, v453, v460, gb463) _ ⟨hHeld, (by (with_reducible repeat (first | apply Kd.R_alloc | apply Kd.R_drewN | apply Kd.R_drew)); exact Kd.R_mono HO428.out (fun _ hk => hk.2)), (by (with_reducible repeat (first | apply Kd.V_alloc | apply Kd.V_drewN | apply Kd.V_drew)); exact Kd.V_mono HO435.out (fun _ hk => ⟨hk.1.1.1.1, ⟨hk.1.1.2, ⟨hk.2, ⟨hk.1.1.1.2.1, ⟨hk.1.1.1.2.2.1, ⟨hk.1.1.1.2.2.2, hk.1.2⟩⟩⟩⟩⟩⟩)), (by (with_reducible repeat (first | apply Kd.R_alloc | apply Kd.R_drewN | apply Kd.R_drew)); exact Kd.R_mono HO442.out (fun _ hk => hk.2)), (by (with_reducible repeat (first | apply Kd.R_alloc | apply Kd.R_drewN | apply Kd.R_drew)); exact Kd.R_mono HO447.out (fun _ hk => hk.2)), (by (with_reducible repeat (first | apply Kd.V_alloc | apply Kd.V_drewN | apply Kd.V_drew)); exact Kd.V_mono HO454.out (fun _ hk => ⟨hk.2.1, ⟨hk.2.2.1, ⟨hk.1, ⟨hk.2.2.2.1, ⟨hk.2.2.2.2.1, ⟨hk.2.2.2.2.2.1, hk.2.2.2.2.2.2⟩⟩⟩⟩⟩⟩)), (by (with_reducible repeat (first | apply Kd.R_alloc | apply Kd.R_drewN | apply Kd.R_drew)); exact Kd.R_mono HO461.out (fun _ hk => hk.2)), (bk_ BK418), (bk_ BK425), (bk_ BK444), (bk_ BK463), GW463.out, GE463.out, NB418_463.out, NB463_418.out, NB425_463.out, NB463_425.out, NB444_463.out, NB463_444.out, (hb_ HB)⟩)
    ·skip
     refine box_step ?hg (N := 11) ?hd (cs := #[.slice none 0 0, .int .i64 0, .string (⟨#[]⟩ : ByteArray), .int .u32 0, .bool false]) (t := 27) ?hr ?_; (case hd => rfl); (case hg => rfl); (case hr => first | (go_simp; done) | (go_simp; rfl))
     intro gb463 hg w61 hbox hb
     have n0_ := Aside0.mk (Kd.R_below (by (with_reducible repeat (first | apply Kd.R_alloc | apply Kd.R_drewN | apply Kd.R_drew)); exact HO428.out) hb)
     have n1_ := Aside0.mk (Kd.V_below (Kd.V_elderB (by (with_reducible repeat (first | apply Kd.V_alloc | apply Kd.V_drewN | apply Kd.V_drew)); exact HO435.out) gb463 (Nat.le_of_eq hg.symm)) hb)
     have n2_ := Aside0.mk (Kd.R_below (by (with_reducible repeat (first | apply Kd.R_alloc | apply Kd.R_drewN | apply Kd.R_drew)); exact HO442.out) hb)
     have n3_ := Aside0.mk (blk_below (bk_ BK418) hb)
     have n4_ := Aside0.mk (blk_below (bk_ BK425) hb)
     have n5_ := Aside0.mk (blk_below (bk_ BK444) hb)
     have n6_ := Aside0.mk (below_step (hb_ HB) hb)
     have n7_ := Aside0.mk (hbox)
     have n8_ := Aside0.mk ((by rw [hg]; exact (below_size (hb_ HB)) : w.heap.size ≤ gb463))
     have n9_ := Aside0.mk ((by rw [hg]; exact (below_size (hb_ HB)) : w.heap.size ≤ gb463))
     have n10_ := Aside0.mk ((by rw [hg]; exact Nat.ne_of_lt (blk_lt (g := gb418) (o := .cells #[.slice A0_0 l0_0.length c0_0, .int .i64 a0_1, .string a0_2, .int .u32 a0_3, .bool a0_4] 27 (0, 0)) (bk_ BK418)) : gb418 ≠ gb463))
     have n11_ := Aside0.mk ((by rw [hg]; exact Nat.ne_of_gt (blk_lt (g := gb418) (o := .cells #[.slice A0_0 l0_0.length c0_0, .int .i64 a0_1, .string a0_2, .int .u32 a0_3, .bool a0_4] 27 (0, 0)) (bk_ BK418)) : gb463 ≠ gb418))
     have n12_ := Aside0.mk ((by rw [hg]; exact Nat.ne_of_lt (blk_lt (g := gb425) (o := .cells #[.int .i64 9, .int .i64 0, .string a1, .int .i64 0, .int .i64 0, .string (⟨#[]⟩ : ByteArray), .bool false, .slice none 0 0, .int .u64 t423, .int .u64 0, .int .u64 0, .int .i64 (wrap64 (1 + t424)), .bool false, .int .i64 0] 31 (0, 0)) (bk_ BK425)) : gb425 ≠ gb463))
     have n13_ := Aside0.mk ((by rw [hg]; exact Nat.ne_of_gt (blk_lt (g := gb425) (o := .cells #[.int .i64 9, .int .i64 0, .string a1, .int .i64 0, .int .i64 0, .string (⟨#[]⟩ : ByteArray), .bool false, .slice none 0 0, .int .u64 t423, .int .u64 0, .int .u64 0, .int .i64 (wrap64 (1 + t424)), .bool false, .int .i64 0] 31 (0, 0)) (bk_ BK425)) : gb463 ≠ gb425))
     have n14_ := Aside0.mk ((by rw [hg]; exact Nat.ne_of_lt (blk_lt (g := gb444) (o := .cells #[.slice Ao53 t433.length co53, .int .i64 t436, .string t437, .int .u32 t438, .bool t439] 27 (0, 0)) (bk_ BK444)) : gb444 ≠ gb463))
     have n15_ := Aside0.mk ((by rw [hg]; exact Nat.ne_of_gt (blk_lt (g := gb444) (o := .cells #[.slice Ao53 t433.length co53, .int .i64 t436, .string t437, .int .u32 t438, .bool t439] 27 (0, 0)) (bk_ BK444)) : gb463 ≠ gb444))
     clear HO428
     clear HO435
     clear HO442
     clear BK418
     clear BK425
     clear BK444
     clear HB
     have HO428 := n0_
     have HO435 := n1_
     have HO442 := n2_
     have BK418 := n3_
     have BK425 := n4_
     have BK444 := n5_
     have HB := n6_
     have BK463 := n7_
     have GW463 := n8_
     have GE463 := n9_
     have NB418_463 := n10_
     have NB463_418 := n11_
     have NB425_463 := n12_
     have NB463_425 := n13_
     have NB444_463 := n14_
     have NB463_444 := n15_
     clear n0_ n1_ n2_ n3_ n4_ n5_ n6_ n7_ n8_ n9_ n10_ n11_ n12_ n13_ n14_ n15_
     clear hb hbox hg
     refine hK.out _ _ ⟨(blk_cell BK444.out 0).trans rfl, (blk_cell BK444.out 1).trans rfl, (blk_cell BK444.out 2).trans rfl, (blk_cell BK444.out 3).trans rfl, (blk_cell BK444.out 4).trans rfl, (blk_cell BK425.out 0).trans rfl, (blk_cell BK425.out 1).trans rfl, (blk_cell BK425.out 2).trans rfl, (blk_cell BK425.out 3).trans rfl, (blk_cell BK425.out 4).trans rfl, (blk_cell BK425.out 5).trans rfl, (blk_cell BK425.out 6).trans rfl, (blk_cell BK425.out 7).trans rfl, (blk_cell BK425.out 8).trans rfl, (blk_cell BK425.out 9).trans rfl, (blk_cell BK425.out 10).trans rfl, (blk_cell BK425.out 11).trans rfl, (blk_cell BK425.out 12).trans rfl, (blk_cell BK425.out 13).trans rfl⟩ (fun hHeld => ?_)
     clear hK K
     refine norm_ (a' := ?_) ?_ ?_
     rotate_left
     ·show Act.put _ (some 11) _ = _
      simp only [Act.put, la_, lb_, lc_, i64_w, i32_w]
      rfl
     refine one_ (i := 1) (N := some 56) d7x5 rfl rfl (one_of HT_.out (by kernel_rfl)) (by decide) (fun K hK => ?_)
     refine goes_ Tryd.func14 (by kernel_rfl) rfl #[.agg #[.slice Ao53 t433.length co53, .int .i64 t436, .string t437, .int .u32 t438, .bool t439]] (by rfl) rfl rfl (by (try simp only [List.map_toArray, List.map_cons, List.map_nil]); first | done | rfl | (simp only [List.length_drop, List.length_take]; rfl)) ?_
     with_reducible refine (headgatekeep_CopyTable.calls _ _ t433 t436 t437 t438 t439 t445 t448 t449 t450 t451 _ ?side1 ?side2 A38.out).mono ?_
     (case side1 => repeat (first | exact (Kd.V_reads' HO435.out).2.2 | (with_reducible refine Kd.C_alloc ?_ _) | (with_reducible refine Kd.C_drewN ?_ _) | (with_reducible refine Kd.C_drew ?_)))
     (case side2 => exact (Kd.V_reads' HO435.out).2.1)
     rintro e w62 ⟨v446, rfl, ho0, hb⟩
     refine ⟨_, rfl, ?_⟩
     have n0_ := Aside0.mk (Kd.R_elder' (by (with_reducible repeat (first | apply Kd.R_alloc | apply Kd.R_drewN | apply Kd.R_drew)); exact HO428.out) (Kd.R_base ho0) hb)
     have n1_ := Aside0.mk (Kd.V_elder' (by (with_reducible repeat (first | apply Kd.V_alloc | apply Kd.V_drewN | apply Kd.V_drew)); exact HO435.out) (Kd.R_base ho0) hb)
     have n2_ := Aside0.mk (Kd.R_below (by (with_reducible repeat (first | apply Kd.R_alloc | apply Kd.R_drewN | apply Kd.R_drew)); exact HO442.out) hb)
     have n3_ := Aside0.mk (Kd.R_lower (Kd.R_new' ho0 (Kd.R_lt (by (with_reducible repeat (first | apply Kd.R_alloc | apply Kd.R_drewN | apply Kd.R_drew)); exact HO428.out))) (below_size (hb_ HB)))
     have n4_ := Aside0.mk (blk_below (bk_ BK418) hb)
     have n5_ := Aside0.mk (blk_below (bk_ BK425) hb)
     have n6_ := Aside0.mk (blk_below (bk_ BK444) hb)
     have n7_ := Aside0.mk (blk_below (bk_ BK463) hb)
     have n8_ := Aside0.mk (below_step (hb_ HB) hb)
     clear HO428
     clear HO435
     clear HO442
     clear BK418
     clear BK425
     clear BK444
     clear BK463
     clear HB
     have HO428 := n0_
     have HO435 := n1_
     have HO442 := n2_
     have HO447 := n3_
     have BK418 := n4_
     have BK425 := n5_
     have BK444 := n6_
     have BK463 := n7_
     have HB := n8_
     clear n0_ n1_ n2_ n3_ n4_ n5_ n6_ n7_ n8_
     (try clear hb)
     (try clear hb2)
     (try clear hk)
     (try clear hi)
     (try clear ho0)
     obtain ⟨Ao63, co63, eo63⟩ := Kd.R_slice HO447.out
     (first | subst eo63 | (injection eo63 with f1_ f2_ f3_; have f4_ := f1_.symm; have f5_ := f3_.symm; clear f1_ f2_ f3_; subst f4_; subst f5_))
     refine hK.out _ _ ⟨(blk_cell BK444.out 0).trans rfl, (blk_cell BK444.out 1).trans rfl, (blk_cell BK444.out 2).trans rfl, (blk_cell BK444.out 3).trans rfl, (blk_cell BK444.out 4).trans rfl, (blk_cell BK425.out 0).trans rfl, (blk_cell BK425.out 1).trans rfl, (blk_cell BK425.out 2).trans rfl, (blk_cell BK425.out 3).trans rfl, (blk_cell BK425.out 4).trans rfl, (blk_cell BK425.out 5).trans rfl, (blk_cell BK425.out 6).trans rfl, (blk_cell BK425.out 7).trans rfl, (blk_cell BK425.out 8).trans rfl, (blk_cell BK425.out 9).trans rfl, (blk_cell BK425.out 10).trans rfl, (blk_cell BK425.out 11).trans rfl, (blk_cell BK425.out 12).trans rfl, (blk_cell BK425.out 13).trans rfl⟩ (fun hHeld => ?_)
     clear hK K
     refine norm_ (a' := ?_) ?_ ?_
     rotate_left
     ·show Act.put _ (some 56) _ = _
      simp only [Act.put, la_, lb_, lc_, i64_w, i32_w]
      rfl
     refine one_ (i := 3) (N := some 58) d7x7 rfl rfl (one_of HT_.out (by kernel_rfl)) (by decide) (fun K hK => ?_)
     refine goes_ Tryd.func15 (by kernel_rfl) rfl #[.agg #[.slice Ao63 t445.length co63, .int .i64 t448, .string t449, .int .u32 t450, .bool t451], .agg #[.int .i64 9, .int .i64 0, .string a1, .int .i64 0, .int .i64 0, .string (⟨#[]⟩ : ByteArray), .bool false, .slice none 0 0, .int .u64 t423, .int .u64 0, .int .u64 0, .int .i64 (wrap64 (1 + t424)), .bool false, .int .i64 0]] (by rfl) rfl rfl (by (try simp only [List.map_toArray, List.map_cons, List.map_nil]); first | done | rfl | (simp only [List.length_drop, List.length_take]; rfl)) ?_
     refine (resv_Do.calls kj3 (fun k_ => some k_ = (.slice Ao63 t445.length co63 : Value).ownBlock) _ _ t445 t448 t449 t450 t451 9 0 a1 0 0 (⟨#[]⟩ : ByteArray) false _ _ ([] : List (S100)) t423 0 0 (wrap64 (1 + t424)) false 0 t452 t455 t456 t457 t458 t459 t462 _ ?side1 ?side2 ?side3 ?side4 A39.out).mono ?_
     (case side1 => exact Kd.R_V (Kd.R_tight rfl (Kd.R_types (Kd.R_types (Kd.R_types (Kd.R_types (Kd.R_apart' (HO447.out) (Kd.R_typed HO442.out) (by decide)) BK418.out (by decide)) BK425.out (by decide)) BK444.out (by decide)) BK463.out (by decide))))
     (case side2 => exact Kd.C_nil _ _)
     (case side3 => exact Nat.le_refl _)
     (case side4 => first | ((refine Glob.keep HG.out ?_); (repeat (first | (with_reducible first | exact HB.out | apply below_alloc | apply pw_below_drewN | apply below_drew1 | refine below_set ?_ GE418.out | refine below_set ?_ GE425.out | refine below_set ?_ GE444.out | refine below_set ?_ GE463.out) | exact HB.out)); done) | exact HG.out)
     rintro e w64 ⟨v453, v460, rfl, ho0, ho1, hb⟩
     refine ⟨_, rfl, ?_⟩
     have n0_ := Aside0.mk (Kd.R_below (by (with_reducible repeat (first | apply Kd.R_alloc | apply Kd.R_drewN | apply Kd.R_drew)); exact HO428.out) hb)
     have n1_ := Aside0.mk (Kd.V_elder' (by (with_reducible repeat (first | apply Kd.V_alloc | apply Kd.V_drewN | apply Kd.V_drew)); exact HO435.out) (Kd.R_base ho1) hb)
     have n2_ := Aside0.mk (Kd.R_elder' (by (with_reducible repeat (first | apply Kd.R_alloc | apply Kd.R_drewN | apply Kd.R_drew)); exact HO442.out) (Kd.R_base ho1) hb)
     have n3_ := Aside0.mk (Kd.R_below (by (with_reducible repeat (first | apply Kd.R_alloc | apply Kd.R_drewN | apply Kd.R_drew)); exact HO447.out) hb)
     have n4_ := Aside0.mk (Kd.V_lower (Kd.V_mono (ok' := fun k_ => some k_ ≠ (v460 : Value).ownBlock ∧ some k_ ≠ (v427 : Value).ownBlock ∧ some k_ ≠ (v441 : Value).ownBlock ∧ k_ ≠ gb418 ∧ k_ ≠ gb425 ∧ k_ ≠ gb444 ∧ k_ ≠ gb463) ho0 (fun k_ hk_ => ⟨hk_.2, Or.elim hk_.1 (fun hs_ => ((Kd.R_types (Kd.R_types (Kd.R_types (Kd.R_types (Kd.R_apart' (HO447.out) (Kd.R_typed HO442.out) (by decide)) BK418.out (by decide)) BK425.out (by decide)) BK444.out (by decide)) BK463.out (by decide)).1 k_ hs_.symm).1.1.1.1.1.2) (fun hn_ => (Kd.fresh' (Kd.R_lt (by (with_reducible repeat (first | apply Kd.R_alloc | apply Kd.R_drewN | apply Kd.R_drew)); exact HO428.out)) k_ hn_)), Or.elim hk_.1 (fun hs_ => ((Kd.R_types (Kd.R_types (Kd.R_types (Kd.R_types (Kd.R_apart' (HO447.out) (Kd.R_typed HO442.out) (by decide)) BK418.out (by decide)) BK425.out (by decide)) BK444.out (by decide)) BK463.out (by decide)).1 k_ hs_.symm).1.1.1.1.2) (fun hn_ => (Kd.fresh' (Kd.R_lt (by (with_reducible repeat (first | apply Kd.R_alloc | apply Kd.R_drewN | apply Kd.R_drew)); exact HO442.out)) k_ hn_)), Or.elim hk_.1 (fun hs_ => ((Kd.R_types (Kd.R_types (Kd.R_types (Kd.R_types (Kd.R_apart' (HO447.out) (Kd.R_typed HO442.out) (by decide)) BK418.out (by decide)) BK425.out (by decide)) BK444.out (by decide)) BK463.out (by decide)).1 k_ hs_.symm).1.1.1.2) (fun hn_ => (Kd.freshB (g := gb418) (o := .cells #[.slice A0_0 l0_0.length c0_0, .int .i64 a0_1, .string a0_2, .int .u32 a0_3, .bool a0_4] 27 (0, 0)) (bk_ BK418) k_ hn_)), Or.elim hk_.1 (fun hs_ => ((Kd.R_types (Kd.R_types (Kd.R_types (Kd.R_types (Kd.R_apart' (HO447.out) (Kd.R_typed HO442.out) (by decide)) BK418.out (by decide)) BK425.out (by decide)) BK444.out (by decide)) BK463.out (by decide)).1 k_ hs_.symm).1.1.2) (fun hn_ => (Kd.freshB (g := gb425) (o := .cells #[.int .i64 9, .int .i64 0, .string a1, .int .i64 0, .int .i64 0, .string (⟨#[]⟩ : ByteArray), .bool false, .slice none 0 0, .int .u64 t423, .int .u64 0, .int .u64 0, .int .i64 (wrap64 (1 + t424)), .bool false, .int .i64 0] 31 (0, 0)) (bk_ BK425) k_ hn_)), Or.elim hk_.1 (fun hs_ => ((Kd.R_types (Kd.R_types (Kd.R_types (Kd.R_types (Kd.R_apart' (HO447.out) (Kd.R_typed HO442.out) (by decide)) BK418.out (by decide)) BK425.out (by decide)) BK444.out (by decide)) BK463.out (by decide)).1 k_ hs_.symm).1.2) (fun hn_ => (Kd.freshB (g := gb444) (o := .cells #[.slice Ao53 t433.length co53, .int .i64 t436, .string t437, .int .u32 t438, .bool t439] 27 (0, 0)) (bk_ BK444) k_ hn_)), Or.elim hk_.1 (fun hs_ => ((Kd.R_types (Kd.R_types (Kd.R_types (Kd.R_types (Kd.R_apart' (HO447.out) (Kd.R_typed HO442.out) (by decide)) BK418.out (by decide)) BK425.out (by decide)) BK444.out (by decide)) BK463.out (by decide)).1 k_ hs_.symm).2) (fun hn_ => (Kd.freshB (g := gb463) (o := .cells #[.slice none 0 0, .int .i64 0, .string (⟨#[]⟩ : ByteArray), .int .u32 0, .bool false] 27 (0, 0)) (bk_ BK463) k_ hn_))⟩)) (below_size (hb_ HB)))
     have n5_ := Aside0.mk (Kd.R_lower (Kd.R_new' (Kd.R_mono (ok' := fun k_ => True) ho1 (fun _ hk_ => trivial)) (Kd.R_lt (by (with_reducible repeat (first | apply Kd.R_alloc | apply Kd.R_drewN | apply Kd.R_drew)); exact HO442.out))) (below_size (hb_ HB)))
     have n6_ := Aside0.mk (blk_below (bk_ BK418) hb)
     have n7_ := Aside0.mk (blk_below (bk_ BK425) hb)
     have n8_ := Aside0.mk (blk_below (bk_ BK444) hb)
     have n9_ := Aside0.mk (blk_below (bk_ BK463) hb)
     have n10_ := Aside0.mk (below_step (hb_ HB) hb)
     clear HO428
     clear HO435
     clear HO442
     clear HO447
     clear BK418
     clear BK425
     clear BK444
     clear BK463
     clear HB
     have HO428 := n0_
     have HO435 := n1_
     have HO442 := n2_
     have HO447 := n3_
     have HO454 := n4_
     have HO461 := n5_
     have BK418 := n6_
     have BK425 := n7_
     have BK444 := n8_
     have BK463 := n9_
     have HB := n10_
     clear n0_ n1_ n2_ n3_ n4_ n5_ n6_ n7_ n8_ n9_ n10_
     (try clear hb)
     (try clear hb2)
     (try clear hk)
     (try clear hi)
     (try clear ho0)
     (try clear ho1)
     refine hK.out _ _ ⟨(blk_cell BK444.out 0).trans rfl, (blk_cell BK444.out 1).trans rfl, (blk_cell BK444.out 2).trans rfl, (blk_cell BK444.out 3).trans rfl, (blk_cell BK444.out 4).trans rfl, (blk_cell BK425.out 0).trans rfl, (blk_cell BK425.out 1).trans rfl, (blk_cell BK425.out 2).trans rfl, (blk_cell BK425.out 3).trans rfl, (blk_cell BK425.out 4).trans rfl, (blk_cell BK425.out 5).trans rfl, (blk_cell BK425.out 6).trans rfl, (blk_cell BK425.out 7).trans rfl, (blk_cell BK425.out 8).trans rfl, (blk_cell BK425.out 9).trans rfl, (blk_cell BK425.out 10).trans rfl, (blk_cell BK425.out 11).trans rfl, (blk_cell BK425.out 12).trans rfl, (blk_cell BK425.out 13).trans rfl⟩ (fun hHeld => ?_)
     clear hK K
     refine norm_ (a' := ?_) ?_ ?_
     rotate_left
     ·show Act.put _ (some 58) _ = _
      simp only [Act.put, la_, lb_, lc_, i64_w, i32_w]
      rfl
     refine pon_ 4 (some 54) d7x9 HT_.out ?_
     refine pon_ 5 (some 59) d7x11 HT_.out ?_
     refine pon_ 6 (some 60) d7x13 HT_.out ?_
     refine pon_ 7 (some 61) d7x15 HT_.out ?_
     exact norm_ (by simp only [putAll, Act.put, la_, lb_, lc_]) (hCont (.slice Ao63 t445.length co63, v453, v460, gb463) _ ⟨hHeld, (by (with_reducible repeat (first | apply Kd.R_alloc | apply Kd.R_drewN | apply Kd.R_drew)); exact Kd.R_mono HO428.out (fun _ hk => hk.2)), (by (with_reducible repeat (first | apply Kd.V_alloc | apply Kd.V_drewN | apply Kd.V_drew)); exact Kd.V_mono HO435.out (fun _ hk => ⟨hk.1.1.1.1, ⟨hk.1.2, ⟨hk.2, ⟨hk.1.1.1.2.1, ⟨hk.1.1.1.2.2.1, ⟨hk.1.1.1.2.2.2, hk.1.1.2⟩⟩⟩⟩⟩⟩)), (by (with_reducible repeat (first | apply Kd.R_alloc | apply Kd.R_drewN | apply Kd.R_drew)); exact Kd.R_mono HO442.out (fun _ hk => hk.2)), (by (with_reducible repeat (first | apply Kd.R_alloc | apply Kd.R_drewN | apply Kd.R_drew)); exact Kd.R_mono HO447.out (fun _ hk => hk.2)), (by (with_reducible repeat (first | apply Kd.V_alloc | apply Kd.V_drewN | apply Kd.V_drew)); exact Kd.V_mono HO454.out (fun _ hk => ⟨hk.2.1, ⟨hk.2.2.1, ⟨hk.1, ⟨hk.2.2.2.1, ⟨hk.2.2.2.2.1, ⟨hk.2.2.2.2.2.1, hk.2.2.2.2.2.2⟩⟩⟩⟩⟩⟩)), (by (with_reducible repeat (first | apply Kd.R_alloc | apply Kd.R_drewN | apply Kd.R_drew)); exact Kd.R_mono HO461.out (fun _ hk => hk.2)), (bk_ BK418), (bk_ BK425), (bk_ BK444), (bk_ BK463), GW463.out, GE463.out, NB418_463.out, NB463_418.out, NB425_463.out, NB463_425.out, NB444_463.out, NB463_444.out, (hb_ HB)⟩)
   rintro ⟨v446, v453, v460, gb463⟩ w65 ⟨hS_, h0_, h1_, h2_, h3_, h4_, h5_, h6_, h7_, h8_, h9_, h10_, h11_, h12_, h13_, h14_, h15_, h16_, h17_, h18_⟩
   have n0_ : Aside0 (Kd.R k53 53 w65 w.heap.size (fun k_ => some k_ ≠ (v446 : Value).ownBlock) v427 t426) := ⟨h0_⟩
   have n1_ : Aside0 (Kd.V k53 53 w65 w.heap.size (fun k_ => some k_ ≠ (v441 : Value).ownBlock ∧ some k_ ≠ (v446 : Value).ownBlock ∧ some k_ ≠ (v460 : Value).ownBlock ∧ k_ ≠ gb418 ∧ k_ ≠ gb425 ∧ k_ ≠ gb444 ∧ k_ ≠ gb463) (.slice Ao53 t433.length co53) t433) := ⟨h1_⟩
   have n2_ : Aside0 (Kd.R k46 46 w65 w.heap.size (fun k_ => some k_ ≠ (v460 : Value).ownBlock) v441 t440) := ⟨h2_⟩
   have n3_ : Aside0 (Kd.R k53 53 w65 w.heap.size (fun k_ => some k_ ≠ (v427 : Value).ownBlock) v446 t445) := ⟨h3_⟩
   have n4_ : Aside0 (Kd.V k53 53 w65 w.heap.size (fun k_ => some k_ ≠ (v427 : Value).ownBlock ∧ some k_ ≠ (v441 : Value).ownBlock ∧ some k_ ≠ (v460 : Value).ownBlock ∧ k_ ≠ gb418 ∧ k_ ≠ gb425 ∧ k_ ≠ gb444 ∧ k_ ≠ gb463) v453 t452) := ⟨h4_⟩
   have n5_ : Aside0 (Kd.R k46 46 w65 w.heap.size (fun k_ => some k_ ≠ (v441 : Value).ownBlock) v460 t459) := ⟨h5_⟩
   have n6_ : Aside0 (w65.heap[gb418]? = some (.cells #[.slice A0_0 l0_0.length c0_0, .int .i64 a0_1, .string a0_2, .int .u32 a0_3, .bool a0_4] 27 (0, 0))) := ⟨h6_⟩
   have n7_ : Aside0 (w65.heap[gb425]? = some (.cells #[.int .i64 9, .int .i64 0, .string a1, .int .i64 0, .int .i64 0, .string (⟨#[]⟩ : ByteArray), .bool false, .slice none 0 0, .int .u64 t423, .int .u64 0, .int .u64 0, .int .i64 (wrap64 (1 + t424)), .bool false, .int .i64 0] 31 (0, 0))) := ⟨h7_⟩
   have n8_ : Aside0 (w65.heap[gb444]? = some (.cells #[.slice Ao53 t433.length co53, .int .i64 t436, .string t437, .int .u32 t438, .bool t439] 27 (0, 0))) := ⟨h8_⟩
   have n9_ : Aside0 (w65.heap[gb463]? = some (.cells #[.slice none 0 0, .int .i64 0, .string (⟨#[]⟩ : ByteArray), .int .u32 0, .bool false] 27 (0, 0))) := ⟨h9_⟩
   have n10_ : Aside0 (w.heap.size ≤ gb463) := ⟨h10_⟩
   have n11_ : Aside0 (w.heap.size ≤ gb463) := ⟨h11_⟩
   have n12_ : Aside0 (gb418 ≠ gb463) := ⟨h12_⟩
   have n13_ : Aside0 (gb463 ≠ gb418) := ⟨h13_⟩
   have n14_ : Aside0 (gb425 ≠ gb463) := ⟨h14_⟩
   have n15_ : Aside0 (gb463 ≠ gb425) := ⟨h15_⟩
   have n16_ : Aside0 (gb444 ≠ gb463) := ⟨h16_⟩
   have n17_ : Aside0 (gb463 ≠ gb444) := ⟨h17_⟩
   have n18_ : Aside0 (Below w.heap.size w w65) := ⟨h18_⟩
   clear HO428
   clear HO435
   clear HO442
   clear BK418
   clear BK425
   clear BK444
   clear HB
   clear h0_ h1_ h2_ h3_ h4_ h5_ h6_ h7_ h8_ h9_ h10_ h11_ h12_ h13_ h14_ h15_ h16_ h17_ h18_
   have HO428 := n0_
   have HO435 := n1_
   have HO442 := n2_
   have HO447 := n3_
   have HO454 := n4_
   have HO461 := n5_
   have BK418 := n6_
   have BK425 := n7_
   have BK444 := n8_
   have BK463 := n9_
   have GW463 := n10_
   have GE463 := n11_
   have NB418_463 := n12_
   have NB463_418 := n13_
   have NB425_463 := n14_
   have NB463_425 := n15_
   have NB444_463 := n16_
   have NB463_444 := n17_
   have HB := n18_
   clear n0_ n1_ n2_ n3_ n4_ n5_ n6_ n7_ n8_ n9_ n10_ n11_ n12_ n13_ n14_ n15_ n16_ n17_ n18_
   have hHeld : w65.cell? ⟨gb444, 0, none⟩ = some (.slice Ao53 t433.length co53) ∧ w65.cell? ⟨gb444, 1, none⟩ = some (.int .i64 t436) ∧ w65.cell? ⟨gb444, 2, none⟩ = some (.string t437) ∧ w65.cell? ⟨gb444, 3, none⟩ = some (.int .u32 t438) ∧ w65.cell? ⟨gb444, 4, none⟩ = some (.bool t439) ∧ w65.cell? ⟨gb425, 0, none⟩ = some (.int .i64 9) ∧ w65.cell? ⟨gb425, 1, none⟩ = some (.int .i64 0) ∧ w65.cell? ⟨gb425, 2, none⟩ = some (.string a1) ∧ w65.cell? ⟨gb425, 3, none⟩ = some (.int .i64 0) ∧ w65.cell? ⟨gb425, 4, none⟩ = some (.int .i64 0) ∧ w65.cell? ⟨gb425, 5, none⟩ = some (.string (⟨#[]⟩ : ByteArray)) ∧ w65.cell? ⟨gb425, 6, none⟩ = some (.bool false) ∧ w65.cell? ⟨gb425, 7, none⟩ = some (.slice none 0 0) ∧ w65.cell? ⟨gb425, 8, none⟩ = some (.int .u64 t423) ∧ w65.cell? ⟨gb425, 9, none⟩ = some (.int .u64 0) ∧ w65.cell? ⟨gb425, 10, none⟩ = some (.int .u64 0) ∧ w65.cell? ⟨gb425, 11, none⟩ = some (.int .i64 (wrap64 (1 + t424))) ∧ w65.cell? ⟨gb425, 12, none⟩ = some (.bool false) ∧ w65.cell? ⟨gb425, 13, none⟩ = some (.int .i64 0) := hS_
   obtain ⟨Ao66, co66, eo66⟩ := Kd.V_slice HO454.out
   (first | subst eo66 | (injection eo66 with f1_ f2_ f3_; have f4_ := f1_.symm; have f5_ := f3_.symm; clear f1_ f2_ f3_; subst f4_; subst f5_))
   refine norm_ (a' := ?_) ?_ ?_
   rotate_left
   ·simp only [putAll, Act.put, la_, lb_, lc_]
    rfl
   refine one_ (i := 9) (N := none) d7x16 rfl rfl (one_of HT_.out (by kernel_rfl)) (by decide) (fun K hK => ?_)
   have hs67 : w65.cell? ⟨gb463, 0, none⟩ = some (.slice none 0 0) := (blk_cell BK463.out 0).trans rfl
   have hfs67 := blk_frozen BK463.out 0
   have hns67_0 := NB418_463.out
   have hns67_1 := NB425_463.out
   have hns67_2 := NB444_463.out
   have hms67_0 := NB463_418.out
   have hms67_1 := NB463_425.out
   have hms67_2 := NB463_444.out
   have hs68 : w65.cell? ⟨gb463, 1, none⟩ = some (.int .i64 0) := (blk_cell BK463.out 1).trans rfl
   have hfs68 := blk_frozen BK463.out 1
   have hns68_0 := NB418_463.out
   have hns68_1 := NB425_463.out
   have hns68_2 := NB444_463.out
   have hms68_0 := NB463_418.out
   have hms68_1 := NB463_425.out
   have hms68_2 := NB463_444.out
   have hs69 : w65.cell? ⟨gb463, 2, none⟩ = some (.string (⟨#[]⟩ : ByteArray)) := (blk_cell BK463.out 2).trans rfl
   have hfs69 := blk_frozen BK463.out 2
   have hns69_0 := NB418_463.out
   have hns69_1 := NB425_463.out
   have hns69_2 := NB444_463.out
   have hms69_0 := NB463_418.out
   have hms69_1 := NB463_425.out
   have hms69_2 := NB463_444.out
   have hs70 : w65.cell? ⟨gb463, 3, none⟩ = some (.int .u32 0) := (blk_cell BK463.out 3).trans rfl
   have hfs70 := blk_frozen BK463.out 3
   have hns70_0 := NB418_463.out
   have hns70_1 := NB425_463.out
   have hns70_2 := NB444_463.out
   have hms70_0 := NB463_418.out
   have hms70_1 := NB463_425.out
   have hms70_2 := NB463_444.out
   have hs71 : w65.cell? ⟨gb463, 4, none⟩ = some (.bool false) := (blk_cell BK463.out 4).trans rfl
   have hfs71 := blk_frozen BK463.out 4
   have hns71_0 := NB418_463.out
   have hns71_1 := NB425_463.out
   have hns71_2 := NB444_463.out
   have hms71_0 := NB463_418.out
   have hms71_1 := NB463_425.out
   have hms71_2 := NB463_444.out
   refine skip_ (w1 := ?_) (by rfl) rfl ?_ ?_
   rotate_left
   ·go_simp
    rfl
   refine hK.out _ _ ⟨((cf_ NB444_463.out).trans (((cf_ NB444_463.out).trans (((cf_ NB444_463.out).trans (((cf_ NB444_463.out).trans (((cf_ NB444_463.out).trans (hHeld.1)))))))))), ((cf_ NB444_463.out).trans (((cf_ NB444_463.out).trans (((cf_ NB444_463.out).trans (((cf_ NB444_463.out).trans (((cf_ NB444_463.out).trans (hHeld.2.1)))))))))), ((cf_ NB444_463.out).trans (((cf_ NB444_463.out).trans (((cf_ NB444_463.out).trans (((cf_ NB444_463.out).trans (((cf_ NB444_463.out).trans (hHeld.2.2.1)))))))))), ((cf_ NB444_463.out).trans (((cf_ NB444_463.out).trans (((cf_ NB444_463.out).trans (((cf_ NB444_463.out).trans (((cf_ NB444_463.out).trans (hHeld.2.2.2.1)))))))))), ((cf_ NB444_463.out).trans (((cf_ NB444_463.out).trans (((cf_ NB444_463.out).trans (((cf_ NB444_463.out).trans (((cf_ NB444_463.out).trans (hHeld.2.2.2.2.1)))))))))), ((cf_ NB425_463.out).trans (((cf_ NB425_463.out).trans (((cf_ NB425_463.out).trans (((cf_ NB425_463.out).trans (((cf_ NB425_463.out).trans (hHeld.2.2.2.2.2.1)))))))))), ((cf_ NB425_463.out).trans (((cf_ NB425_463.out).trans (((cf_ NB425_463.out).trans (((cf_ NB425_463.out).trans (((cf_ NB425_463.out).trans (hHeld.2.2.2.2.2.2.1)))))))))), ((cf_ NB425_463.out).trans (((cf_ NB425_463.out).trans (((cf_ NB425_463.out).trans (((cf_ NB425_463.out).trans (((cf_ NB425_463.out).trans (hHeld.2.2.2.2.2.2.2.1)))))))))), ((cf_ NB425_463.out).trans (((cf_ NB425_463.out).trans (((cf_ NB425_463.out).trans (((cf_ NB425_463.out).trans (((cf_ NB425_463.out).trans (hHeld.2.2.2.2.2.2.2.2.1)))))))))), ((cf_ NB425_463.out).trans (((cf_ NB425_463.out).trans (((cf_ NB425_463.out).trans (((cf_ NB425_463.out).trans (((cf_ NB425_463.out).trans (hHeld.2.2.2.2.2.2.2.2.2.1)))))))))), ((cf_ NB425_463.out).trans (((cf_ NB425_463.out).trans (((cf_ NB425_463.out).trans (((cf_ NB425_463.out).trans (((cf_ NB425_463.out).trans (hHeld.2.2.2.2.2.2.2.2.2.2.1)))))))))), ((cf_ NB425_463.out).trans (((cf_ NB425_463.out).trans (((cf_ NB425_463.out).trans (((cf_ NB425_463.out).trans (((cf_ NB425_463.out).trans (hHeld.2.2.2.2.2.2.2.2.2.2.2.1)))))))))), ((cf_ NB425_463.out).trans (((cf_ NB425_463.out).trans (((cf_ NB425_463.out).trans (((cf_ NB425_463.out).trans (((cf_ NB425_463.out).trans (hHeld.2.2.2.2.2.2.2.2.2.2.2.2.1)))))))))), ((cf_ NB425_463.out).trans (((cf_ NB425_463.out).trans (((cf_ NB425_463.out).trans (((cf_ NB425_463.out).trans (((cf_ NB425_463.out).trans (hHeld.2.2.2.2.2.2.2.2.2.2.2.2.2.1)))))))))), ((cf_ NB425_463.out).trans (((cf_ NB425_463.out).trans (((cf_ NB425_463.out).trans (((cf_ NB425_463.out).trans (((cf_ NB425_463.out).trans (hHeld.2.2.2.2.2.2.2.2.2.2.2.2.2.2.1)))))))))), ((cf_ NB425_463.out).trans (((cf_ NB425_463.out).trans (((cf_ NB425_463.out).trans (((cf_ NB425_463.out).trans (((cf_ NB425_463.out).trans (hHeld.2.2.2.2.2.2.2.2.2.2.2.2.2.2.2.1)))))))))), ((cf_ NB425_463.out).trans (((cf_ NB425_463.out).trans (((cf_ NB425_463.out).trans (((cf_ NB425_463.out).trans (((cf_ NB425_463.out).trans (hHeld.2.2.2.2.2.2.2.2.2.2.2.2.2.2.2.2.1)))))))))), ((cf_ NB425_463.out).trans (((cf_ NB425_463.out).trans (((cf_ NB425_463.out).trans (((cf_ NB425_463.out).trans (((cf_ NB425_463.out).trans (hHeld.2.2.2.2.2.2.2.2.2.2.2.2.2.2.2.2.2.1)))))))))), ((cf_ NB425_463.out).trans (((cf_ NB425_463.out).trans (((cf_ NB425_463.out).trans (((cf_ NB425_463.out).trans (((cf_ NB425_463.out).trans (hHeld.2.2.2.2.2.2.2.2.2.2.2.2.2.2.2.2.2.2))))))))))⟩ (fun hHeld => ?_)
   clear hK K
   refine pon_ 10 (some 12) d7x17 HT_.out ?_
   refine pon_ 11 (some 13) d7x18 HT_.out ?_
   refine done_ (done_of HT_.out (by kernel_rfl)) ?_
   go_upto_region 6 with (fail)
   go_cut [85] (fun v85 wc => ∃ (kq : Nat) (x85_39 : Bool), v85 = .bool x85_39 ∧ Aside0 (headgatelaw11_ResvTwice.j1 kq x85_39 l0_0 a0_1 a0_2 a0_3 a0_4 9 0 a1 0 0 (⟨#[]⟩ : ByteArray) false t423 0 0 (wrap64 (1 + t424)) false 0 t452 t455 t456 t457 t458 = some r) ∧ Aside0 (kq ≤ kj3) ∧ Aside0 (Kd.V k53 53 wc w.heap.size (fun k_ => k_ ≠ gb418 ∧ k_ ≠ gb425 ∧ k_ ≠ gb444 ∧ k_ ≠ gb463) (.slice Ao53 t433.length co53) t433) ∧ Aside0 (Kd.V k53 53 wc w.heap.size (fun k_ => k_ ≠ gb418 ∧ k_ ≠ gb425 ∧ k_ ≠ gb444 ∧ k_ ≠ gb463) (.slice Ao66 t452.length co66) t452) ∧ Aside0 (wc.heap[gb418]? = some (.cells #[(.slice A0_0 l0_0.length c0_0), .int .i64 a0_1, .string a0_2, .int .u32 a0_3, .bool a0_4] 27 (0, 0))) ∧ Aside0 (wc.heap[gb425]? = some (.cells #[.int .i64 9, .int .i64 0, .string a1, .int .i64 0, .int .i64 0, .string (⟨#[]⟩ : ByteArray), .bool false, (.slice none 0 0), .int .u64 t423, .int .u64 0, .int .u64 0, .int .i64 (wrap64 (1 + t424)), .bool false, .int .i64 0] 31 (0, 0))) ∧ Aside0 (wc.heap[gb444]? = some (.cells #[(.slice Ao53 t433.length co53), .int .i64 t436, .string t437, .int .u32 t438, .bool t439] 27 (0, 0))) ∧ Aside0 (wc.heap[gb463]? = some (.cells #[(.slice Ao66 t452.length co66), .int .i64 t455, .string t456, .int .u32 t457, .bool t458] 27 (0, 0))) ∧ Aside0 (Below w.heap.size w wc))
   case first =>
    have H := HC40.out
    clear HC40
    refine neg_first (p := (t443 = 1)) (fun c72 => ?_) (fun c72 => ?_)
    ·rw [if_neg c72] at H
     have c72b0 : (t443 == 1) = false := beq_eq_false_iff_ne.mpr c72
     have c72b1 : (t443 != 1) = true := bne_iff_ne.mpr c72
     (first | rw [c72b0] | (simp only [i64_w, i32_w]; rw [c72b0]) | skip)
     have H' := Aside0.mk H
     clear H
     go_wp2
     go_meet
     case rel => exact ⟨_, (true), (by first | rfl | (simp; done) | (simp [*]; done)), H', ⟨by have := HJ3.out; first | omega | exact Nat.le_refl _⟩, ⟨by (with_reducible repeat (first | apply Kd.V_alloc | apply Kd.V_drewN | apply Kd.V_drew)); exact Kd.V_mono (Kd.V_far (p := ⟨gb463, 4, none⟩) (Kd.V_far (p := ⟨gb463, 3, none⟩) (Kd.V_far (p := ⟨gb463, 2, none⟩) (Kd.V_far (p := ⟨gb463, 1, none⟩) (Kd.V_far (p := ⟨gb463, 0, none⟩) (Kd.V_mono HO435.out (fun k_ hk => (⟨hk, hk.2.2.2.2.2.2⟩ : _ ∧ k_ ≠ gb463))) (fun _ hk => hk.2) (.slice Ao66 t452.length co66)) (fun _ hk => hk.2) (.int .i64 t455)) (fun _ hk => hk.2) (.string t456)) (fun _ hk => hk.2) (.int .u32 t457)) (fun _ hk => hk.2) (.bool t458)) (fun _ hk => ⟨hk.1.2.2.2.1, ⟨hk.1.2.2.2.2.1, ⟨hk.1.2.2.2.2.2.1, hk.1.2.2.2.2.2.2⟩⟩⟩)⟩, ⟨by (with_reducible repeat (first | apply Kd.V_alloc | apply Kd.V_drewN | apply Kd.V_drew)); exact Kd.V_mono (Kd.V_far (p := ⟨gb463, 4, none⟩) (Kd.V_far (p := ⟨gb463, 3, none⟩) (Kd.V_far (p := ⟨gb463, 2, none⟩) (Kd.V_far (p := ⟨gb463, 1, none⟩) (Kd.V_far (p := ⟨gb463, 0, none⟩) (Kd.V_mono HO454.out (fun k_ hk => (⟨hk, hk.2.2.2.2.2.2⟩ : _ ∧ k_ ≠ gb463))) (fun _ hk => hk.2) (.slice Ao66 t452.length co66)) (fun _ hk => hk.2) (.int .i64 t455)) (fun _ hk => hk.2) (.string t456)) (fun _ hk => hk.2) (.int .u32 t457)) (fun _ hk => hk.2) (.bool t458)) (fun _ hk => ⟨hk.1.2.2.2.1, ⟨hk.1.2.2.2.2.1, ⟨hk.1.2.2.2.2.2.1, hk.1.2.2.2.2.2.2⟩⟩⟩)⟩, ⟨by (with_reducible repeat (first | refine blk_drewN ?_ _ | refine blk_drew ?_ | refine blk_alloc ?_ _ | refine blk_far ?_ NB418_463.out _)); exact BK418.out⟩, ⟨by (with_reducible repeat (first | refine blk_drewN ?_ _ | refine blk_drew ?_ | refine blk_alloc ?_ _ | refine blk_far ?_ NB425_463.out _)); exact BK425.out⟩, ⟨by (with_reducible repeat (first | refine blk_drewN ?_ _ | refine blk_drew ?_ | refine blk_alloc ?_ _ | refine blk_far ?_ NB444_463.out _)); exact BK444.out⟩, ⟨by (with_reducible repeat (first | refine blk_drewN ?_ _ | refine blk_drew ?_ | refine blk_alloc ?_ _)); refine blk_put (cs := #[.slice Ao66 t452.length co66, .int .i64 t455, .string t456, .int .u32 t457, .bool false]) ?_ 4 _ rfl; (with_reducible repeat (first | refine blk_drewN ?_ _ | refine blk_drew ?_ | refine blk_alloc ?_ _)); refine blk_put (cs := #[.slice Ao66 t452.length co66, .int .i64 t455, .string t456, .int .u32 0, .bool false]) ?_ 3 _ rfl; (with_reducible repeat (first | refine blk_drewN ?_ _ | refine blk_drew ?_ | refine blk_alloc ?_ _)); refine blk_put (cs := #[.slice Ao66 t452.length co66, .int .i64 t455, .string (⟨#[]⟩ : ByteArray), .int .u32 0, .bool false]) ?_ 2 _ rfl; (with_reducible repeat (first | refine blk_drewN ?_ _ | refine blk_drew ?_ | refine blk_alloc ?_ _)); refine blk_put (cs := #[.slice Ao66 t452.length co66, .int .i64 0, .string (⟨#[]⟩ : ByteArray), .int .u32 0, .bool false]) ?_ 1 _ rfl; (with_reducible repeat (first | refine blk_drewN ?_ _ | refine blk_drew ?_ | refine blk_alloc ?_ _)); refine blk_put (cs := #[.slice none 0 0, .int .i64 0, .string (⟨#[]⟩ : ByteArray), .int .u32 0, .bool false]) ?_ 0 _ rfl; (with_reducible repeat (first | refine blk_drewN ?_ _ | refine blk_drew ?_ | refine blk_alloc ?_ _)); exact BK463.out⟩, ⟨hb_ HB⟩⟩
    rw [if_pos c72] at H
    have c72b0 : (t443 == 1) = true := beq_iff_eq.mpr c72
    have c72b1 : (t443 != 1) = false := bne_eq_false_iff_eq.mpr c72
    clear c72
    (first | rw [c72b0] | (simp only [i64_w, i32_w]; rw [c72b0]) | skip)
    refine neg_first (p := (t462 = 1)) (fun c73 => ?_) (fun c73 => ?_)
    ·rw [if_neg c73] at H
     have c73b0 : (t462 == 1) = false := beq_eq_false_iff_ne.mpr c73
     have c73b1 : (t462 != 1) = true := bne_iff_ne.mpr c73
     have H' := Aside0.mk H
     clear H
     go_wp2
     go_meet
     case rel => exact ⟨_, (true), (by first | rfl | (simp; done) | (simp [*]; done)), H', ⟨by have := HJ3.out; first | omega | exact Nat.le_refl _⟩, ⟨by (with_reducible repeat (first | apply Kd.V_alloc | apply Kd.V_drewN | apply Kd.V_drew)); exact Kd.V_mono (Kd.V_far (p := ⟨gb463, 4, none⟩) (Kd.V_far (p := ⟨gb463, 3, none⟩) (Kd.V_far (p := ⟨gb463, 2, none⟩) (Kd.V_far (p := ⟨gb463, 1, none⟩) (Kd.V_far (p := ⟨gb463, 0, none⟩) (Kd.V_mono HO435.out (fun k_ hk => (⟨hk, hk.2.2.2.2.2.2⟩ : _ ∧ k_ ≠ gb463))) (fun _ hk => hk.2) (.slice Ao66 t452.length co66)) (fun _ hk => hk.2) (.int .i64 t455)) (fun _ hk => hk.2) (.string t456)) (fun _ hk => hk.2) (.int .u32 t457)) (fun _ hk => hk.2) (.bool t458)) (fun _ hk => ⟨hk.1.2.2.2.1, ⟨hk.1.2.2.2.2.1, ⟨hk.1.2.2.2.2.2.1, hk.1.2.2.2.2.2.2⟩⟩⟩)⟩, ⟨by (with_reducible repeat (first | apply Kd.V_alloc | apply Kd.V_drewN | apply Kd.V_drew)); exact Kd.V_mono (Kd.V_far (p := ⟨gb463, 4, none⟩) (Kd.V_far (p := ⟨gb463, 3, none⟩) (Kd.V_far (p := ⟨gb463, 2, none⟩) (Kd.V_far (p := ⟨gb463, 1, none⟩) (Kd.V_far (p := ⟨gb463, 0, none⟩) (Kd.V_mono HO454.out (fun k_ hk => (⟨hk, hk.2.2.2.2.2.2⟩ : _ ∧ k_ ≠ gb463))) (fun _ hk => hk.2) (.slice Ao66 t452.length co66)) (fun _ hk => hk.2) (.int .i64 t455)) (fun _ hk => hk.2) (.string t456)) (fun _ hk => hk.2) (.int .u32 t457)) (fun _ hk => hk.2) (.bool t458)) (fun _ hk => ⟨hk.1.2.2.2.1, ⟨hk.1.2.2.2.2.1, ⟨hk.1.2.2.2.2.2.1, hk.1.2.2.2.2.2.2⟩⟩⟩)⟩, ⟨by (with_reducible repeat (first | refine blk_drewN ?_ _ | refine blk_drew ?_ | refine blk_alloc ?_ _ | refine blk_far ?_ NB418_463.out _)); exact BK418.out⟩, ⟨by (with_reducible repeat (first | refine blk_drewN ?_ _ | refine blk_drew ?_ | refine blk_alloc ?_ _ | refine blk_far ?_ NB425_463.out _)); exact BK425.out⟩, ⟨by (with_reducible repeat (first | refine blk_drewN ?_ _ | refine blk_drew ?_ | refine blk_alloc ?_ _ | refine blk_far ?_ NB444_463.out _)); exact BK444.out⟩, ⟨by (with_reducible repeat (first | refine blk_drewN ?_ _ | refine blk_drew ?_ | refine blk_alloc ?_ _)); refine blk_put (cs := #[.slice Ao66 t452.length co66, .int .i64 t455, .string t456, .int .u32 t457, .bool false]) ?_ 4 _ rfl; (with_reducible repeat (first | refine blk_drewN ?_ _ | refine blk_drew ?_ | refine blk_alloc ?_ _)); refine blk_put (cs := #[.slice Ao66 t452.length co66, .int .i64 t455, .string t456, .int .u32 0, .bool false]) ?_ 3 _ rfl; (with_reducible repeat (first | refine blk_drewN ?_ _ | refine blk_drew ?_ | refine blk_alloc ?_ _)); refine blk_put (cs := #[.slice Ao66 t452.length co66, .int .i64 t455, .string (⟨#[]⟩ : ByteArray), .int .u32 0, .bool false]) ?_ 2 _ rfl; (with_reducible repeat (first | refine blk_drewN ?_ _ | refine blk_drew ?_ | refine blk_alloc ?_ _)); refine blk_put (cs := #[.slice Ao66 t452.length co66, .int .i64 0, .string (⟨#[]⟩ : ByteArray), .int .u32 0, .bool false]) ?_ 1 _ rfl; (with_reducible repeat (first | refine blk_drewN ?_ _ | refine blk_drew ?_ | refine blk_alloc ?_ _)); refine blk_put (cs := #[.slice none 0 0, .int .i64 0, .string (⟨#[]⟩ : ByteArray), .int .u32 0, .bool false]) ?_ 0 _ rfl; (with_reducible repeat (first | refine blk_drewN ?_ _ | refine blk_drew ?_ | refine blk_alloc ?_ _)); exact BK463.out⟩, ⟨hb_ HB⟩⟩
    rw [if_pos c73] at H
    have c73b0 : (t462 == 1) = true := beq_iff_eq.mpr c73
    have c73b1 : (t462 != 1) = false := bne_eq_false_iff_eq.mpr c73
    clear c73
    refine neg_first (p := ((t459.length : Int) = 0)) (fun c74 => ?_) (fun c74 => ?_)
    ·rw [if_neg c74] at H
     have c74b0 : ((t459.length : Int) == 0) = false := beq_eq_false_iff_ne.mpr c74
     have c74b1 : ((t459.length : Int) != 0) = true := bne_iff_ne.mpr c74
     have c74b2 : ¬ (t459 = []) := fun h_ => c74 (by rw [h_]; rfl)
     have H' := Aside0.mk H
     clear H
     obtain ⟨Ao98, co98, eo98⟩ := Kd.R_slice HO461.out
     subst eo98
     go_wp2
     go_meet
     case rel => exact ⟨_, (true), (by first | rfl | (simp; done) | (simp [*]; done)), H', ⟨by have := HJ3.out; first | omega | exact Nat.le_refl _⟩, ⟨by (with_reducible repeat (first | apply Kd.V_alloc | apply Kd.V_drewN | apply Kd.V_drew)); exact Kd.V_mono (Kd.V_far (p := ⟨gb463, 4, none⟩) (Kd.V_far (p := ⟨gb463, 3, none⟩) (Kd.V_far (p := ⟨gb463, 2, none⟩) (Kd.V_far (p := ⟨gb463, 1, none⟩) (Kd.V_far (p := ⟨gb463, 0, none⟩) (Kd.V_mono HO435.out (fun k_ hk => (⟨hk, hk.2.2.2.2.2.2⟩ : _ ∧ k_ ≠ gb463))) (fun _ hk => hk.2) (.slice Ao66 t452.length co66)) (fun _ hk => hk.2) (.int .i64 t455)) (fun _ hk => hk.2) (.string t456)) (fun _ hk => hk.2) (.int .u32 t457)) (fun _ hk => hk.2) (.bool t458)) (fun _ hk => ⟨hk.1.2.2.2.1, ⟨hk.1.2.2.2.2.1, ⟨hk.1.2.2.2.2.2.1, hk.1.2.2.2.2.2.2⟩⟩⟩)⟩, ⟨by (with_reducible repeat (first | apply Kd.V_alloc | apply Kd.V_drewN | apply Kd.V_drew)); exact Kd.V_mono (Kd.V_far (p := ⟨gb463, 4, none⟩) (Kd.V_far (p := ⟨gb463, 3, none⟩) (Kd.V_far (p := ⟨gb463, 2, none⟩) (Kd.V_far (p := ⟨gb463, 1, none⟩) (Kd.V_far (p := ⟨gb463, 0, none⟩) (Kd.V_mono HO454.out (fun k_ hk => (⟨hk, hk.2.2.2.2.2.2⟩ : _ ∧ k_ ≠ gb463))) (fun _ hk => hk.2) (.slice Ao66 t452.length co66)) (fun _ hk => hk.2) (.int .i64 t455)) (fun _ hk => hk.2) (.string t456)) (fun _ hk => hk.2) (.int .u32 t457)) (fun _ hk => hk.2) (.bool t458)) (fun _ hk => ⟨hk.1.2.2.2.1, ⟨hk.1.2.2.2.2.1, ⟨hk.1.2.2.2.2.2.1, hk.1.2.2.2.2.2.2⟩⟩⟩)⟩, ⟨by (with_reducible repeat (first | refine blk_drewN ?_ _ | refine blk_drew ?_ | refine blk_alloc ?_ _ | refine blk_far ?_ NB418_463.out _)); exact BK418.out⟩, ⟨by (with_reducible repeat (first | refine blk_drewN ?_ _ | refine blk_drew ?_ | refine blk_alloc ?_ _ | refine blk_far ?_ NB425_463.out _)); exact BK425.out⟩, ⟨by (with_reducible repeat (first | refine blk_drewN ?_ _ | refine blk_drew ?_ | refine blk_alloc ?_ _ | refine blk_far ?_ NB444_463.out _)); exact BK444.out⟩, ⟨by (with_reducible repeat (first | refine blk_drewN ?_ _ | refine blk_drew ?_ | refine blk_alloc ?_ _)); refine blk_put (cs := #[.slice Ao66 t452.length co66, .int .i64 t455, .string t456, .int .u32 t457, .bool false]) ?_ 4 _ rfl; (with_reducible repeat (first | refine blk_drewN ?_ _ | refine blk_drew ?_ | refine blk_alloc ?_ _)); refine blk_put (cs := #[.slice Ao66 t452.length co66, .int .i64 t455, .string t456, .int .u32 0, .bool false]) ?_ 3 _ rfl; (with_reducible repeat (first | refine blk_drewN ?_ _ | refine blk_drew ?_ | refine blk_alloc ?_ _)); refine blk_put (cs := #[.slice Ao66 t452.length co66, .int .i64 t455, .string (⟨#[]⟩ : ByteArray), .int .u32 0, .bool false]) ?_ 2 _ rfl; (with_reducible repeat (first | refine blk_drewN ?_ _ | refine blk_drew ?_ | refine blk_alloc ?_ _)); refine blk_put (cs := #[.slice Ao66 t452.length co66, .int .i64 0, .string (⟨#[]⟩ : ByteArray), .int .u32 0, .bool false]) ?_ 1 _ rfl; (with_reducible repeat (first | refine blk_drewN ?_ _ | refine blk_drew ?_ | refine blk_alloc ?_ _)); refine blk_put (cs := #[.slice none 0 0, .int .i64 0, .string (⟨#[]⟩ : ByteArray), .int .u32 0, .bool false]) ?_ 0 _ rfl; (with_reducible repeat (first | refine blk_drewN ?_ _ | refine blk_drew ?_ | refine blk_alloc ?_ _)); exact BK463.out⟩, ⟨hb_ HB⟩⟩
    rw [if_pos c74] at H
    have c74b0 : ((t459.length : Int) == 0) = true := beq_iff_eq.mpr c74
    have c74b1 : ((t459.length : Int) != 0) = false := bne_eq_false_iff_eq.mpr c74
    clear c74
    replace H := Option.bind_eq_some_iff.mp H
    obtain ⟨t464, A750, H⟩ := H
    try dsimp only at H
    have A75 := Aside0.mk A750
    clear A750
    refine neg_first (p := (t464 = true)) (fun c76 => ?_) (fun c76 => ?_)
    ·replace c76 := Bool.eq_false_iff.mpr c76
     subst c76
     have H1 := H
     rw [if_neg (show ¬ (false = true) by decide)] at H1
     clear H
     have H := H1
     clear H1
     have H' := Aside0.mk H
     clear H
     obtain ⟨Ao89, co89, eo89⟩ := Kd.R_slice HO461.out
     subst eo89
     have hnb90 := NB444_418.out
     have hnc90 := NB418_444.out
     have hnb91 := NB444_425.out
     have hnc91 := NB425_444.out
     have hnb92 := NB444_463.out
     have hnc92 := NB463_444.out
     have hcz93_0 : w65.cell? ⟨gb444, 0, none⟩ = some (.slice Ao53 t433.length co53) := (blk_cell BK444.out 0).trans rfl
     have hcz93_1 : w65.cell? ⟨gb444, 1, none⟩ = some (.int .i64 t436) := (blk_cell BK444.out 1).trans rfl
     have hcz93_2 : w65.cell? ⟨gb444, 2, none⟩ = some (.string t437) := (blk_cell BK444.out 2).trans rfl
     have hcz93_3 : w65.cell? ⟨gb444, 3, none⟩ = some (.int .u32 t438) := (blk_cell BK444.out 3).trans rfl
     have hcz93_4 : w65.cell? ⟨gb444, 4, none⟩ = some (.bool t439) := (blk_cell BK444.out 4).trans rfl
     have hfz93_0 := blk_frozen BK444.out 0
     have hfz93_1 := blk_frozen BK444.out 1
     have hfz93_2 := blk_frozen BK444.out 2
     have hfz93_3 := blk_frozen BK444.out 3
     have hfz93_4 := blk_frozen BK444.out 4
     have hnb94 := NB463_418.out
     have hnc94 := NB418_463.out
     have hnb95 := NB463_425.out
     have hnc95 := NB425_463.out
     have hcz96_0 : w65.cell? ⟨gb463, 0, none⟩ = some (.slice none 0 0) := (blk_cell BK463.out 0).trans rfl
     have hcz96_1 : w65.cell? ⟨gb463, 1, none⟩ = some (.int .i64 0) := (blk_cell BK463.out 1).trans rfl
     have hcz96_2 : w65.cell? ⟨gb463, 2, none⟩ = some (.string (⟨#[]⟩ : ByteArray)) := (blk_cell BK463.out 2).trans rfl
     have hcz96_3 : w65.cell? ⟨gb463, 3, none⟩ = some (.int .u32 0) := (blk_cell BK463.out 3).trans rfl
     have hcz96_4 : w65.cell? ⟨gb463, 4, none⟩ = some (.bool false) := (blk_cell BK463.out 4).trans rfl
     have hfz96_0 := blk_frozen BK463.out 0
     have hfz96_1 := blk_frozen BK463.out 1
     have hfz96_2 := blk_frozen BK463.out 2
     have hfz96_3 := blk_frozen BK463.out 3
     have hfz96_4 := blk_frozen BK463.out 4
     go_wp2_with (first | (go_at_call 17; (with_reducible refine (headgatekeep_Tables.calls kj3 _ _ t433 t436 t437 t438 t439 _ _ t452 t455 t456 t457 t458 false _ ?side1 ?side2 ?side3 ?side4 A75.out).mono ?_); (case side1 => refine (Kd.V_reads' (e := 53) (base := w.heap.size) (ok := fun k_ => (some k_ ≠ (v441 : Value).ownBlock ∧ (some k_ ≠ (v446 : Value).ownBlock ∧ (some k_ ≠ (.slice Ao89 t459.length co89 : Value).ownBlock ∧ (k_ ≠ gb418 ∧ (k_ ≠ gb425 ∧ (k_ ≠ gb444 ∧ k_ ≠ gb463))))))) (n := t433.length) (c := co53) ?_).2.2; exact (by (with_reducible repeat (first | apply Kd.V_alloc | apply Kd.V_drewN | apply Kd.V_drew)); exact (Kd.V_mono (Kd.V_far (p := ⟨gb463, 4, none⟩) (Kd.V_far (p := ⟨gb463, 3, none⟩) (Kd.V_far (p := ⟨gb463, 2, none⟩) (Kd.V_far (p := ⟨gb463, 1, none⟩) (Kd.V_far (p := ⟨gb463, 0, none⟩) (Kd.V_mono HO435.out (fun k_ hk => (⟨hk, hk.2.2.2.2.2.2⟩ : _ ∧ k_ ≠ gb463))) (fun _ hk => hk.2) (.slice Ao66 t452.length co66)) (fun _ hk => hk.2) (.int .i64 t455)) (fun _ hk => hk.2) (.string t456)) (fun _ hk => hk.2) (.int .u32 t457)) (fun _ hk => hk.2) (.bool t458)) (fun _ h_ => h_.1)))); (case side2 => exact (Kd.V_reads' HO435.out).2.1); (case side3 => refine (Kd.V_reads' (e := 53) (base := w.heap.size) (ok := fun k_ => (some k_ ≠ (v427 : Value).ownBlock ∧ (some k_ ≠ (v441 : Value).ownBlock ∧ (some k_ ≠ (.slice Ao89 t459.length co89 : Value).ownBlock ∧ (k_ ≠ gb418 ∧ (k_ ≠ gb425 ∧ (k_ ≠ gb444 ∧ k_ ≠ gb463))))))) (n := t452.length) (c := co66) ?_).2.2; exact (by (with_reducible repeat (first | apply Kd.V_alloc | apply Kd.V_drewN | apply Kd.V_drew)); exact (Kd.V_mono (Kd.V_far (p := ⟨gb463, 4, none⟩) (Kd.V_far (p := ⟨gb463, 3, none⟩) (Kd.V_far (p := ⟨gb463, 2, none⟩) (Kd.V_far (p := ⟨gb463, 1, none⟩) (Kd.V_far (p := ⟨gb463, 0, none⟩) (Kd.V_mono HO454.out (fun k_ hk => (⟨hk, hk.2.2.2.2.2.2⟩ : _ ∧ k_ ≠ gb463))) (fun _ hk => hk.2) (.slice Ao66 t452.length co66)) (fun _ hk => hk.2) (.int .i64 t455)) (fun _ hk => hk.2) (.string t456)) (fun _ hk => hk.2) (.int .u32 t457)) (fun _ hk => hk.2) (.bool t458)) (fun _ h_ => h_.1)))); (case side4 => exact (Kd.V_reads' HO454.out).2.1); rintro e w97 ⟨rfl, hb⟩; have n0_ := Aside0.mk (Kd.R_below (by (with_reducible repeat (first | apply Kd.R_alloc | apply Kd.R_drewN | apply Kd.R_drew)); exact (Kd.R_mono (Kd.R_far (p := ⟨gb463, 4, none⟩) (Kd.R_far (p := ⟨gb463, 3, none⟩) (Kd.R_far (p := ⟨gb463, 2, none⟩) (Kd.R_far (p := ⟨gb463, 1, none⟩) (Kd.R_far (p := ⟨gb463, 0, none⟩) (Kd.R_types HO428.out BK463.out (by decide)) (fun _ hk => hk.2) (.slice Ao66 t452.length co66)) (fun _ hk => hk.2) (.int .i64 t455)) (fun _ hk => hk.2) (.string t456)) (fun _ hk => hk.2) (.int .u32 t457)) (fun _ hk => hk.2) (.bool t458)) (fun _ h_ => h_.1))) hb); have n1_ := Aside0.mk (Kd.V_below (by (with_reducible repeat (first | apply Kd.V_alloc | apply Kd.V_drewN | apply Kd.V_drew)); exact (Kd.V_mono (Kd.V_far (p := ⟨gb463, 4, none⟩) (Kd.V_far (p := ⟨gb463, 3, none⟩) (Kd.V_far (p := ⟨gb463, 2, none⟩) (Kd.V_far (p := ⟨gb463, 1, none⟩) (Kd.V_far (p := ⟨gb463, 0, none⟩) (Kd.V_mono HO435.out (fun k_ hk => (⟨hk, hk.2.2.2.2.2.2⟩ : _ ∧ k_ ≠ gb463))) (fun _ hk => hk.2) (.slice Ao66 t452.length co66)) (fun _ hk => hk.2) (.int .i64 t455)) (fun _ hk => hk.2) (.string t456)) (fun _ hk => hk.2) (.int .u32 t457)) (fun _ hk => hk.2) (.bool t458)) (fun _ h_ => h_.1))) hb); have n2_ := Aside0.mk (Kd.R_below (by (with_reducible repeat (first | apply Kd.R_alloc | apply Kd.R_drewN | apply Kd.R_drew)); exact (Kd.R_mono (Kd.R_far (p := ⟨gb463, 4, none⟩) (Kd.R_far (p := ⟨gb463, 3, none⟩) (Kd.R_far (p := ⟨gb463, 2, none⟩) (Kd.R_far (p := ⟨gb463, 1, none⟩) (Kd.R_far (p := ⟨gb463, 0, none⟩) (Kd.R_types HO442.out BK463.out (by decide)) (fun _ hk => hk.2) (.slice Ao66 t452.length co66)) (fun _ hk => hk.2) (.int .i64 t455)) (fun _ hk => hk.2) (.string t456)) (fun _ hk => hk.2) (.int .u32 t457)) (fun _ hk => hk.2) (.bool t458)) (fun _ h_ => h_.1))) hb); have n3_ := Aside0.mk (Kd.R_below (by (with_reducible repeat (first | apply Kd.R_alloc | apply Kd.R_drewN | apply Kd.R_drew)); exact (Kd.R_mono (Kd.R_far (p := ⟨gb463, 4, none⟩) (Kd.R_far (p := ⟨gb463, 3, none⟩) (Kd.R_far (p := ⟨gb463, 2, none⟩) (Kd.R_far (p := ⟨gb463, 1, none⟩) (Kd.R_far (p := ⟨gb463, 0, none⟩) (Kd.R_types HO447.out BK463.out (by decide)) (fun _ hk => hk.2) (.slice Ao66 t452.length co66)) (fun _ hk => hk.2) (.int .i64 t455)) (fun _ hk => hk.2) (.string t456)) (fun _ hk => hk.2) (.int .u32 t457)) (fun _ hk => hk.2) (.bool t458)) (fun _ h_ => h_.1))) hb); have n4_ := Aside0.mk (Kd.V_below (by (with_reducible repeat (first | apply Kd.V_alloc | apply Kd.V_drewN | apply Kd.V_drew)); exact (Kd.V_mono (Kd.V_far (p := ⟨gb463, 4, none⟩) (Kd.V_far (p := ⟨gb463, 3, none⟩) (Kd.V_far (p := ⟨gb463, 2, none⟩) (Kd.V_far (p := ⟨gb463, 1, none⟩) (Kd.V_far (p := ⟨gb463, 0, none⟩) (Kd.V_mono HO454.out (fun k_ hk => (⟨hk, hk.2.2.2.2.2.2⟩ : _ ∧ k_ ≠ gb463))) (fun _ hk => hk.2) (.slice Ao66 t452.length co66)) (fun _ hk => hk.2) (.int .i64 t455)) (fun _ hk => hk.2) (.string t456)) (fun _ hk => hk.2) (.int .u32 t457)) (fun _ hk => hk.2) (.bool t458)) (fun _ h_ => h_.1))) hb); have n5_ := Aside0.mk (Kd.R_below (by (with_reducible repeat (first | apply Kd.R_alloc | apply Kd.R_drewN | apply Kd.R_drew)); exact (Kd.R_mono (Kd.R_far (p := ⟨gb463, 4, none⟩) (Kd.R_far (p := ⟨gb463, 3, none⟩) (Kd.R_far (p := ⟨gb463, 2, none⟩) (Kd.R_far (p := ⟨gb463, 1, none⟩) (Kd.R_far (p := ⟨gb463, 0, none⟩) (Kd.R_types HO461.out BK463.out (by decide)) (fun _ hk => hk.2) (.slice Ao66 t452.length co66)) (fun _ hk => hk.2) (.int .i64 t455)) (fun _ hk => hk.2) (.string t456)) (fun _ hk => hk.2) (.int .u32 t457)) (fun _ hk => hk.2) (.bool t458)) (fun _ h_ => h_.1))) hb); have n6_ := Aside0.mk (blk_below (g := gb418) (o := .cells #[.slice A0_0 l0_0.length c0_0, .int .i64 a0_1, .string a0_2, .int .u32 a0_3, .bool a0_4] 27 (0, 0)) (by (with_reducible repeat (first | refine blk_drewN ?_ _ | refine blk_drew ?_ | refine blk_alloc ?_ _ | refine blk_far ?_ NB418_463.out _)); exact BK418.out) hb); have n7_ := Aside0.mk (blk_below (g := gb425) (o := .cells #[.int .i64 9, .int .i64 0, .string a1, .int .i64 0, .int .i64 0, .string (⟨#[]⟩ : ByteArray), .bool false, .slice none 0 0, .int .u64 t423, .int .u64 0, .int .u64 0, .int .i64 (wrap64 (1 + t424)), .bool false, .int .i64 0] 31 (0, 0)) (by (with_reducible repeat (first | refine blk_drewN ?_ _ | refine blk_drew ?_ | refine blk_alloc ?_ _ | refine blk_far ?_ NB425_463.out _)); exact BK425.out) hb); have n8_ := Aside0.mk (blk_below (g := gb444) (o := .cells #[.slice Ao53 t433.length co53, .int .i64 t436, .string t437, .int .u32 t438, .bool t439] 27 (0, 0)) (by (with_reducible repeat (first | refine blk_drewN ?_ _ | refine blk_drew ?_ | refine blk_alloc ?_ _ | refine blk_far ?_ NB444_463.out _)); exact BK444.out) hb); have n9_ := Aside0.mk (blk_below (g := gb463) (o := .cells #[.slice Ao66 t452.length co66, .int .i64 t455, .string t456, .int .u32 t457, .bool t458] 27 (0, 0)) (by (with_reducible repeat (first | refine blk_drewN ?_ _ | refine blk_drew ?_ | refine blk_alloc ?_ _)); refine blk_put (cs := #[.slice Ao66 t452.length co66, .int .i64 t455, .string t456, .int .u32 t457, .bool false]) ?_ 4 _ rfl; (with_reducible repeat (first | refine blk_drewN ?_ _ | refine blk_drew ?_ | refine blk_alloc ?_ _)); refine blk_put (cs := #[.slice Ao66 t452.length co66, .int .i64 t455, .string t456, .int .u32 0, .bool false]) ?_ 3 _ rfl; (with_reducible repeat (first | refine blk_drewN ?_ _ | refine blk_drew ?_ | refine blk_alloc ?_ _)); refine blk_put (cs := #[.slice Ao66 t452.length co66, .int .i64 t455, .string (⟨#[]⟩ : ByteArray), .int .u32 0, .bool false]) ?_ 2 _ rfl; (with_reducible repeat (first | refine blk_drewN ?_ _ | refine blk_drew ?_ | refine blk_alloc ?_ _)); refine blk_put (cs := #[.slice Ao66 t452.length co66, .int .i64 0, .string (⟨#[]⟩ : ByteArray), .int .u32 0, .bool false]) ?_ 1 _ rfl; (with_reducible repeat (first | refine blk_drewN ?_ _ | refine blk_drew ?_ | refine blk_alloc ?_ _)); refine blk_put (cs := #[.slice none 0 0, .int .i64 0, .string (⟨#[]⟩ : ByteArray), .int .u32 0, .bool false]) ?_ 0 _ rfl; (with_reducible repeat (first | refine blk_drewN ?_ _ | refine blk_drew ?_ | refine blk_alloc ?_ _)); exact BK463.out) hb); have n10_ := Aside0.mk (below_step (hb_ HB) hb); clear HO428; clear HO435; clear HO442; clear HO447; clear HO454; clear HO461; clear BK418; clear BK425; clear BK444; clear BK463; clear HB; have HO428 := n0_; have HO435 := n1_; have HO442 := n2_; have HO447 := n3_; have HO454 := n4_; have HO461 := n5_; have BK418 := n6_; have BK425 := n7_; have BK444 := n8_; have BK463 := n9_; have HB := n10_; clear n0_ n1_ n2_ n3_ n4_ n5_ n6_ n7_ n8_ n9_ n10_; (try clear hb); (try clear hb2); (try clear hk); (try clear hi)))
     go_meet
     case rel => exact ⟨_, (true), (by first | rfl | (simp; done) | (simp [*]; done)), H', ⟨by have := HJ3.out; first | omega | exact Nat.le_refl _⟩, ⟨by (with_reducible repeat (first | apply Kd.V_alloc | apply Kd.V_drewN | apply Kd.V_drew)); exact Kd.V_mono HO435.out (fun _ hk => ⟨hk.2.2.2.1, ⟨hk.2.2.2.2.1, ⟨hk.2.2.2.2.2.1, hk.2.2.2.2.2.2⟩⟩⟩)⟩, ⟨by (with_reducible repeat (first | apply Kd.V_alloc | apply Kd.V_drewN | apply Kd.V_drew)); exact Kd.V_mono HO454.out (fun _ hk => ⟨hk.2.2.2.1, ⟨hk.2.2.2.2.1, ⟨hk.2.2.2.2.2.1, hk.2.2.2.2.2.2⟩⟩⟩)⟩, ⟨bk_ BK418⟩, ⟨bk_ BK425⟩, ⟨bk_ BK444⟩, ⟨bk_ BK463⟩, ⟨hb_ HB⟩⟩
    subst c76
    have H1 := H
    rw [if_pos rfl] at H1
    clear H
    have H := H1
    clear H1
    have H' := Aside0.mk H
    clear H
    obtain ⟨Ao77, co77, eo77⟩ := Kd.R_slice HO461.out
    subst eo77
    have hnb78 := NB444_418.out
    have hnc78 := NB418_444.out
    have hnb79 := NB444_425.out
    have hnc79 := NB425_444.out
    have hnb80 := NB444_463.out
    have hnc80 := NB463_444.out
    have hcz81_0 : w65.cell? ⟨gb444, 0, none⟩ = some (.slice Ao53 t433.length co53) := (blk_cell BK444.out 0).trans rfl
    have hcz81_1 : w65.cell? ⟨gb444, 1, none⟩ = some (.int .i64 t436) := (blk_cell BK444.out 1).trans rfl
    have hcz81_2 : w65.cell? ⟨gb444, 2, none⟩ = some (.string t437) := (blk_cell BK444.out 2).trans rfl
    have hcz81_3 : w65.cell? ⟨gb444, 3, none⟩ = some (.int .u32 t438) := (blk_cell BK444.out 3).trans rfl
    have hcz81_4 : w65.cell? ⟨gb444, 4, none⟩ = some (.bool t439) := (blk_cell BK444.out 4).trans rfl
    have hfz81_0 := blk_frozen BK444.out 0
    have hfz81_1 := blk_frozen BK444.out 1
    have hfz81_2 := blk_frozen BK444.out 2
    have hfz81_3 := blk_frozen BK444.out 3
    have hfz81_4 := blk_frozen BK444.out 4
    have hnb82 := NB463_418.out
    have hnc82 := NB418_463.out
    have hnb83 := NB463_425.out
    have hnc83 := NB425_463.out
    have hcz84_0 : w65.cell? ⟨gb463, 0, none⟩ = some (.slice none 0 0) := (blk_cell BK463.out 0).trans rfl
    have hcz84_1 : w65.cell? ⟨gb463, 1, none⟩ = some (.int .i64 0) := (blk_cell BK463.out 1).trans rfl
    have hcz84_2 : w65.cell? ⟨gb463, 2, none⟩ = some (.string (⟨#[]⟩ : ByteArray)) := (blk_cell BK463.out 2).trans rfl
    have hcz84_3 : w65.cell? ⟨gb463, 3, none⟩ = some (.int .u32 0) := (blk_cell BK463.out 3).trans rfl
    have hcz84_4 : w65.cell? ⟨gb463, 4, none⟩ = some (.bool false) := (blk_cell BK463.out 4).trans rfl
    have hfz84_0 := blk_frozen BK463.out 0
    have hfz84_1 := blk_frozen BK463.out 1
    have hfz84_2 := blk_frozen BK463.out 2
    have hfz84_3 := blk_frozen BK463.out 3
    have hfz84_4 := blk_frozen BK463.out 4
    go_wp2_with (first | (go_at_call 17; (with_reducible refine (headgatekeep_Tables.calls kj3 _ _ t433 t436 t437 t438 t439 _ _ t452 t455 t456 t457 t458 true _ ?side1 ?side2 ?side3 ?side4 A75.out).mono ?_); (case side1 => refine (Kd.V_reads' (e := 53) (base := w.heap.size) (ok := fun k_ => (some k_ ≠ (v441 : Value).ownBlock ∧ (some k_ ≠ (v446 : Value).ownBlock ∧ (some k_ ≠ (.slice Ao77 t459.length co77 : Value).ownBlock ∧ (k_ ≠ gb418 ∧ (k_ ≠ gb425 ∧ (k_ ≠ gb444 ∧ k_ ≠ gb463))))))) (n := t433.length) (c := co53) ?_).2.2; exact (by (with_reducible repeat (first | apply Kd.V_alloc | apply Kd.V_drewN | apply Kd.V_drew)); exact (Kd.V_mono (Kd.V_far (p := ⟨gb463, 4, none⟩) (Kd.V_far (p := ⟨gb463, 3, none⟩) (Kd.V_far (p := ⟨gb463, 2, none⟩) (Kd.V_far (p := ⟨gb463, 1, none⟩) (Kd.V_far (p := ⟨gb463, 0, none⟩) (Kd.V_mono HO435.out (fun k_ hk => (⟨hk, hk.2.2.2.2.2.2⟩ : _ ∧ k_ ≠ gb463))) (fun _ hk => hk.2) (.slice Ao66 t452.length co66)) (fun _ hk => hk.2) (.int .i64 t455)) (fun _ hk => hk.2) (.string t456)) (fun _ hk => hk.2) (.int .u32 t457)) (fun _ hk => hk.2) (.bool t458)) (fun _ h_ => h_.1)))); (case side2 => exact (Kd.V_reads' HO435.out).2.1); (case side3 => refine (Kd.V_reads' (e := 53) (base := w.heap.size) (ok := fun k_ => (some k_ ≠ (v427 : Value).ownBlock ∧ (some k_ ≠ (v441 : Value).ownBlock ∧ (some k_ ≠ (.slice Ao77 t459.length co77 : Value).ownBlock ∧ (k_ ≠ gb418 ∧ (k_ ≠ gb425 ∧ (k_ ≠ gb444 ∧ k_ ≠ gb463))))))) (n := t452.length) (c := co66) ?_).2.2; exact (by (with_reducible repeat (first | apply Kd.V_alloc | apply Kd.V_drewN | apply Kd.V_drew)); exact (Kd.V_mono (Kd.V_far (p := ⟨gb463, 4, none⟩) (Kd.V_far (p := ⟨gb463, 3, none⟩) (Kd.V_far (p := ⟨gb463, 2, none⟩) (Kd.V_far (p := ⟨gb463, 1, none⟩) (Kd.V_far (p := ⟨gb463, 0, none⟩) (Kd.V_mono HO454.out (fun k_ hk => (⟨hk, hk.2.2.2.2.2.2⟩ : _ ∧ k_ ≠ gb463))) (fun _ hk => hk.2) (.slice Ao66 t452.length co66)) (fun _ hk => hk.2) (.int .i64 t455)) (fun _ hk => hk.2) (.string t456)) (fun _ hk => hk.2) (.int .u32 t457)) (fun _ hk => hk.2) (.bool t458)) (fun _ h_ => h_.1)))); (case side4 => exact (Kd.V_reads' HO454.out).2.1); rintro e w85 ⟨rfl, hb⟩; have n0_ := Aside0.mk (Kd.R_below (by (with_reducible repeat (first | apply Kd.R_alloc | apply Kd.R_drewN | apply Kd.R_drew)); exact (Kd.R_mono (Kd.R_far (p := ⟨gb463, 4, none⟩) (Kd.R_far (p := ⟨gb463, 3, none⟩) (Kd.R_far (p := ⟨gb463, 2, none⟩) (Kd.R_far (p := ⟨gb463, 1, none⟩) (Kd.R_far (p := ⟨gb463, 0, none⟩) (Kd.R_types HO428.out BK463.out (by decide)) (fun _ hk => hk.2) (.slice Ao66 t452.length co66)) (fun _ hk => hk.2) (.int .i64 t455)) (fun _ hk => hk.2) (.string t456)) (fun _ hk => hk.2) (.int .u32 t457)) (fun _ hk => hk.2) (.bool t458)) (fun _ h_ => h_.1))) hb); have n1_ := Aside0.mk (Kd.V_below (by (with_reducible repeat (first | apply Kd.V_alloc | apply Kd.V_drewN | apply Kd.V_drew)); exact (Kd.V_mono (Kd.V_far (p := ⟨gb463, 4, none⟩) (Kd.V_far (p := ⟨gb463, 3, none⟩) (Kd.V_far (p := ⟨gb463, 2, none⟩) (Kd.V_far (p := ⟨gb463, 1, none⟩) (Kd.V_far (p := ⟨gb463, 0, none⟩) (Kd.V_mono HO435.out (fun k_ hk => (⟨hk, hk.2.2.2.2.2.2⟩ : _ ∧ k_ ≠ gb463))) (fun _ hk => hk.2) (.slice Ao66 t452.length co66)) (fun _ hk => hk.2) (.int .i64 t455)) (fun _ hk => hk.2) (.string t456)) (fun _ hk => hk.2) (.int .u32 t457)) (fun _ hk => hk.2) (.bool t458)) (fun _ h_ => h_.1))) hb); have n2_ := Aside0.mk (Kd.R_below (by (with_reducible repeat (first | apply Kd.R_alloc | apply Kd.R_drewN | apply Kd.R_drew)); exact (Kd.R_mono (Kd.R_far (p := ⟨gb463, 4, none⟩) (Kd.R_far (p := ⟨gb463, 3, none⟩) (Kd.R_far (p := ⟨gb463, 2, none⟩) (Kd.R_far (p := ⟨gb463, 1, none⟩) (Kd.R_far (p := ⟨gb463, 0, none⟩) (Kd.R_types HO442.out BK463.out (by decide)) (fun _ hk => hk.2) (.slice Ao66 t452.length co66)) (fun _ hk => hk.2) (.int .i64 t455)) (fun _ hk => hk.2) (.string t456)) (fun _ hk => hk.2) (.int .u32 t457)) (fun _ hk => hk.2) (.bool t458)) (fun _ h_ => h_.1))) hb); have n3_ := Aside0.mk (Kd.R_below (by (with_reducible repeat (first | apply Kd.R_alloc | apply Kd.R_drewN | apply Kd.R_drew)); exact (Kd.R_mono (Kd.R_far (p := ⟨gb463, 4, none⟩) (Kd.R_far (p := ⟨gb463, 3, none⟩) (Kd.R_far (p := ⟨gb463, 2, none⟩) (Kd.R_far (p := ⟨gb463, 1, none⟩) (Kd.R_far (p := ⟨gb463, 0, none⟩) (Kd.R_types HO447.out BK463.out (by decide)) (fun _ hk => hk.2) (.slice Ao66 t452.length co66)) (fun _ hk => hk.2) (.int .i64 t455)) (fun _ hk => hk.2) (.string t456)) (fun _ hk => hk.2) (.int .u32 t457)) (fun _ hk => hk.2) (.bool t458)) (fun _ h_ => h_.1))) hb); have n4_ := Aside0.mk (Kd.V_below (by (with_reducible repeat (first | apply Kd.V_alloc | apply Kd.V_drewN | apply Kd.V_drew)); exact (Kd.V_mono (Kd.V_far (p := ⟨gb463, 4, none⟩) (Kd.V_far (p := ⟨gb463, 3, none⟩) (Kd.V_far (p := ⟨gb463, 2, none⟩) (Kd.V_far (p := ⟨gb463, 1, none⟩) (Kd.V_far (p := ⟨gb463, 0, none⟩) (Kd.V_mono HO454.out (fun k_ hk => (⟨hk, hk.2.2.2.2.2.2⟩ : _ ∧ k_ ≠ gb463))) (fun _ hk => hk.2) (.slice Ao66 t452.length co66)) (fun _ hk => hk.2) (.int .i64 t455)) (fun _ hk => hk.2) (.string t456)) (fun _ hk => hk.2) (.int .u32 t457)) (fun _ hk => hk.2) (.bool t458)) (fun _ h_ => h_.1))) hb); have n5_ := Aside0.mk (Kd.R_below (by (with_reducible repeat (first | apply Kd.R_alloc | apply Kd.R_drewN | apply Kd.R_drew)); exact (Kd.R_mono (Kd.R_far (p := ⟨gb463, 4, none⟩) (Kd.R_far (p := ⟨gb463, 3, none⟩) (Kd.R_far (p := ⟨gb463, 2, none⟩) (Kd.R_far (p := ⟨gb463, 1, none⟩) (Kd.R_far (p := ⟨gb463, 0, none⟩) (Kd.R_types HO461.out BK463.out (by decide)) (fun _ hk => hk.2) (.slice Ao66 t452.length co66)) (fun _ hk => hk.2) (.int .i64 t455)) (fun _ hk => hk.2) (.string t456)) (fun _ hk => hk.2) (.int .u32 t457)) (fun _ hk => hk.2) (.bool t458)) (fun _ h_ => h_.1))) hb); have n6_ := Aside0.mk (blk_below (g := gb418) (o := .cells #[.slice A0_0 l0_0.length c0_0, .int .i64 a0_1, .string a0_2, .int .u32 a0_3, .bool a0_4] 27 (0, 0)) (by (with_reducible repeat (first | refine blk_drewN ?_ _ | refine blk_drew ?_ | refine blk_alloc ?_ _ | refine blk_far ?_ NB418_463.out _)); exact BK418.out) hb); have n7_ := Aside0.mk (blk_below (g := gb425) (o := .cells #[.int .i64 9, .int .i64 0, .string a1, .int .i64 0, .int .i64 0, .string (⟨#[]⟩ : ByteArray), .bool false, .slice none 0 0, .int .u64 t423, .int .u64 0, .int .u64 0, .int .i64 (wrap64 (1 + t424)), .bool false, .int .i64 0] 31 (0, 0)) (by (with_reducible repeat (first | refine blk_drewN ?_ _ | refine blk_drew ?_ | refine blk_alloc ?_ _ | refine blk_far ?_ NB425_463.out _)); exact BK425.out) hb); have n8_ := Aside0.mk (blk_below (g := gb444) (o := .cells #[.slice Ao53 t433.length co53, .int .i64 t436, .string t437, .int .u32 t438, .bool t439] 27 (0, 0)) (by (with_reducible repeat (first | refine blk_drewN ?_ _ | refine blk_drew ?_ | refine blk_alloc ?_ _ | refine blk_far ?_ NB444_463.out _)); exact BK444.out) hb); have n9_ := Aside0.mk (blk_below (g := gb463) (o := .cells #[.slice Ao66 t452.length co66, .int .i64 t455, .string t456, .int .u32 t457, .bool t458] 27 (0, 0)) (by (with_reducible repeat (first | refine blk_drewN ?_ _ | refine blk_drew ?_ | refine blk_alloc ?_ _)); refine blk_put (cs := #[.slice Ao66 t452.length co66, .int .i64 t455, .string t456, .int .u32 t457, .bool false]) ?_ 4 _ rfl; (with_reducible repeat (first | refine blk_drewN ?_ _ | refine blk_drew ?_ | refine blk_alloc ?_ _)); refine blk_put (cs := #[.slice Ao66 t452.length co66, .int .i64 t455, .string t456, .int .u32 0, .bool false]) ?_ 3 _ rfl; (with_reducible repeat (first | refine blk_drewN ?_ _ | refine blk_drew ?_ | refine blk_alloc ?_ _)); refine blk_put (cs := #[.slice Ao66 t452.length co66, .int .i64 t455, .string (⟨#[]⟩ : ByteArray), .int .u32 0, .bool false]) ?_ 2 _ rfl; (with_reducible repeat (first | refine blk_drewN ?_ _ | refine blk_drew ?_ | refine blk_alloc ?_ _)); refine blk_put (cs := #[.slice Ao66 t452.length co66, .int .i64 0, .string (⟨#[]⟩ : ByteArray), .int .u32 0, .bool false]) ?_ 1 _ rfl; (with_reducible repeat (first | refine blk_drewN ?_ _ | refine blk_drew ?_ | refine blk_alloc ?_ _)); refine blk_put (cs := #[.slice none 0 0, .int .i64 0, .string (⟨#[]⟩ : ByteArray), .int .u32 0, .bool false]) ?_ 0 _ rfl; (with_reducible repeat (first | refine blk_drewN ?_ _ | refine blk_drew ?_ | refine blk_alloc ?_ _)); exact BK463.out) hb); have n10_ := Aside0.mk (below_step (hb_ HB) hb); clear HO428; clear HO435; clear HO442; clear HO447; clear HO454; clear HO461; clear BK418; clear BK425; clear BK444; clear BK463; clear HB; have HO428 := n0_; have HO435 := n1_; have HO442 := n2_; have HO447 := n3_; have HO454 := n4_; have HO461 := n5_; have BK418 := n6_; have BK425 := n7_; have BK444 := n8_; have BK463 := n9_; have HB := n10_; clear n0_ n1_ n2_ n3_ n4_ n5_ n6_ n7_ n8_ n9_ n10_; (try clear hb); (try clear hb2); (try clear hk); (try clear hi); have hcz86_0 : w85.cell? ⟨gb444, 0, none⟩ = some (.slice Ao53 t433.length co53) := (blk_cell BK444.out 0).trans rfl; have hcz86_1 : w85.cell? ⟨gb444, 1, none⟩ = some (.int .i64 t436) := (blk_cell BK444.out 1).trans rfl; have hcz86_2 : w85.cell? ⟨gb444, 2, none⟩ = some (.string t437) := (blk_cell BK444.out 2).trans rfl; have hcz86_3 : w85.cell? ⟨gb444, 3, none⟩ = some (.int .u32 t438) := (blk_cell BK444.out 3).trans rfl; have hcz86_4 : w85.cell? ⟨gb444, 4, none⟩ = some (.bool t439) := (blk_cell BK444.out 4).trans rfl; have hfz86_0 := blk_frozen BK444.out 0; have hfz86_1 := blk_frozen BK444.out 1; have hfz86_2 := blk_frozen BK444.out 2; have hfz86_3 := blk_frozen BK444.out 3; have hfz86_4 := blk_frozen BK444.out 4; have hnb87 := NB418_425.out; have hnc87 := NB425_418.out; have hcz88_0 : w85.cell? ⟨gb418, 0, none⟩ = some (.slice A0_0 l0_0.length c0_0) := (blk_cell BK418.out 0).trans rfl; have hcz88_1 : w85.cell? ⟨gb418, 1, none⟩ = some (.int .i64 a0_1) := (blk_cell BK418.out 1).trans rfl; have hcz88_2 : w85.cell? ⟨gb418, 2, none⟩ = some (.string a0_2) := (blk_cell BK418.out 2).trans rfl; have hcz88_3 : w85.cell? ⟨gb418, 3, none⟩ = some (.int .u32 a0_3) := (blk_cell BK418.out 3).trans rfl; have hcz88_4 : w85.cell? ⟨gb418, 4, none⟩ = some (.bool a0_4) := (blk_cell BK418.out 4).trans rfl; have hfz88_0 := blk_frozen BK418.out 0; have hfz88_1 := blk_frozen BK418.out 1; have hfz88_2 := blk_frozen BK418.out 2; have hfz88_3 := blk_frozen BK418.out 3; have hfz88_4 := blk_frozen BK418.out 4))
    go_meet
    case rel => exact ⟨_, ((t438 != a0_3)), (by first | rfl | (simp; done) | (simp [*]; done)), H', ⟨by have := HJ3.out; first | omega | exact Nat.le_refl _⟩, ⟨by (with_reducible repeat (first | apply Kd.V_alloc | apply Kd.V_drewN | apply Kd.V_drew)); exact Kd.V_mono HO435.out (fun _ hk => ⟨hk.2.2.2.1, ⟨hk.2.2.2.2.1, ⟨hk.2.2.2.2.2.1, hk.2.2.2.2.2.2⟩⟩⟩)⟩, ⟨by (with_reducible repeat (first | apply Kd.V_alloc | apply Kd.V_drewN | apply Kd.V_drew)); exact Kd.V_mono HO454.out (fun _ hk => ⟨hk.2.2.2.1, ⟨hk.2.2.2.2.1, ⟨hk.2.2.2.2.2.1, hk.2.2.2.2.2.2⟩⟩⟩)⟩, ⟨bk_ BK418⟩, ⟨bk_ BK425⟩, ⟨bk_ BK444⟩, ⟨bk_ BK463⟩, ⟨hb_ HB⟩⟩
   case rest =>
    clear HC40
    try clear c1
    try clear p2
    try clear p6
    try clear c7
    try clear c8
    try clear c9
    try clear c14
    try clear c15
    try clear p64
    try clear c72
    try clear c72b0
    try clear c72b1
    try clear c73
    try clear c73b0
    try clear c73b1
    try clear c74
    try clear c74b0
    try clear c74b1
    try clear c74b2
    try clear c76
    try clear c78
    try clear c79
    try clear c80
    try clear c82
    try clear c83
    try clear c87
    try clear c90
    try clear c91
    try clear c92
    try clear c94
    try clear c95
    try clear hcz81_0
    try clear hcz81_1
    try clear hcz81_2
    try clear hcz81_3
    try clear hcz81_4
    try clear hcz84_0
    try clear hcz84_1
    try clear hcz84_2
    try clear hcz84_3
    try clear hcz84_4
    try clear hcz86_0
    try clear hcz86_1
    try clear hcz86_2
    try clear hcz86_3
    try clear hcz86_4
    try clear hcz88_0
    try clear hcz88_1
    try clear hcz88_2
    try clear hcz88_3
    try clear hcz88_4
    try clear hcz93_0
    try clear hcz93_1
    try clear hcz93_2
    try clear hcz93_3
    try clear hcz93_4
    try clear hcz96_0
    try clear hcz96_1
    try clear hcz96_2
    try clear hcz96_3
    try clear hcz96_4
    try clear hfz81_0
    try clear hfz81_1
    try clear hfz81_2
    try clear hfz81_3
    try clear hfz81_4
    try clear hfz84_0
    try clear hfz84_1
    try clear hfz84_2
    try clear hfz84_3
    try clear hfz84_4
    try clear hfz86_0
    try clear hfz86_1
    try clear hfz86_2
    try clear hfz86_3
    try clear hfz86_4
    try clear hfz88_0
    try clear hfz88_1
    try clear hfz88_2
    try clear hfz88_3
    try clear hfz88_4
    try clear hfz93_0
    try clear hfz93_1
    try clear hfz93_2
    try clear hfz93_3
    try clear hfz93_4
    try clear hfz96_0
    try clear hfz96_1
    try clear hfz96_2
    try clear hfz96_3
    try clear hfz96_4
    obtain ⟨kq, x85_39, rfl, HA, HJ39, HO_445000, HO_464000, BK418, BK425, BK444, BK463, HB⟩ := hcut
    cases kq with
    | zero => exact absurd HA.out (by simp [headgatelaw11_ResvTwice.j1])
    | succ kj39 =>
     have H := HA.out
     clear HA
     simp only [headgatelaw11_ResvTwice.j1] at H
     by_cases c99 : x85_39 = true
     ·subst c99
      have H1 := H
      rw [if_pos rfl] at H1
      clear H
      have H := H1
      clear H1
      exact absurd ((Option.some.inj H).trans HT0.out) (by decide)
     replace c99 := Bool.eq_false_iff.mpr c99
     subst c99
     have H1 := H
     rw [if_neg (show ¬ (false = true) by decide)] at H1
     clear H
     have H := H1
     clear H1
     replace H := Option.bind_eq_some_iff.mp H
     obtain ⟨⟨t465, t468, t469, t470, t471⟩, A1000, H⟩ := H
     try dsimp only at H
     have A100 := Aside0.mk A1000
     clear A1000
     replace H := Option.bind_eq_some_iff.mp H
     obtain ⟨⟨t472, t475, t476, t477, t478, t479, t482⟩, A1010, H⟩ := H
     try dsimp only at H
     have A101 := Aside0.mk A1010
     clear A1010
     have HC102 := Aside0.mk H
     clear H
     have hnb103 := NB425_418.out
     have hnc103 := NB418_425.out
     have hnb104 := NB425_444.out
     have hnc104 := NB444_425.out
     have hnb105 := NB425_463.out
     have hnc105 := NB463_425.out
     have hcz106_0 : wc.cell? ⟨gb425, 0, none⟩ = some (.int .i64 9) := (blk_cell BK425.out 0).trans rfl
     have hcz106_1 : wc.cell? ⟨gb425, 1, none⟩ = some (.int .i64 0) := (blk_cell BK425.out 1).trans rfl
     have hcz106_2 : wc.cell? ⟨gb425, 2, none⟩ = some (.string a1) := (blk_cell BK425.out 2).trans rfl
     have hcz106_3 : wc.cell? ⟨gb425, 3, none⟩ = some (.int .i64 0) := (blk_cell BK425.out 3).trans rfl
     have hcz106_4 : wc.cell? ⟨gb425, 4, none⟩ = some (.int .i64 0) := (blk_cell BK425.out 4).trans rfl
     have hcz106_5 : wc.cell? ⟨gb425, 5, none⟩ = some (.string (⟨#[]⟩ : ByteArray)) := (blk_cell BK425.out 5).trans rfl
     have hcz106_6 : wc.cell? ⟨gb425, 6, none⟩ = some (.bool false) := (blk_cell BK425.out 6).trans rfl
     have hcz106_7 : wc.cell? ⟨gb425, 7, none⟩ = some (.slice none 0 0) := (blk_cell BK425.out 7).trans rfl
     have hcz106_8 : wc.cell? ⟨gb425, 8, none⟩ = some (.int .u64 t423) := (blk_cell BK425.out 8).trans rfl
     have hcz106_9 : wc.cell? ⟨gb425, 9, none⟩ = some (.int .u64 0) := (blk_cell BK425.out 9).trans rfl
     have hcz106_10 : wc.cell? ⟨gb425, 10, none⟩ = some (.int .u64 0) := (blk_cell BK425.out 10).trans rfl
     have hcz106_11 : wc.cell? ⟨gb425, 11, none⟩ = some (.int .i64 (wrap64 (1 + t424))) := (blk_cell BK425.out 11).trans rfl
     have hcz106_12 : wc.cell? ⟨gb425, 12, none⟩ = some (.bool false) := (blk_cell BK425.out 12).trans rfl
     have hcz106_13 : wc.cell? ⟨gb425, 13, none⟩ = some (.int .i64 0) := (blk_cell BK425.out 13).trans rfl
     have hfz106_0 := blk_frozen BK425.out 0
     have hfz106_1 := blk_frozen BK425.out 1
     have hfz106_2 := blk_frozen BK425.out 2
     have hfz106_3 := blk_frozen BK425.out 3
     have hfz106_4 := blk_frozen BK425.out 4
     have hfz106_5 := blk_frozen BK425.out 5
     have hfz106_6 := blk_frozen BK425.out 6
     have hfz106_7 := blk_frozen BK425.out 7
     have hfz106_8 := blk_frozen BK425.out 8
     have hfz106_9 := blk_frozen BK425.out 9
     have hfz106_10 := blk_frozen BK425.out 10
     have hfz106_11 := blk_frozen BK425.out 11
     have hfz106_12 := blk_frozen BK425.out 12
     have hfz106_13 := blk_frozen BK425.out 13
     try go_wp2
     have n0_ : Aside0 (Kd.V k53 53 (wc.setCell ⟨gb425, 0, none⟩ (.int .i64 10)) w.heap.size (fun k_ => k_ ≠ gb418 ∧ k_ ≠ gb425 ∧ k_ ≠ gb444 ∧ k_ ≠ gb463) (.slice Ao53 t433.length co53) t433) := ⟨by (with_reducible repeat (first | apply Kd.V_alloc | apply Kd.V_drewN | apply Kd.V_drew)); exact Kd.V_mono (Kd.V_far (p := ⟨gb425, 0, none⟩) (Kd.V_mono HO_445000.out (fun k_ hk => (⟨hk, hk.2.1⟩ : _ ∧ k_ ≠ gb425))) (fun _ hk => hk.2) (.int .i64 10)) (fun _ hk => ⟨hk.1.1, ⟨hk.1.2.1, ⟨hk.1.2.2.1, hk.1.2.2.2⟩⟩⟩)⟩
     have n1_ : Aside0 (Kd.V k53 53 (wc.setCell ⟨gb425, 0, none⟩ (.int .i64 10)) w.heap.size (fun k_ => k_ ≠ gb418 ∧ k_ ≠ gb425 ∧ k_ ≠ gb444 ∧ k_ ≠ gb463) (.slice Ao66 t452.length co66) t452) := ⟨by (with_reducible repeat (first | apply Kd.V_alloc | apply Kd.V_drewN | apply Kd.V_drew)); exact Kd.V_mono (Kd.V_far (p := ⟨gb425, 0, none⟩) (Kd.V_mono HO_464000.out (fun k_ hk => (⟨hk, hk.2.1⟩ : _ ∧ k_ ≠ gb425))) (fun _ hk => hk.2) (.int .i64 10)) (fun _ hk => ⟨hk.1.1, ⟨hk.1.2.1, ⟨hk.1.2.2.1, hk.1.2.2.2⟩⟩⟩)⟩
     have n2_ : Aside0 ((wc.setCell ⟨gb425, 0, none⟩ (.int .i64 10)).heap[gb418]? = some (.cells #[.slice A0_0 l0_0.length c0_0, .int .i64 a0_1, .string a0_2, .int .u32 a0_3, .bool a0_4] 27 (0, 0))) := ⟨by (with_reducible repeat (first | refine blk_drewN ?_ _ | refine blk_drew ?_ | refine blk_alloc ?_ _ | refine blk_far ?_ NB418_425.out _)); exact BK418.out⟩
     have n3_ : Aside0 ((wc.setCell ⟨gb425, 0, none⟩ (.int .i64 10)).heap[gb425]? = some (.cells #[.int .i64 10, .int .i64 0, .string a1, .int .i64 0, .int .i64 0, .string (⟨#[]⟩ : ByteArray), .bool false, .slice none 0 0, .int .u64 t423, .int .u64 0, .int .u64 0, .int .i64 (wrap64 (1 + t424)), .bool false, .int .i64 0] 31 (0, 0))) := ⟨by (with_reducible repeat (first | refine blk_drewN ?_ _ | refine blk_drew ?_ | refine blk_alloc ?_ _)); refine blk_put (cs := #[.int .i64 9, .int .i64 0, .string a1, .int .i64 0, .int .i64 0, .string (⟨#[]⟩ : ByteArray), .bool false, .slice none 0 0, .int .u64 t423, .int .u64 0, .int .u64 0, .int .i64 (wrap64 (1 + t424)), .bool false, .int .i64 0]) ?_ 0 _ rfl; (with_reducible repeat (first | refine blk_drewN ?_ _ | refine blk_drew ?_ | refine blk_alloc ?_ _)); exact BK425.out⟩
     have n4_ : Aside0 ((wc.setCell ⟨gb425, 0, none⟩ (.int .i64 10)).heap[gb444]? = some (.cells #[.slice Ao53 t433.length co53, .int .i64 t436, .string t437, .int .u32 t438, .bool t439] 27 (0, 0))) := ⟨by (with_reducible repeat (first | refine blk_drewN ?_ _ | refine blk_drew ?_ | refine blk_alloc ?_ _ | refine blk_far ?_ NB444_425.out _)); exact BK444.out⟩
     have n5_ : Aside0 ((wc.setCell ⟨gb425, 0, none⟩ (.int .i64 10)).heap[gb463]? = some (.cells #[.slice Ao66 t452.length co66, .int .i64 t455, .string t456, .int .u32 t457, .bool t458] 27 (0, 0))) := ⟨by (with_reducible repeat (first | refine blk_drewN ?_ _ | refine blk_drew ?_ | refine blk_alloc ?_ _ | refine blk_far ?_ NB463_425.out _)); exact BK463.out⟩
     have n6_ : Aside0 (Below w.heap.size w (wc.setCell ⟨gb425, 0, none⟩ (.int .i64 10))) := ⟨hb_ HB⟩
     (try clear HO_445000)
     (try clear HO_464000)
     (try clear BK418)
     (try clear BK425)
     (try clear BK444)
     (try clear BK463)
     (try clear HB)
     generalize (wc.setCell ⟨gb425, 0, none⟩ (.int .i64 10)) = w107 at n0_ n1_ n2_ n3_ n4_ n5_ n6_ ⊢
     have HO_445000 := n0_
     have HO_464000 := n1_
     have BK418 := n2_
     have BK425 := n3_
     have BK444 := n4_
     have BK463 := n5_
     have HB := n6_
     clear n0_ n1_ n2_ n3_ n4_ n5_ n6_
     have n0_ := Aside0.mk (Kd.V_drew HO_445000.out)
     have n1_ := Aside0.mk (Kd.V_drew HO_464000.out)
     have n2_ := Aside0.mk (blk_drew BK418.out)
     have n3_ := Aside0.mk (blk_drew BK425.out)
     have n4_ := Aside0.mk (blk_drew BK444.out)
     have n5_ := Aside0.mk (blk_drew BK463.out)
     have n6_ := Aside0.mk (below_drew1 HB.out)
     clear HO_445000
     clear HO_464000
     clear BK418
     clear BK425
     clear BK444
     clear BK463
     clear HB
     have HO_445000 := n0_
     have HO_464000 := n1_
     have BK418 := n2_
     have BK425 := n3_
     have BK444 := n4_
     have BK463 := n5_
     have HB := n6_
     clear n0_ n1_ n2_ n3_ n4_ n5_ n6_
     refine start_ (n := 12) (S := fun w' => w'.cell? ⟨gb463, 0, none⟩ = some (.slice Ao66 t452.length co66) ∧ w'.cell? ⟨gb463, 1, none⟩ = some (.int .i64 t455) ∧ w'.cell? ⟨gb463, 2, none⟩ = some (.string t456) ∧ w'.cell? ⟨gb463, 3, none⟩ = some (.int .u32 t457) ∧ w'.cell? ⟨gb463, 4, none⟩ = some (.bool t458) ∧ w'.cell? ⟨gb425, 0, none⟩ = some (.int .i64 10) ∧ w'.cell? ⟨gb425, 1, none⟩ = some (.int .i64 0) ∧ w'.cell? ⟨gb425, 2, none⟩ = some (.string a1) ∧ w'.cell? ⟨gb425, 3, none⟩ = some (.int .i64 0) ∧ w'.cell? ⟨gb425, 4, none⟩ = some (.int .i64 0) ∧ w'.cell? ⟨gb425, 5, none⟩ = some (.string (⟨#[]⟩ : ByteArray)) ∧ w'.cell? ⟨gb425, 6, none⟩ = some (.bool false) ∧ w'.cell? ⟨gb425, 7, none⟩ = some (.slice none 0 0) ∧ w'.cell? ⟨gb425, 8, none⟩ = some (.int .u64 t423) ∧ w'.cell? ⟨gb425, 9, none⟩ = some (.int .u64 0) ∧ w'.cell? ⟨gb425, 10, none⟩ = some (.int .u64 0) ∧ w'.cell? ⟨gb425, 11, none⟩ = some (.int .i64 (wrap64 (1 + t424))) ∧ w'.cell? ⟨gb425, 12, none⟩ = some (.bool false) ∧ w'.cell? ⟨gb425, 13, none⟩ = some (.int .i64 0)) (ds := []) d7x0 (by kernel_rfl) rfl rfl ⟨(blk_cell BK463.out 0).trans rfl, (blk_cell BK463.out 1).trans rfl, (blk_cell BK463.out 2).trans rfl, (blk_cell BK463.out 3).trans rfl, (blk_cell BK463.out 4).trans rfl, (blk_cell BK425.out 0).trans rfl, (blk_cell BK425.out 1).trans rfl, (blk_cell BK425.out 2).trans rfl, (blk_cell BK425.out 3).trans rfl, (blk_cell BK425.out 4).trans rfl, (blk_cell BK425.out 5).trans rfl, (blk_cell BK425.out 6).trans rfl, (blk_cell BK425.out 7).trans rfl, (blk_cell BK425.out 8).trans rfl, (blk_cell BK425.out 9).trans rfl, (blk_cell BK425.out 10).trans rfl, (blk_cell BK425.out 11).trans rfl, (blk_cell BK425.out 12).trans rfl, (blk_cell BK425.out 13).trans rfl⟩ (fun hHeld => ?_); refine with_tabW headgatelaw11_ResvTwice.tab9 headgatelaw11_ResvTwice.bits9 (fun HT_ HW_ => ?_)
     generalize w107.drew = w108 at HO_445000 HO_464000 BK418 BK425 BK444 BK463 HB hHeld ⊢
     refine ptk_ 0 (some 88) d7x1 HT_.out HW_.out hHeld ?_
     refine ptk_ 2 (some 90) d7x2 HT_.out HW_.out hHeld ?_
     refine join_ (σ := Value × Value × Value × Nat) 3 d7x15 (fun s_ => [(89, .agg #[s_.1, .int .i64 t468, .string t469, .int .u32 t470, .bool t471]), (91, .tuple #[.agg #[s_.2.1, .int .i64 t475, .string t476, .int .u32 t477, .bool t478], s_.2.2.1, .int .i64 t482]), (14, .pointer (some ⟨s_.2.2.2, 0, none⟩)), (87, .tuple #[.agg #[s_.2.1, .int .i64 t475, .string t476, .int .u32 t477, .bool t478], s_.2.2.1, .int .i64 t482]), (92, .agg #[s_.2.1, .int .i64 t475, .string t476, .int .u32 t477, .bool t478]), (93, s_.2.2.1), (94, .int .i64 t482)]) (fun s_ w' => (w'.cell? ⟨gb463, 0, none⟩ = some (.slice Ao66 t452.length co66) ∧ w'.cell? ⟨gb463, 1, none⟩ = some (.int .i64 t455) ∧ w'.cell? ⟨gb463, 2, none⟩ = some (.string t456) ∧ w'.cell? ⟨gb463, 3, none⟩ = some (.int .u32 t457) ∧ w'.cell? ⟨gb463, 4, none⟩ = some (.bool t458) ∧ w'.cell? ⟨gb425, 0, none⟩ = some (.int .i64 10) ∧ w'.cell? ⟨gb425, 1, none⟩ = some (.int .i64 0) ∧ w'.cell? ⟨gb425, 2, none⟩ = some (.string a1) ∧ w'.cell? ⟨gb425, 3, none⟩ = some (.int .i64 0) ∧ w'.cell? ⟨gb425, 4, none⟩ = some (.int .i64 0) ∧ w'.cell? ⟨gb425, 5, none⟩ = some (.string (⟨#[]⟩ : ByteArray)) ∧ w'.cell? ⟨gb425, 6, none⟩ = some (.bool false) ∧ w'.cell? ⟨gb425, 7, none⟩ = some (.slice none 0 0) ∧ w'.cell? ⟨gb425, 8, none⟩ = some (.int .u64 t423) ∧ w'.cell? ⟨gb425, 9, none⟩ = some (.int .u64 0) ∧ w'.cell? ⟨gb425, 10, none⟩ = some (.int .u64 0) ∧ w'.cell? ⟨gb425, 11, none⟩ = some (.int .i64 (wrap64 (1 + t424))) ∧ w'.cell? ⟨gb425, 12, none⟩ = some (.bool false) ∧ w'.cell? ⟨gb425, 13, none⟩ = some (.int .i64 0)) ∧ (Kd.R k53 53 w' w.heap.size (fun _ => True) s_.1 t465) ∧ (Kd.V k53 53 w' w.heap.size (fun k_ => some k_ ≠ (s_.2.2.1 : Value).ownBlock ∧ k_ ≠ gb418 ∧ k_ ≠ gb425 ∧ k_ ≠ gb444 ∧ k_ ≠ gb463 ∧ k_ ≠ s_.2.2.2) s_.2.1 t472) ∧ (Kd.R k46 46 w' w.heap.size (fun _ => True) s_.2.2.1 t479) ∧ (Kd.V k53 53 w' w.heap.size (fun k_ => some k_ ≠ (s_.1 : Value).ownBlock ∧ some k_ ≠ (s_.2.2.1 : Value).ownBlock ∧ k_ ≠ gb418 ∧ k_ ≠ gb425 ∧ k_ ≠ gb444 ∧ k_ ≠ gb463 ∧ k_ ≠ s_.2.2.2) (.slice Ao53 t433.length co53) t433) ∧ (Kd.V k53 53 w' w.heap.size (fun k_ => some k_ ≠ (s_.1 : Value).ownBlock ∧ some k_ ≠ (s_.2.2.1 : Value).ownBlock ∧ k_ ≠ gb418 ∧ k_ ≠ gb425 ∧ k_ ≠ gb444 ∧ k_ ≠ gb463 ∧ k_ ≠ s_.2.2.2) (.slice Ao66 t452.length co66) t452) ∧ (w'.heap[gb418]? = some (.cells #[.slice A0_0 l0_0.length c0_0, .int .i64 a0_1, .string a0_2, .int .u32 a0_3, .bool a0_4] 27 (0, 0))) ∧ (w'.heap[gb425]? = some (.cells #[.int .i64 10, .int .i64 0, .string a1, .int .i64 0, .int .i64 0, .string (⟨#[]⟩ : ByteArray), .bool false, .slice none 0 0, .int .u64 t423, .int .u64 0, .int .u64 0, .int .i64 (wrap64 (1 + t424)), .bool false, .int .i64 0] 31 (0, 0))) ∧ (w'.heap[gb444]? = some (.cells #[.slice Ao53 t433.length co53, .int .i64 t436, .string t437, .int .u32 t438, .bool t439] 27 (0, 0))) ∧ (w'.heap[gb463]? = some (.cells #[.slice Ao66 t452.length co66, .int .i64 t455, .string t456, .int .u32 t457, .bool t458] 27 (0, 0))) ∧ (w'.heap[s_.2.2.2]? = some (.cells #[.slice none 0 0, .int .i64 0, .string (⟨#[]⟩ : ByteArray), .int .u32 0, .bool false] 27 (0, 0))) ∧ (w.heap.size ≤ s_.2.2.2) ∧ (w.heap.size ≤ s_.2.2.2) ∧ (gb418 ≠ s_.2.2.2) ∧ (s_.2.2.2 ≠ gb418) ∧ (gb425 ≠ s_.2.2.2) ∧ (s_.2.2.2 ≠ gb425) ∧ (gb444 ≠ s_.2.2.2) ∧ (s_.2.2.2 ≠ gb444) ∧ (gb463 ≠ s_.2.2.2) ∧ (s_.2.2.2 ≠ gb463) ∧ (Below w.heap.size w w')) ?_ ?_
     rotate_left
     ·intro hCont
      refine two_ (i := 1) (j := 8) (Ni := some 89) (Nj := some 14) d7x4 d7x3 rfl rfl rfl rfl (two_of HT_.out (by kernel_rfl)) (by decide) (by decide) (fun K hK => ?_) (fun K hK => ?_)
      ·skip
       refine goes_ Tryd.func14 (by kernel_rfl) rfl #[.agg #[.slice Ao66 t452.length co66, .int .i64 t455, .string t456, .int .u32 t457, .bool t458]] (by rfl) rfl rfl (by (try simp only [List.map_toArray, List.map_cons, List.map_nil]); first | done | rfl | (simp only [List.length_drop, List.length_take]; rfl)) ?_
       with_reducible refine (headgatekeep_CopyTable.calls _ _ t452 t455 t456 t457 t458 t465 t468 t469 t470 t471 _ ?side1 ?side2 A100.out).mono ?_
       (case side1 => repeat (first | exact (Kd.V_reads' HO_464000.out).2.2 | (with_reducible refine Kd.C_alloc ?_ _) | (with_reducible refine Kd.C_drewN ?_ _) | (with_reducible refine Kd.C_drew ?_)))
       (case side2 => exact (Kd.V_reads' HO_464000.out).2.1)
       rintro e w109 ⟨v466, rfl, ho0, hb⟩
       refine ⟨_, rfl, ?_⟩
       have n0_ := Aside0.mk (Kd.V_elder' (by (with_reducible repeat (first | apply Kd.V_alloc | apply Kd.V_drewN | apply Kd.V_drew)); exact HO_445000.out) (Kd.R_base ho0) hb)
       have n1_ := Aside0.mk (Kd.V_elder' (by (with_reducible repeat (first | apply Kd.V_alloc | apply Kd.V_drewN | apply Kd.V_drew)); exact HO_464000.out) (Kd.R_base ho0) hb)
       have n2_ := Aside0.mk (Kd.R_lower ho0 (below_size (hb_ HB)))
       have n3_ := Aside0.mk (blk_below (bk_ BK418) hb)
       have n4_ := Aside0.mk (blk_below (bk_ BK425) hb)
       have n5_ := Aside0.mk (blk_below (bk_ BK444) hb)
       have n6_ := Aside0.mk (blk_below (bk_ BK463) hb)
       have n7_ := Aside0.mk (below_step (hb_ HB) hb)
       clear HO_445000
       clear HO_464000
       clear BK418
       clear BK425
       clear BK444
       clear BK463
       clear HB
       have HO_445000 := n0_
       have HO_464000 := n1_
       have HO467 := n2_
       have BK418 := n3_
       have BK425 := n4_
       have BK444 := n5_
       have BK463 := n6_
       have HB := n7_
       clear n0_ n1_ n2_ n3_ n4_ n5_ n6_ n7_
       (try clear hb)
       (try clear hb2)
       (try clear hk)
       (try clear hi)
       (try clear ho0)
       obtain ⟨Ao110, co110, eo110⟩ := Kd.R_slice HO467.out
       (first | subst eo110 | (injection eo110 with f1_ f2_ f3_; have f4_ := f1_.symm; have f5_ := f3_.symm; clear f1_ f2_ f3_; subst f4_; subst f5_))
       refine hK.out _ _ ⟨(blk_cell BK463.out 0).trans rfl, (blk_cell BK463.out 1).trans rfl, (blk_cell BK463.out 2).trans rfl, (blk_cell BK463.out 3).trans rfl, (blk_cell BK463.out 4).trans rfl, (blk_cell BK425.out 0).trans rfl, (blk_cell BK425.out 1).trans rfl, (blk_cell BK425.out 2).trans rfl, (blk_cell BK425.out 3).trans rfl, (blk_cell BK425.out 4).trans rfl, (blk_cell BK425.out 5).trans rfl, (blk_cell BK425.out 6).trans rfl, (blk_cell BK425.out 7).trans rfl, (blk_cell BK425.out 8).trans rfl, (blk_cell BK425.out 9).trans rfl, (blk_cell BK425.out 10).trans rfl, (blk_cell BK425.out 11).trans rfl, (blk_cell BK425.out 12).trans rfl, (blk_cell BK425.out 13).trans rfl⟩ (fun hHeld => ?_)
       clear hK K
       refine norm_ (a' := ?_) ?_ ?_
       rotate_left
       ·show Act.put _ (some 89) _ = _
        simp only [Act.put, la_, lb_, lc_, i64_w, i32_w]
        rfl
       refine two_ (i := 3) (j := 8) (Ni := some 91) (Nj := some 14) d7x6 d7x5 rfl rfl rfl rfl (two_of HT_.out (by kernel_rfl)) (by decide) (by decide) (fun K hK => ?_) (fun K hK => ?_)
       ·skip
        refine goes_ Tryd.func15 (by kernel_rfl) rfl #[.agg #[.slice Ao110 t465.length co110, .int .i64 t468, .string t469, .int .u32 t470, .bool t471], .agg #[.int .i64 10, .int .i64 0, .string a1, .int .i64 0, .int .i64 0, .string (⟨#[]⟩ : ByteArray), .bool false, .slice none 0 0, .int .u64 t423, .int .u64 0, .int .u64 0, .int .i64 (wrap64 (1 + t424)), .bool false, .int .i64 0]] (by rfl) rfl rfl (by (try simp only [List.map_toArray, List.map_cons, List.map_nil]); first | done | rfl | (simp only [List.length_drop, List.length_take]; rfl)) ?_
        refine (resv_Do.calls kj39 (fun k_ => some k_ = (.slice Ao110 t465.length co110 : Value).ownBlock) _ _ t465 t468 t469 t470 t471 10 0 a1 0 0 (⟨#[]⟩ : ByteArray) false _ _ ([] : List (S100)) t423 0 0 (wrap64 (1 + t424)) false 0 t472 t475 t476 t477 t478 t479 t482 _ ?side1 ?side2 ?side3 ?side4 A101.out).mono ?_
        (case side1 => exact Kd.R_V (Kd.R_tight rfl (Kd.R_types (Kd.R_types (Kd.R_types (Kd.R_types (HO467.out) BK418.out (by decide)) BK425.out (by decide)) BK444.out (by decide)) BK463.out (by decide))))
        (case side2 => exact Kd.C_nil _ _)
        (case side3 => exact Nat.le_refl _)
        (case side4 => first | ((refine Glob.keep HG.out ?_); (repeat (first | (with_reducible first | exact HB.out | apply below_alloc | apply pw_below_drewN | apply below_drew1 | refine below_set ?_ GE418.out | refine below_set ?_ GE425.out | refine below_set ?_ GE444.out | refine below_set ?_ GE463.out) | exact HB.out)); done) | exact HG.out)
        rintro e w111 ⟨v473, v480, rfl, ho0, ho1, hb⟩
        refine ⟨_, rfl, ?_⟩
        have n0_ := Aside0.mk (Kd.V_elder' (by (with_reducible repeat (first | apply Kd.V_alloc | apply Kd.V_drewN | apply Kd.V_drew)); exact HO_445000.out) (Kd.R_base ho1) hb)
        have n1_ := Aside0.mk (Kd.V_elder' (by (with_reducible repeat (first | apply Kd.V_alloc | apply Kd.V_drewN | apply Kd.V_drew)); exact HO_464000.out) (Kd.R_base ho1) hb)
        have n2_ := Aside0.mk (Kd.R_below (by (with_reducible repeat (first | apply Kd.R_alloc | apply Kd.R_drewN | apply Kd.R_drew)); exact HO467.out) hb)
        have n3_ := Aside0.mk (Kd.V_lower (Kd.V_mono (ok' := fun k_ => some k_ ≠ (v480 : Value).ownBlock ∧ k_ ≠ gb418 ∧ k_ ≠ gb425 ∧ k_ ≠ gb444 ∧ k_ ≠ gb463) ho0 (fun k_ hk_ => ⟨hk_.2, Or.elim hk_.1 (fun hs_ => ((Kd.R_types (Kd.R_types (Kd.R_types (Kd.R_types (HO467.out) BK418.out (by decide)) BK425.out (by decide)) BK444.out (by decide)) BK463.out (by decide)).1 k_ hs_.symm).1.1.1.2) (fun hn_ => (Kd.freshB (g := gb418) (o := .cells #[.slice A0_0 l0_0.length c0_0, .int .i64 a0_1, .string a0_2, .int .u32 a0_3, .bool a0_4] 27 (0, 0)) (bk_ BK418) k_ hn_)), Or.elim hk_.1 (fun hs_ => ((Kd.R_types (Kd.R_types (Kd.R_types (Kd.R_types (HO467.out) BK418.out (by decide)) BK425.out (by decide)) BK444.out (by decide)) BK463.out (by decide)).1 k_ hs_.symm).1.1.2) (fun hn_ => (Kd.freshB (g := gb425) (o := .cells #[.int .i64 10, .int .i64 0, .string a1, .int .i64 0, .int .i64 0, .string (⟨#[]⟩ : ByteArray), .bool false, .slice none 0 0, .int .u64 t423, .int .u64 0, .int .u64 0, .int .i64 (wrap64 (1 + t424)), .bool false, .int .i64 0] 31 (0, 0)) (bk_ BK425) k_ hn_)), Or.elim hk_.1 (fun hs_ => ((Kd.R_types (Kd.R_types (Kd.R_types (Kd.R_types (HO467.out) BK418.out (by decide)) BK425.out (by decide)) BK444.out (by decide)) BK463.out (by decide)).1 k_ hs_.symm).1.2) (fun hn_ => (Kd.freshB (g := gb444) (o := .cells #[.slice Ao53 t433.length co53, .int .i64 t436, .string t437, .int .u32 t438, .bool t439] 27 (0, 0)) (bk_ BK444) k_ hn_)), Or.elim hk_.1 (fun hs_ => ((Kd.R_types (Kd.R_types (Kd.R_types (Kd.R_types (HO467.out) BK418.out (by decide)) BK425.out (by decide)) BK444.out (by decide)) BK463.out (by decide)).1 k_ hs_.symm).2) (fun hn_ => (Kd.freshB (g := gb463) (o := .cells #[.slice Ao66 t452.length co66, .int .i64 t455, .string t456, .int .u32 t457, .bool t458] 27 (0, 0)) (bk_ BK463) k_ hn_))⟩)) (below_size (hb_ HB)))
        have n4_ := Aside0.mk (Kd.R_lower (Kd.R_mono (ok' := fun k_ => True) ho1 (fun _ hk_ => trivial)) (below_size (hb_ HB)))
        have n5_ := Aside0.mk (blk_below (bk_ BK418) hb)
        have n6_ := Aside0.mk (blk_below (bk_ BK425) hb)
        have n7_ := Aside0.mk (blk_below (bk_ BK444) hb)
        have n8_ := Aside0.mk (blk_below (bk_ BK463) hb)
        have n9_ := Aside0.mk (below_step (hb_ HB) hb)
        clear HO_445000
        clear HO_464000
        clear HO467
        clear BK418
        clear BK425
        clear BK444
        clear BK463
        clear HB
        have HO_445000 := n0_
        have HO_464000 := n1_
        have HO467 := n2_
        have HO474 := n3_
        have HO481 := n4_
        have BK418 := n5_
        have BK425 := n6_
        have BK444 := n7_
        have BK463 := n8_
        have HB := n9_
        clear n0_ n1_ n2_ n3_ n4_ n5_ n6_ n7_ n8_ n9_
        (try clear hb)
        (try clear hb2)
        (try clear hk)
        (try clear hi)
        (try clear ho0)
        (try clear ho1)
        refine hK.out _ _ ⟨(blk_cell BK463.out 0).trans rfl, (blk_cell BK463.out 1).trans rfl, (blk_cell BK463.out 2).trans rfl, (blk_cell BK463.out 3).trans rfl, (blk_cell BK463.out 4).trans rfl, (blk_cell BK425.out 0).trans rfl, (blk_cell BK425.out 1).trans rfl, (blk_cell BK425.out 2).trans rfl, (blk_cell BK425.out 3).trans rfl, (blk_cell BK425.out 4).trans rfl, (blk_cell BK425.out 5).trans rfl, (blk_cell BK425.out 6).trans rfl, (blk_cell BK425.out 7).trans rfl, (blk_cell BK425.out 8).trans rfl, (blk_cell BK425.out 9).trans rfl, (blk_cell BK425.out 10).trans rfl, (blk_cell BK425.out 11).trans rfl, (blk_cell BK425.out 12).trans rfl, (blk_cell BK425.out 13).trans rfl⟩ (fun hHeld => ?_)
        clear hK K
        refine norm_ (a' := ?_) ?_ ?_
        rotate_left
        ·show Act.put _ (some 91) _ = _
         simp only [Act.put, la_, lb_, lc_, i64_w, i32_w]
         rfl
        refine pon_ 4 (some 87) d7x8 HT_.out ?_
        refine pon_ 5 (some 92) d7x10 HT_.out ?_
        refine pon_ 6 (some 93) d7x12 HT_.out ?_
        refine pon_ 7 (some 94) d7x14 HT_.out ?_
        refine one_ (i := 8) (N := some 14) d7x15 rfl rfl (one_of HT_.out (by kernel_rfl)) (by decide) (fun K hK => ?_)
        refine box_step ?hg (N := 14) ?hd (cs := #[.slice none 0 0, .int .i64 0, .string (⟨#[]⟩ : ByteArray), .int .u32 0, .bool false]) (t := 27) ?hr ?_; (case hd => rfl); (case hg => rfl); (case hr => first | (go_simp; done) | (go_simp; rfl))
        intro gb483 hg w112 hbox hb
        have n0_ := Aside0.mk (Kd.V_below (Kd.V_elderB (by (with_reducible repeat (first | apply Kd.V_alloc | apply Kd.V_drewN | apply Kd.V_drew)); exact HO_445000.out) gb483 (Nat.le_of_eq hg.symm)) hb)
        have n1_ := Aside0.mk (Kd.V_below (Kd.V_elderB (by (with_reducible repeat (first | apply Kd.V_alloc | apply Kd.V_drewN | apply Kd.V_drew)); exact HO_464000.out) gb483 (Nat.le_of_eq hg.symm)) hb)
        have n2_ := Aside0.mk (Kd.R_below (by (with_reducible repeat (first | apply Kd.R_alloc | apply Kd.R_drewN | apply Kd.R_drew)); exact HO467.out) hb)
        have n3_ := Aside0.mk (Kd.V_below (Kd.V_elderB (by (with_reducible repeat (first | apply Kd.V_alloc | apply Kd.V_drewN | apply Kd.V_drew)); exact HO474.out) gb483 (Nat.le_of_eq hg.symm)) hb)
        have n4_ := Aside0.mk (Kd.R_below (by (with_reducible repeat (first | apply Kd.R_alloc | apply Kd.R_drewN | apply Kd.R_drew)); exact HO481.out) hb)
        have n5_ := Aside0.mk (blk_below (bk_ BK418) hb)
        have n6_ := Aside0.mk (blk_below (bk_ BK425) hb)
        have n7_ := Aside0.mk (blk_below (bk_ BK444) hb)
        have n8_ := Aside0.mk (blk_below (bk_ BK463) hb)
        have n9_ := Aside0.mk (below_step (hb_ HB) hb)
        have n10_ := Aside0.mk (hbox)
        have n11_ := Aside0.mk ((by rw [hg]; exact (below_size (hb_ HB)) : w.heap.size ≤ gb483))
        have n12_ := Aside0.mk ((by rw [hg]; exact (below_size (hb_ HB)) : w.heap.size ≤ gb483))
        have n13_ := Aside0.mk ((by rw [hg]; exact Nat.ne_of_lt (blk_lt (g := gb418) (o := .cells #[.slice A0_0 l0_0.length c0_0, .int .i64 a0_1, .string a0_2, .int .u32 a0_3, .bool a0_4] 27 (0, 0)) (bk_ BK418)) : gb418 ≠ gb483))
        have n14_ := Aside0.mk ((by rw [hg]; exact Nat.ne_of_gt (blk_lt (g := gb418) (o := .cells #[.slice A0_0 l0_0.length c0_0, .int .i64 a0_1, .string a0_2, .int .u32 a0_3, .bool a0_4] 27 (0, 0)) (bk_ BK418)) : gb483 ≠ gb418))
        have n15_ := Aside0.mk ((by rw [hg]; exact Nat.ne_of_lt (blk_lt (g := gb425) (o := .cells #[.int .i64 10, .int .i64 0, .string a1, .int .i64 0, .int .i64 0, .string (⟨#[]⟩ : ByteArray), .bool false, .slice none 0 0, .int .u64 t423, .int .u64 0, .int .u64 0, .int .i64 (wrap64 (1 + t424)), .bool false, .int .i64 0] 31 (0, 0)) (bk_ BK425)) : gb425 ≠ gb483))
        have n16_ := Aside0.mk ((by rw [hg]; exact Nat.ne_of_gt (blk_lt (g := gb425) (o := .cells #[.int .i64 10, .int .i64 0, .string a1, .int .i64 0, .int .i64 0, .string (⟨#[]⟩ : ByteArray), .bool false, .slice none 0 0, .int .u64 t423, .int .u64 0, .int .u64 0, .int .i64 (wrap64 (1 + t424)), .bool false, .int .i64 0] 31 (0, 0)) (bk_ BK425)) : gb483 ≠ gb425))
        have n17_ := Aside0.mk ((by rw [hg]; exact Nat.ne_of_lt (blk_lt (g := gb444) (o := .cells #[.slice Ao53 t433.length co53, .int .i64 t436, .string t437, .int .u32 t438, .bool t439] 27 (0, 0)) (bk_ BK444)) : gb444 ≠ gb483))
        have n18_ := Aside0.mk ((by rw [hg]; exact Nat.ne_of_gt (blk_lt (g := gb444) (o := .cells #[.slice Ao53 t433.length co53, .int .i64 t436, .string t437, .int .u32 t438, .bool t439] 27 (0, 0)) (bk_ BK444)) : gb483 ≠ gb444))
        have n19_ := Aside0.mk ((by rw [hg]; exact Nat.ne_of_lt (blk_lt (g := gb463) (o := .cells #[.slice Ao66 t452.length co66, .int .i64 t455, .string t456, .int .u32 t457, .bool t458] 27 (0, 0)) (bk_ BK463)) : gb463 ≠ gb483))
        have n20_ := Aside0.mk ((by rw [hg]; exact Nat.ne_of_gt (blk_lt (g := gb463) (o := .cells #[.slice Ao66 t452.length co66, .int .i64 t455, .string t456, .int .u32 t457, .bool t458] 27 (0, 0)) (bk_ BK463)) : gb483 ≠ gb463))
        clear HO_445000
        clear HO_464000
        clear HO467
        clear HO474
        clear HO481
        clear BK418
        clear BK425
        clear BK444
        clear BK463
        clear HB
        have HO_445000 := n0_
        have HO_464000 := n1_
        have HO467 := n2_
        have HO474 := n3_
        have HO481 := n4_
        have BK418 := n5_
        have BK425 := n6_
        have BK444 := n7_
        have BK463 := n8_
        have HB := n9_
        have BK483 := n10_
        have GW483 := n11_
        have GE483 := n12_
        have NB418_483 := n13_
        have NB483_418 := n14_
        have NB425_483 := n15_
        have NB483_425 := n16_
        have NB444_483 := n17_
        have NB483_444 := n18_
        have NB463_483 := n19_
        have NB483_463 := n20_
        clear n0_ n1_ n2_ n3_ n4_ n5_ n6_ n7_ n8_ n9_ n10_ n11_ n12_ n13_ n14_ n15_ n16_ n17_ n18_ n19_ n20_
        clear hb hbox hg
        refine hK.out _ _ ⟨(blk_cell BK463.out 0).trans rfl, (blk_cell BK463.out 1).trans rfl, (blk_cell BK463.out 2).trans rfl, (blk_cell BK463.out 3).trans rfl, (blk_cell BK463.out 4).trans rfl, (blk_cell BK425.out 0).trans rfl, (blk_cell BK425.out 1).trans rfl, (blk_cell BK425.out 2).trans rfl, (blk_cell BK425.out 3).trans rfl, (blk_cell BK425.out 4).trans rfl, (blk_cell BK425.out 5).trans rfl, (blk_cell BK425.out 6).trans rfl, (blk_cell BK425.out 7).trans rfl, (blk_cell BK425.out 8).trans rfl, (blk_cell BK425.out 9).trans rfl, (blk_cell BK425.out 10).trans rfl, (blk_cell BK425.out 11).trans rfl, (blk_cell BK425.out 12).trans rfl, (blk_cell BK425.out 13).trans rfl⟩ (fun hHeld => ?_)
        clear hK K
        refine norm_ (a' := ?_) ?_ ?_
        rotate_left
        ·show Act.put _ (some 14) _ = _
         simp only [Act.put, la_, lb_, lc_, i64_w, i32_w]
         rfl
        exact norm_ (by simp only [putAll, Act.put, la_, lb_, lc_]) (hCont (.slice Ao110 t465.length co110, v473, v480, gb483) _ ⟨hHeld, (by (with_reducible repeat (first | apply Kd.R_alloc | apply Kd.R_drewN | apply Kd.R_drew)); exact HO467.out), (by (with_reducible repeat (first | apply Kd.V_alloc | apply Kd.V_drewN | apply Kd.V_drew)); exact Kd.V_mono HO474.out (fun _ hk => ⟨hk.1.1, ⟨hk.1.2.1, ⟨hk.1.2.2.1, ⟨hk.1.2.2.2.1, ⟨hk.1.2.2.2.2, hk.2⟩⟩⟩⟩⟩)), (by (with_reducible repeat (first | apply Kd.R_alloc | apply Kd.R_drewN | apply Kd.R_drew)); exact HO481.out), (by (with_reducible repeat (first | apply Kd.V_alloc | apply Kd.V_drewN | apply Kd.V_drew)); exact Kd.V_mono HO_445000.out (fun _ hk => ⟨hk.1.1.2, ⟨hk.1.2, ⟨hk.1.1.1.1, ⟨hk.1.1.1.2.1, ⟨hk.1.1.1.2.2.1, ⟨hk.1.1.1.2.2.2, hk.2⟩⟩⟩⟩⟩⟩)), (by (with_reducible repeat (first | apply Kd.V_alloc | apply Kd.V_drewN | apply Kd.V_drew)); exact Kd.V_mono HO_464000.out (fun _ hk => ⟨hk.1.1.2, ⟨hk.1.2, ⟨hk.1.1.1.1, ⟨hk.1.1.1.2.1, ⟨hk.1.1.1.2.2.1, ⟨hk.1.1.1.2.2.2, hk.2⟩⟩⟩⟩⟩⟩)), (bk_ BK418), (bk_ BK425), (bk_ BK444), (bk_ BK463), (bk_ BK483), GW483.out, GE483.out, NB418_483.out, NB483_418.out, NB425_483.out, NB483_425.out, NB444_483.out, NB483_444.out, NB463_483.out, NB483_463.out, (hb_ HB)⟩)
       ·skip
        refine box_step ?hg (N := 14) ?hd (cs := #[.slice none 0 0, .int .i64 0, .string (⟨#[]⟩ : ByteArray), .int .u32 0, .bool false]) (t := 27) ?hr ?_; (case hd => rfl); (case hg => rfl); (case hr => first | (go_simp; done) | (go_simp; rfl))
        intro gb483 hg w110 hbox hb
        have n0_ := Aside0.mk (Kd.V_below (Kd.V_elderB (by (with_reducible repeat (first | apply Kd.V_alloc | apply Kd.V_drewN | apply Kd.V_drew)); exact HO_445000.out) gb483 (Nat.le_of_eq hg.symm)) hb)
        have n1_ := Aside0.mk (Kd.V_below (Kd.V_elderB (by (with_reducible repeat (first | apply Kd.V_alloc | apply Kd.V_drewN | apply Kd.V_drew)); exact HO_464000.out) gb483 (Nat.le_of_eq hg.symm)) hb)
        have n2_ := Aside0.mk (Kd.R_below (by (with_reducible repeat (first | apply Kd.R_alloc | apply Kd.R_drewN | apply Kd.R_drew)); exact HO467.out) hb)
        have n3_ := Aside0.mk (blk_below (bk_ BK418) hb)
        have n4_ := Aside0.mk (blk_below (bk_ BK425) hb)
        have n5_ := Aside0.mk (blk_below (bk_ BK444) hb)
        have n6_ := Aside0.mk (blk_below (bk_ BK463) hb)
        have n7_ := Aside0.mk (below_step (hb_ HB) hb)
        have n8_ := Aside0.mk (hbox)
        have n9_ := Aside0.mk ((by rw [hg]; exact (below_size (hb_ HB)) : w.heap.size ≤ gb483))
        have n10_ := Aside0.mk ((by rw [hg]; exact (below_size (hb_ HB)) : w.heap.size ≤ gb483))
        have n11_ := Aside0.mk ((by rw [hg]; exact Nat.ne_of_lt (blk_lt (g := gb418) (o := .cells #[.slice A0_0 l0_0.length c0_0, .int .i64 a0_1, .string a0_2, .int .u32 a0_3, .bool a0_4] 27 (0, 0)) (bk_ BK418)) : gb418 ≠ gb483))
        have n12_ := Aside0.mk ((by rw [hg]; exact Nat.ne_of_gt (blk_lt (g := gb418) (o := .cells #[.slice A0_0 l0_0.length c0_0, .int .i64 a0_1, .string a0_2, .int .u32 a0_3, .bool a0_4] 27 (0, 0)) (bk_ BK418)) : gb483 ≠ gb418))
        have n13_ := Aside0.mk ((by rw [hg]; exact Nat.ne_of_lt (blk_lt (g := gb425) (o := .cells #[.int .i64 10, .int .i64 0, .string a1, .int .i64 0, .int .i64 0, .string (⟨#[]⟩ : ByteArray), .bool false, .slice none 0 0, .int .u64 t423, .int .u64 0, .int .u64 0, .int .i64 (wrap64 (1 + t424)), .bool false, .int .i64 0] 31 (0, 0)) (bk_ BK425)) : gb425 ≠ gb483))
        have n14_ := Aside0.mk ((by rw [hg]; exact Nat.ne_of_gt (blk_lt (g := gb425) (o := .cells #[.int .i64 10, .int .i64 0, .string a1, .int .i64 0, .int .i64 0, .string (⟨#[]⟩ : ByteArray), .bool false, .slice none 0 0, .int .u64 t423, .int .u64 0, .int .u64 0, .int .i64 (wrap64 (1 + t424)), .bool false, .int .i64 0] 31 (0, 0)) (bk_ BK425)) : gb483 ≠ gb425))
        have n15_ := Aside0.mk ((by rw [hg]; exact Nat.ne_of_lt (blk_lt (g := gb444) (o := .cells #[.slice Ao53 t433.length co53, .int .i64 t436, .string t437, .int .u32 t438, .bool t439] 27 (0, 0)) (bk_ BK444)) : gb444 ≠ gb483))
        have n16_ := Aside0.mk ((by rw [hg]; exact Nat.ne_of_gt (blk_lt (g := gb444) (o := .cells #[.slice Ao53 t433.length co53, .int .i64 t436, .string t437, .int .u32 t438, .bool t439] 27 (0, 0)) (bk_ BK444)) : gb483 ≠ gb444))
        have n17_ := Aside0.mk ((by rw [hg]; exact Nat.ne_of_lt (blk_lt (g := gb463) (o := .cells #[.slice Ao66 t452.length co66, .int .i64 t455, .string t456, .int .u32 t457, .bool t458] 27 (0, 0)) (bk_ BK463)) : gb463 ≠ gb483))
        have n18_ := Aside0.mk ((by rw [hg]; exact Nat.ne_of_gt (blk_lt (g := gb463) (o := .cells #[.slice Ao66 t452.length co66, .int .i64 t455, .string t456, .int .u32 t457, .bool t458] 27 (0, 0)) (bk_ BK463)) : gb483 ≠ gb463))
        clear HO_445000
        clear HO_464000
        clear HO467
        clear BK418
        clear BK425
        clear BK444
        clear BK463
        clear HB
        have HO_445000 := n0_
        have HO_464000 := n1_
        have HO467 := n2_
        have BK418 := n3_
        have BK425 := n4_
        have BK444 := n5_
        have BK463 := n6_
        have HB := n7_
        have BK483 := n8_
        have GW483 := n9_
        have GE483 := n10_
        have NB418_483 := n11_
        have NB483_418 := n12_
        have NB425_483 := n13_
        have NB483_425 := n14_
        have NB444_483 := n15_
        have NB483_444 := n16_
        have NB463_483 := n17_
        have NB483_463 := n18_
        clear n0_ n1_ n2_ n3_ n4_ n5_ n6_ n7_ n8_ n9_ n10_ n11_ n12_ n13_ n14_ n15_ n16_ n17_ n18_
        clear hb hbox hg
        obtain ⟨Ao111, co111, eo111⟩ := Kd.R_slice HO467.out
        (first | subst eo111 | (injection eo111 with f1_ f2_ f3_; have f4_ := f1_.symm; have f5_ := f3_.symm; clear f1_ f2_ f3_; subst f4_; subst f5_))
        refine hK.out _ _ ⟨(blk_cell BK463.out 0).trans rfl, (blk_cell BK463.out 1).trans rfl, (blk_cell BK463.out 2).trans rfl, (blk_cell BK463.out 3).trans rfl, (blk_cell BK463.out 4).trans rfl, (blk_cell BK425.out 0).trans rfl, (blk_cell BK425.out 1).trans rfl, (blk_cell BK425.out 2).trans rfl, (blk_cell BK425.out 3).trans rfl, (blk_cell BK425.out 4).trans rfl, (blk_cell BK425.out 5).trans rfl, (blk_cell BK425.out 6).trans rfl, (blk_cell BK425.out 7).trans rfl, (blk_cell BK425.out 8).trans rfl, (blk_cell BK425.out 9).trans rfl, (blk_cell BK425.out 10).trans rfl, (blk_cell BK425.out 11).trans rfl, (blk_cell BK425.out 12).trans rfl, (blk_cell BK425.out 13).trans rfl⟩ (fun hHeld => ?_)
        clear hK K
        refine norm_ (a' := ?_) ?_ ?_
        rotate_left
        ·show Act.put _ (some 14) _ = _
         simp only [Act.put, la_, lb_, lc_, i64_w, i32_w]
         rfl
        refine one_ (i := 3) (N := some 91) d7x7 rfl rfl (one_of HT_.out (by kernel_rfl)) (by decide) (fun K hK => ?_)
        refine goes_ Tryd.func15 (by kernel_rfl) rfl #[.agg #[.slice Ao111 t465.length co111, .int .i64 t468, .string t469, .int .u32 t470, .bool t471], .agg #[.int .i64 10, .int .i64 0, .string a1, .int .i64 0, .int .i64 0, .string (⟨#[]⟩ : ByteArray), .bool false, .slice none 0 0, .int .u64 t423, .int .u64 0, .int .u64 0, .int .i64 (wrap64 (1 + t424)), .bool false, .int .i64 0]] (by rfl) rfl rfl (by (try simp only [List.map_toArray, List.map_cons, List.map_nil]); first | done | rfl | (simp only [List.length_drop, List.length_take]; rfl)) ?_
        refine (resv_Do.calls kj39 (fun k_ => some k_ = (.slice Ao111 t465.length co111 : Value).ownBlock) _ _ t465 t468 t469 t470 t471 10 0 a1 0 0 (⟨#[]⟩ : ByteArray) false _ _ ([] : List (S100)) t423 0 0 (wrap64 (1 + t424)) false 0 t472 t475 t476 t477 t478 t479 t482 _ ?side1 ?side2 ?side3 ?side4 A101.out).mono ?_
        (case side1 => exact Kd.R_V (Kd.R_tight rfl (Kd.R_types (Kd.R_types (Kd.R_types (Kd.R_types (Kd.R_types (HO467.out) BK418.out (by decide)) BK425.out (by decide)) BK444.out (by decide)) BK463.out (by decide)) BK483.out (by decide))))
        (case side2 => exact Kd.C_nil _ _)
        (case side3 => exact Nat.le_refl _)
        (case side4 => first | ((refine Glob.keep HG.out ?_); (repeat (first | (with_reducible first | exact HB.out | apply below_alloc | apply pw_below_drewN | apply below_drew1 | refine below_set ?_ GE418.out | refine below_set ?_ GE425.out | refine below_set ?_ GE444.out | refine below_set ?_ GE463.out | refine below_set ?_ GE483.out) | exact HB.out)); done) | exact HG.out)
        rintro e w112 ⟨v473, v480, rfl, ho0, ho1, hb⟩
        refine ⟨_, rfl, ?_⟩
        have n0_ := Aside0.mk (Kd.V_elder' (by (with_reducible repeat (first | apply Kd.V_alloc | apply Kd.V_drewN | apply Kd.V_drew)); exact HO_445000.out) (Kd.R_base ho1) hb)
        have n1_ := Aside0.mk (Kd.V_elder' (by (with_reducible repeat (first | apply Kd.V_alloc | apply Kd.V_drewN | apply Kd.V_drew)); exact HO_464000.out) (Kd.R_base ho1) hb)
        have n2_ := Aside0.mk (Kd.R_below (by (with_reducible repeat (first | apply Kd.R_alloc | apply Kd.R_drewN | apply Kd.R_drew)); exact HO467.out) hb)
        have n3_ := Aside0.mk (Kd.V_lower (Kd.V_mono (ok' := fun k_ => some k_ ≠ (v480 : Value).ownBlock ∧ k_ ≠ gb418 ∧ k_ ≠ gb425 ∧ k_ ≠ gb444 ∧ k_ ≠ gb463 ∧ k_ ≠ gb483) ho0 (fun k_ hk_ => ⟨hk_.2, Or.elim hk_.1 (fun hs_ => ((Kd.R_types (Kd.R_types (Kd.R_types (Kd.R_types (Kd.R_types (HO467.out) BK418.out (by decide)) BK425.out (by decide)) BK444.out (by decide)) BK463.out (by decide)) BK483.out (by decide)).1 k_ hs_.symm).1.1.1.1.2) (fun hn_ => (Kd.freshB (g := gb418) (o := .cells #[.slice A0_0 l0_0.length c0_0, .int .i64 a0_1, .string a0_2, .int .u32 a0_3, .bool a0_4] 27 (0, 0)) (bk_ BK418) k_ hn_)), Or.elim hk_.1 (fun hs_ => ((Kd.R_types (Kd.R_types (Kd.R_types (Kd.R_types (Kd.R_types (HO467.out) BK418.out (by decide)) BK425.out (by decide)) BK444.out (by decide)) BK463.out (by decide)) BK483.out (by decide)).1 k_ hs_.symm).1.1.1.2) (fun hn_ => (Kd.freshB (g := gb425) (o := .cells #[.int .i64 10, .int .i64 0, .string a1, .int .i64 0, .int .i64 0, .string (⟨#[]⟩ : ByteArray), .bool false, .slice none 0 0, .int .u64 t423, .int .u64 0, .int .u64 0, .int .i64 (wrap64 (1 + t424)), .bool false, .int .i64 0] 31 (0, 0)) (bk_ BK425) k_ hn_)), Or.elim hk_.1 (fun hs_ => ((Kd.R_types (Kd.R_types (Kd.R_types (Kd.R_types (Kd.R_types (HO467.out) BK418.out (by decide)) BK425.out (by decide)) BK444.out (by decide)) BK463.out (by decide)) BK483.out (by decide)).1 k_ hs_.symm).1.1.2) (fun hn_ => (Kd.freshB (g := gb444) (o := .cells #[.slice Ao53 t433.length co53, .int .i64 t436, .string t437, .int .u32 t438, .bool t439] 27 (0, 0)) (bk_ BK444) k_ hn_)), Or.elim hk_.1 (fun hs_ => ((Kd.R_types (Kd.R_types (Kd.R_types (Kd.R_types (Kd.R_types (HO467.out) BK418.out (by decide)) BK425.out (by decide)) BK444.out (by decide)) BK463.out (by decide)) BK483.out (by decide)).1 k_ hs_.symm).1.2) (fun hn_ => (Kd.freshB (g := gb463) (o := .cells #[.slice Ao66 t452.length co66, .int .i64 t455, .string t456, .int .u32 t457, .bool t458] 27 (0, 0)) (bk_ BK463) k_ hn_)), Or.elim hk_.1 (fun hs_ => ((Kd.R_types (Kd.R_types (Kd.R_types (Kd.R_types (Kd.R_types (HO467.out) BK418.out (by decide)) BK425.out (by decide)) BK444.out (by decide)) BK463.out (by decide)) BK483.out (by decide)).1 k_ hs_.symm).2) (fun hn_ => (Kd.freshB (g := gb483) (o := .cells #[.slice none 0 0, .int .i64 0, .string (⟨#[]⟩ : ByteArray), .int .u32 0, .bool false] 27 (0, 0)) (bk_ BK483) k_ hn_))⟩)) (below_size (hb_ HB)))
        have n4_ := Aside0.mk (Kd.R_lower (Kd.R_mono (ok' := fun k_ => True) ho1 (fun _ hk_ => trivial)) (below_size (hb_ HB)))
        have n5_ := Aside0.mk (blk_below (bk_ BK418) hb)
        have n6_ := Aside0.mk (blk_below (bk_ BK425) hb)
        have n7_ := Aside0.mk (blk_below (bk_ BK444) hb)
        have n8_ := Aside0.mk (blk_below (bk_ BK463) hb)
        have n9_ := Aside0.mk (blk_below (bk_ BK483) hb)
        have n10_ := Aside0.mk (below_step (hb_ HB) hb)
        clear HO_445000
        clear HO_464000
        clear HO467
        clear BK418
        clear BK425
        clear BK444
        clear BK463
        clear BK483
        clear HB
        have HO_445000 := n0_
        have HO_464000 := n1_
        have HO467 := n2_
        have HO474 := n3_
        have HO481 := n4_
        have BK418 := n5_
        have BK425 := n6_
        have BK444 := n7_
        have BK463 := n8_
        have BK483 := n9_
        have HB := n10_
        clear n0_ n1_ n2_ n3_ n4_ n5_ n6_ n7_ n8_ n9_ n10_
        (try clear hb)
        (try clear hb2)
        (try clear hk)
        (try clear hi)
        (try clear ho0)
        (try clear ho1)
        refine hK.out _ _ ⟨(blk_cell BK463.out 0).trans rfl, (blk_cell BK463.out 1).trans rfl, (blk_cell BK463.out 2).trans rfl, (blk_cell BK463.out 3).trans rfl, (blk_cell BK463.out 4).trans rfl, (blk_cell BK425.out 0).trans rfl, (blk_cell BK425.out 1).trans rfl, (blk_cell BK425.out 2).trans rfl, (blk_cell BK425.out 3).trans rfl, (blk_cell BK425.out 4).trans rfl, (blk_cell BK425.out 5).trans rfl, (blk_cell BK425.out 6).trans rfl, (blk_cell BK425.out 7).trans rfl, (blk_cell BK425.out 8).trans rfl, (blk_cell BK425.out 9).trans rfl, (blk_cell BK425.out 10).trans rfl, (blk_cell BK425.out 11).trans rfl, (blk_cell BK425.out 12).trans rfl, (blk_cell BK425.out 13).trans rfl⟩ (fun hHeld => ?_)
        clear hK K
        refine norm_ (a' := ?_) ?_ ?_
        rotate_left
        ·show Act.put _ (some 91) _ = _
         simp only [Act.put, la_, lb_, lc_, i64_w, i32_w]
         rfl
        refine pon_ 4 (some 87) d7x9 HT_.out ?_
        refine pon_ 5 (some 92) d7x11 HT_.out ?_
        refine pon_ 6 (some 93) d7x13 HT_.out ?_
        refine pon_ 7 (some 94) d7x15 HT_.out ?_
        exact norm_ (by simp only [putAll, Act.put, la_, lb_, lc_]) (hCont (.slice Ao111 t465.length co111, v473, v480, gb483) _ ⟨hHeld, (by (with_reducible repeat (first | apply Kd.R_alloc | apply Kd.R_drewN | apply Kd.R_drew)); exact HO467.out), (by (with_reducible repeat (first | apply Kd.V_alloc | apply Kd.V_drewN | apply Kd.V_drew)); exact HO474.out), (by (with_reducible repeat (first | apply Kd.R_alloc | apply Kd.R_drewN | apply Kd.R_drew)); exact HO481.out), (by (with_reducible repeat (first | apply Kd.V_alloc | apply Kd.V_drewN | apply Kd.V_drew)); exact Kd.V_mono HO_445000.out (fun _ hk => ⟨hk.1.1.2, ⟨hk.2, ⟨hk.1.1.1.1, ⟨hk.1.1.1.2.1, ⟨hk.1.1.1.2.2.1, ⟨hk.1.1.1.2.2.2, hk.1.2⟩⟩⟩⟩⟩⟩)), (by (with_reducible repeat (first | apply Kd.V_alloc | apply Kd.V_drewN | apply Kd.V_drew)); exact Kd.V_mono HO_464000.out (fun _ hk => ⟨hk.1.1.2, ⟨hk.2, ⟨hk.1.1.1.1, ⟨hk.1.1.1.2.1, ⟨hk.1.1.1.2.2.1, ⟨hk.1.1.1.2.2.2, hk.1.2⟩⟩⟩⟩⟩⟩)), (bk_ BK418), (bk_ BK425), (bk_ BK444), (bk_ BK463), (bk_ BK483), GW483.out, GE483.out, NB418_483.out, NB483_418.out, NB425_483.out, NB483_425.out, NB444_483.out, NB483_444.out, NB463_483.out, NB483_463.out, (hb_ HB)⟩)
      ·skip
       refine box_step ?hg (N := 14) ?hd (cs := #[.slice none 0 0, .int .i64 0, .string (⟨#[]⟩ : ByteArray), .int .u32 0, .bool false]) (t := 27) ?hr ?_; (case hd => rfl); (case hg => rfl); (case hr => first | (go_simp; done) | (go_simp; rfl))
       intro gb483 hg w109 hbox hb
       have n0_ := Aside0.mk (Kd.V_below (Kd.V_elderB (by (with_reducible repeat (first | apply Kd.V_alloc | apply Kd.V_drewN | apply Kd.V_drew)); exact HO_445000.out) gb483 (Nat.le_of_eq hg.symm)) hb)
       have n1_ := Aside0.mk (Kd.V_below (Kd.V_elderB (by (with_reducible repeat (first | apply Kd.V_alloc | apply Kd.V_drewN | apply Kd.V_drew)); exact HO_464000.out) gb483 (Nat.le_of_eq hg.symm)) hb)
       have n2_ := Aside0.mk (blk_below (bk_ BK418) hb)
       have n3_ := Aside0.mk (blk_below (bk_ BK425) hb)
       have n4_ := Aside0.mk (blk_below (bk_ BK444) hb)
       have n5_ := Aside0.mk (blk_below (bk_ BK463) hb)
       have n6_ := Aside0.mk (below_step (hb_ HB) hb)
       have n7_ := Aside0.mk (hbox)
       have n8_ := Aside0.mk ((by rw [hg]; exact (below_size (hb_ HB)) : w.heap.size ≤ gb483))
       have n9_ := Aside0.mk ((by rw [hg]; exact (below_size (hb_ HB)) : w.heap.size ≤ gb483))
       have n10_ := Aside0.mk ((by rw [hg]; exact Nat.ne_of_lt (blk_lt (g := gb418) (o := .cells #[.slice A0_0 l0_0.length c0_0, .int .i64 a0_1, .string a0_2, .int .u32 a0_3, .bool a0_4] 27 (0, 0)) (bk_ BK418)) : gb418 ≠ gb483))
       have n11_ := Aside0.mk ((by rw [hg]; exact Nat.ne_of_gt (blk_lt (g := gb418) (o := .cells #[.slice A0_0 l0_0.length c0_0, .int .i64 a0_1, .string a0_2, .int .u32 a0_3, .bool a0_4] 27 (0, 0)) (bk_ BK418)) : gb483 ≠ gb418))
       have n12_ := Aside0.mk ((by rw [hg]; exact Nat.ne_of_lt (blk_lt (g := gb425) (o := .cells #[.int .i64 10, .int .i64 0, .string a1, .int .i64 0, .int .i64 0, .string (⟨#[]⟩ : ByteArray), .bool false, .slice none 0 0, .int .u64 t423, .int .u64 0, .int .u64 0, .int .i64 (wrap64 (1 + t424)), .bool false, .int .i64 0] 31 (0, 0)) (bk_ BK425)) : gb425 ≠ gb483))
       have n13_ := Aside0.mk ((by rw [hg]; exact Nat.ne_of_gt (blk_lt (g := gb425) (o := .cells #[.int .i64 10, .int .i64 0, .string a1, .int .i64 0, .int .i64 0, .string (⟨#[]⟩ : ByteArray), .bool false, .slice none 0 0, .int .u64 t423, .int .u64 0, .int .u64 0, .int .i64 (wrap64 (1 + t424)), .bool false, .int .i64 0] 31 (0, 0)) (bk_ BK425)) : gb483 ≠ gb425))
       have n14_ := Aside0.mk ((by rw [hg]; exact Nat.ne_of_lt (blk_lt (g := gb444) (o := .cells #[.slice Ao53 t433.length co53, .int .i64 t436, .string t437, .int .u32 t438, .bool t439] 27 (0, 0)) (bk_ BK444)) : gb444 ≠ gb483))
       have n15_ := Aside0.mk ((by rw [hg]; exact Nat.ne_of_gt (blk_lt (g := gb444) (o := .cells #[.slice Ao53 t433.length co53, .int .i64 t436, .string t437, .int .u32 t438, .bool t439] 27 (0, 0)) (bk_ BK444)) : gb483 ≠ gb444))
       have n16_ := Aside0.mk ((by rw [hg]; exact Nat.ne_of_lt (blk_lt (g := gb463) (o := .cells #[.slice Ao66 t452.length co66, .int .i64 t455, .string t456, .int .u32 t457, .bool t458] 27 (0, 0)) (bk_ BK463)) : gb463 ≠ gb483))
       have n17_ := Aside0.mk ((by rw [hg]; exact Nat.ne_of_gt (blk_lt (g := gb463) (o := .cells #[.slice Ao66 t452.length co66, .int .i64 t455, .string t456, .int .u32 t457, .bool t458] 27 (0, 0)) (bk_ BK463)) : gb483 ≠ gb463))
       clear HO_445000
       clear HO_464000
       clear BK418
       clear BK425
       clear BK444
       clear BK463
       clear HB
       have HO_445000 := n0_
       have HO_464000 := n1_
       have BK418 := n2_
       have BK425 := n3_
       have BK444 := n4_
       have BK463 := n5_
       have HB := n6_
       have BK483 := n7_
       have GW483 := n8_
       have GE483 := n9_
       have NB418_483 := n10_
       have NB483_418 := n11_
       have NB425_483 := n12_
       have NB483_425 := n13_
       have NB444_483 := n14_
       have NB483_444 := n15_
       have NB463_483 := n16_
       have NB483_463 := n17_
       clear n0_ n1_ n2_ n3_ n4_ n5_ n6_ n7_ n8_ n9_ n10_ n11_ n12_ n13_ n14_ n15_ n16_ n17_
       clear hb hbox hg
       refine hK.out _ _ ⟨(blk_cell BK463.out 0).trans rfl, (blk_cell BK463.out 1).trans rfl, (blk_cell BK463.out 2).trans rfl, (blk_cell BK463.out 3).trans rfl, (blk_cell BK463.out 4).trans rfl, (blk_cell BK425.out 0).trans rfl, (blk_cell BK425.out 1).trans rfl, (blk_cell BK425.out 2).trans rfl, (blk_cell BK425.out 3).trans rfl, (blk_cell BK425.out 4).trans rfl, (blk_cell BK425.out 5).trans rfl, (blk_cell BK425.out 6).trans rfl, (blk_cell BK425.out 7).trans rfl, (blk_cell BK425.out 8).trans rfl, (blk_cell BK425.out 9).trans rfl, (blk_cell BK425.out 10).trans rfl, (blk_cell BK425.out 11).trans rfl, (blk_cell BK425.out 12).trans rfl, (blk_cell BK425.out 13).trans rfl⟩ (fun hHeld => ?_)
       clear hK K
       refine norm_ (a' := ?_) ?_ ?_
       rotate_left
       ·show Act.put _ (some 14) _ = _
        simp only [Act.put, la_, lb_, lc_, i64_w, i32_w]
        rfl
       refine one_ (i := 1) (N := some 89) d7x5 rfl rfl (one_of HT_.out (by kernel_rfl)) (by decide) (fun K hK => ?_)
       refine goes_ Tryd.func14 (by kernel_rfl) rfl #[.agg #[.slice Ao66 t452.length co66, .int .i64 t455, .string t456, .int .u32 t457, .bool t458]] (by rfl) rfl rfl (by (try simp only [List.map_toArray, List.map_cons, List.map_nil]); first | done | rfl | (simp only [List.length_drop, List.length_take]; rfl)) ?_
       with_reducible refine (headgatekeep_CopyTable.calls _ _ t452 t455 t456 t457 t458 t465 t468 t469 t470 t471 _ ?side1 ?side2 A100.out).mono ?_
       (case side1 => repeat (first | exact (Kd.V_reads' HO_464000.out).2.2 | (with_reducible refine Kd.C_alloc ?_ _) | (with_reducible refine Kd.C_drewN ?_ _) | (with_reducible refine Kd.C_drew ?_)))
       (case side2 => exact (Kd.V_reads' HO_464000.out).2.1)
       rintro e w110 ⟨v466, rfl, ho0, hb⟩
       refine ⟨_, rfl, ?_⟩
       have n0_ := Aside0.mk (Kd.V_elder' (by (with_reducible repeat (first | apply Kd.V_alloc | apply Kd.V_drewN | apply Kd.V_drew)); exact HO_445000.out) (Kd.R_base ho0) hb)
       have n1_ := Aside0.mk (Kd.V_elder' (by (with_reducible repeat (first | apply Kd.V_alloc | apply Kd.V_drewN | apply Kd.V_drew)); exact HO_464000.out) (Kd.R_base ho0) hb)
       have n2_ := Aside0.mk (Kd.R_lower ho0 (below_size (hb_ HB)))
       have n3_ := Aside0.mk (blk_below (bk_ BK418) hb)
       have n4_ := Aside0.mk (blk_below (bk_ BK425) hb)
       have n5_ := Aside0.mk (blk_below (bk_ BK444) hb)
       have n6_ := Aside0.mk (blk_below (bk_ BK463) hb)
       have n7_ := Aside0.mk (blk_below (bk_ BK483) hb)
       have n8_ := Aside0.mk (below_step (hb_ HB) hb)
       clear HO_445000
       clear HO_464000
       clear BK418
       clear BK425
       clear BK444
       clear BK463
       clear BK483
       clear HB
       have HO_445000 := n0_
       have HO_464000 := n1_
       have HO467 := n2_
       have BK418 := n3_
       have BK425 := n4_
       have BK444 := n5_
       have BK463 := n6_
       have BK483 := n7_
       have HB := n8_
       clear n0_ n1_ n2_ n3_ n4_ n5_ n6_ n7_ n8_
       (try clear hb)
       (try clear hb2)
       (try clear hk)
       (try clear hi)
       (try clear ho0)
       obtain ⟨Ao111, co111, eo111⟩ := Kd.R_slice HO467.out
       (first | subst eo111 | (injection eo111 with f1_ f2_ f3_; have f4_ := f1_.symm; have f5_ := f3_.symm; clear f1_ f2_ f3_; subst f4_; subst f5_))
       refine hK.out _ _ ⟨(blk_cell BK463.out 0).trans rfl, (blk_cell BK463.out 1).trans rfl, (blk_cell BK463.out 2).trans rfl, (blk_cell BK463.out 3).trans rfl, (blk_cell BK463.out 4).trans rfl, (blk_cell BK425.out 0).trans rfl, (blk_cell BK425.out 1).trans rfl, (blk_cell BK425.out 2).trans rfl, (blk_cell BK425.out 3).trans rfl, (blk_cell BK425.out 4).trans rfl, (blk_cell BK425.out 5).trans rfl, (blk_cell BK425.out 6).trans rfl, (blk_cell BK425.out 7).trans rfl, (blk_cell BK425.out 8).trans rfl, (blk_cell BK425.out 9).trans rfl, (blk_cell BK425.out 10).trans rfl, (blk_cell BK425.out 11).trans rfl, (blk_cell BK425.out 12).trans rfl, (blk_cell BK425.out 13).trans rfl⟩ (fun hHeld => ?_)
       clear hK K
       refine norm_ (a' := ?_) ?_ ?_
       rotate_left
       ·show Act.put _ (some 89) _ = _
        simp only [Act.put, la_, lb_, lc_, i64_w, i32_w]
        rfl
       refine one_ (i := 3) (N := some 91) d7x7 rfl rfl (one_of HT_.out (by kernel_rfl)) (by decide) (fun K hK => ?_)
       refine goes_ Tryd.func15 (by kernel_rfl) rfl #[.agg #[.slice Ao111 t465.length co111, .int .i64 t468, .string t469, .int .u32 t470, .bool t471], .agg #[.int .i64 10, .int .i64 0, .string a1, .int .i64 0, .int .i64 0, .string (⟨#[]⟩ : ByteArray), .bool false, .slice none 0 0, .int .u64 t423, .int .u64 0, .int .u64 0, .int .i64 (wrap64 (1 + t424)), .bool false, .int .i64 0]] (by rfl) rfl rfl (by (try simp only [List.map_toArray, List.map_cons, List.map_nil]); first | done | rfl | (simp only [List.length_drop, List.length_take]; rfl)) ?_
       refine (resv_Do.calls kj39 (fun k_ => some k_ = (.slice Ao111 t465.length co111 : Value).ownBlock) _ _ t465 t468 t469 t470 t471 10 0 a1 0 0 (⟨#[]⟩ : ByteArray) false _ _ ([] : List (S100)) t423 0 0 (wrap64 (1 + t424)) false 0 t472 t475 t476 t477 t478 t479 t482 _ ?side1 ?side2 ?side3 ?side4 A101.out).mono ?_
       (case side1 => exact Kd.R_V (Kd.R_tight rfl (Kd.R_types (Kd.R_types (Kd.R_types (Kd.R_types (Kd.R_types (HO467.out) BK418.out (by decide)) BK425.out (by decide)) BK444.out (by decide)) BK463.out (by decide)) BK483.out (by decide))))
       (case side2 => exact Kd.C_nil _ _)
       (case side3 => exact Nat.le_refl _)
       (case side4 => first | ((refine Glob.keep HG.out ?_); (repeat (first | (with_reducible first | exact HB.out | apply below_alloc | apply pw_below_drewN | apply below_drew1 | refine below_set ?_ GE418.out | refine below_set ?_ GE425.out | refine below_set ?_ GE444.out | refine below_set ?_ GE463.out | refine below_set ?_ GE483.out) | exact HB.out)); done) | exact HG.out)
       rintro e w112 ⟨v473, v480, rfl, ho0, ho1, hb⟩
       refine ⟨_, rfl, ?_⟩
       have n0_ := Aside0.mk (Kd.V_elder' (by (with_reducible repeat (first | apply Kd.V_alloc | apply Kd.V_drewN | apply Kd.V_drew)); exact HO_445000.out) (Kd.R_base ho1) hb)
       have n1_ := Aside0.mk (Kd.V_elder' (by (with_reducible repeat (first | apply Kd.V_alloc | apply Kd.V_drewN | apply Kd.V_drew)); exact HO_464000.out) (Kd.R_base ho1) hb)
       have n2_ := Aside0.mk (Kd.R_below (by (with_reducible repeat (first | apply Kd.R_alloc | apply Kd.R_drewN | apply Kd.R_drew)); exact HO467.out) hb)
       have n3_ := Aside0.mk (Kd.V_lower (Kd.V_mono (ok' := fun k_ => some k_ ≠ (v480 : Value).ownBlock ∧ k_ ≠ gb418 ∧ k_ ≠ gb425 ∧ k_ ≠ gb444 ∧ k_ ≠ gb463 ∧ k_ ≠ gb483) ho0 (fun k_ hk_ => ⟨hk_.2, Or.elim hk_.1 (fun hs_ => ((Kd.R_types (Kd.R_types (Kd.R_types (Kd.R_types (Kd.R_types (HO467.out) BK418.out (by decide)) BK425.out (by decide)) BK444.out (by decide)) BK463.out (by decide)) BK483.out (by decide)).1 k_ hs_.symm).1.1.1.1.2) (fun hn_ => (Kd.freshB (g := gb418) (o := .cells #[.slice A0_0 l0_0.length c0_0, .int .i64 a0_1, .string a0_2, .int .u32 a0_3, .bool a0_4] 27 (0, 0)) (bk_ BK418) k_ hn_)), Or.elim hk_.1 (fun hs_ => ((Kd.R_types (Kd.R_types (Kd.R_types (Kd.R_types (Kd.R_types (HO467.out) BK418.out (by decide)) BK425.out (by decide)) BK444.out (by decide)) BK463.out (by decide)) BK483.out (by decide)).1 k_ hs_.symm).1.1.1.2) (fun hn_ => (Kd.freshB (g := gb425) (o := .cells #[.int .i64 10, .int .i64 0, .string a1, .int .i64 0, .int .i64 0, .string (⟨#[]⟩ : ByteArray), .bool false, .slice none 0 0, .int .u64 t423, .int .u64 0, .int .u64 0, .int .i64 (wrap64 (1 + t424)), .bool false, .int .i64 0] 31 (0, 0)) (bk_ BK425) k_ hn_)), Or.elim hk_.1 (fun hs_ => ((Kd.R_types (Kd.R_types (Kd.R_types (Kd.R_types (Kd.R_types (HO467.out) BK418.out (by decide)) BK425.out (by decide)) BK444.out (by decide)) BK463.out (by decide)) BK483.out (by decide)).1 k_ hs_.symm).1.1.2) (fun hn_ => (Kd.freshB (g := gb444) (o := .cells #[.slice Ao53 t433.length co53, .int .i64 t436, .string t437, .int .u32 t438, .bool t439] 27 (0, 0)) (bk_ BK444) k_ hn_)), Or.elim hk_.1 (fun hs_ => ((Kd.R_types (Kd.R_types (Kd.R_types (Kd.R_types (Kd.R_types (HO467.out) BK418.out (by decide)) BK425.out (by decide)) BK444.out (by decide)) BK463.out (by decide)) BK483.out (by decide)).1 k_ hs_.symm).1.2) (fun hn_ => (Kd.freshB (g := gb463) (o := .cells #[.slice Ao66 t452.length co66, .int .i64 t455, .string t456, .int .u32 t457, .bool t458] 27 (0, 0)) (bk_ BK463) k_ hn_)), Or.elim hk_.1 (fun hs_ => ((Kd.R_types (Kd.R_types (Kd.R_types (Kd.R_types (Kd.R_types (HO467.out) BK418.out (by decide)) BK425.out (by decide)) BK444.out (by decide)) BK463.out (by decide)) BK483.out (by decide)).1 k_ hs_.symm).2) (fun hn_ => (Kd.freshB (g := gb483) (o := .cells #[.slice none 0 0, .int .i64 0, .string (⟨#[]⟩ : ByteArray), .int .u32 0, .bool false] 27 (0, 0)) (bk_ BK483) k_ hn_))⟩)) (below_size (hb_ HB)))
       have n4_ := Aside0.mk (Kd.R_lower (Kd.R_mono (ok' := fun k_ => True) ho1 (fun _ hk_ => trivial)) (below_size (hb_ HB)))
       have n5_ := Aside0.mk (blk_below (bk_ BK418) hb)
       have n6_ := Aside0.mk (blk_below (bk_ BK425) hb)
       have n7_ := Aside0.mk (blk_below (bk_ BK444) hb)
       have n8_ := Aside0.mk (blk_below (bk_ BK463) hb)
       have n9_ := Aside0.mk (blk_below (bk_ BK483) hb)
       have n10_ := Aside0.mk (below_step (hb_ HB) hb)
       clear HO_445000
       clear HO_464000
       clear HO467
       clear BK418
       clear BK425
       clear BK444
       clear BK463
       clear BK483
       clear HB
       have HO_445000 := n0_
       have HO_464000 := n1_
       have HO467 := n2_
       have HO474 := n3_
       have HO481 := n4_
       have BK418 := n5_
       have BK425 := n6_
       have BK444 := n7_
       have BK463 := n8_
       have BK483 := n9_
       have HB := n10_
       clear n0_ n1_ n2_ n3_ n4_ n5_ n6_ n7_ n8_ n9_ n10_
       (try clear hb)
       (try clear hb2)
       (try clear hk)
       (try clear hi)
       (try clear ho0)
       (try clear ho1)
       refine hK.out _ _ ⟨(blk_cell BK463.out 0).trans rfl, (blk_cell BK463.out 1).trans rfl, (blk_cell BK463.out 2).trans rfl, (blk_cell BK463.out 3).trans rfl, (blk_cell BK463.out 4).trans rfl, (blk_cell BK425.out 0).trans rfl, (blk_cell BK425.out 1).trans rfl, (blk_cell BK425.out 2).trans rfl, (blk_cell BK425.out 3).trans rfl, (blk_cell BK425.out 4).trans rfl, (blk_cell BK425.out 5).trans rfl, (blk_cell BK425.out 6).trans rfl, (blk_cell BK425.out 7).trans rfl, (blk_cell BK425.out 8).trans rfl, (blk_cell BK425.out 9).trans rfl, (blk_cell BK425.out 10).trans rfl, (blk_cell BK425.out 11).trans rfl, (blk_cell BK425.out 12).trans rfl, (blk_cell BK425.out 13).trans rfl⟩ (fun hHeld => ?_)
       clear hK K
       refine norm_ (a' := ?_) ?_ ?_
       rotate_left
       ·show Act.put _ (some 91) _ = _
        simp only [Act.put, la_, lb_, lc_, i64_w, i32_w]
        rfl
       refine pon_ 4 (some 87) d7x9 HT_.out ?_
       refine pon_ 5 (some 92) d7x11 HT_.out ?_
       refine pon_ 6 (some 93) d7x13 HT_.out ?_
       refine pon_ 7 (some 94) d7x15 HT_.out ?_
       exact norm_ (by simp only [putAll, Act.put, la_, lb_, lc_]) (hCont (.slice Ao111 t465.length co111, v473, v480, gb483) _ ⟨hHeld, (by (with_reducible repeat (first | apply Kd.R_alloc | apply Kd.R_drewN | apply Kd.R_drew)); exact HO467.out), (by (with_reducible repeat (first | apply Kd.V_alloc | apply Kd.V_drewN | apply Kd.V_drew)); exact HO474.out), (by (with_reducible repeat (first | apply Kd.R_alloc | apply Kd.R_drewN | apply Kd.R_drew)); exact HO481.out), (by (with_reducible repeat (first | apply Kd.V_alloc | apply Kd.V_drewN | apply Kd.V_drew)); exact Kd.V_mono HO_445000.out (fun _ hk => ⟨hk.1.2, ⟨hk.2, ⟨hk.1.1.1.1, ⟨hk.1.1.1.2.1, ⟨hk.1.1.1.2.2.1, ⟨hk.1.1.1.2.2.2, hk.1.1.2⟩⟩⟩⟩⟩⟩)), (by (with_reducible repeat (first | apply Kd.V_alloc | apply Kd.V_drewN | apply Kd.V_drew)); exact Kd.V_mono HO_464000.out (fun _ hk => ⟨hk.1.2, ⟨hk.2, ⟨hk.1.1.1.1, ⟨hk.1.1.1.2.1, ⟨hk.1.1.1.2.2.1, ⟨hk.1.1.1.2.2.2, hk.1.1.2⟩⟩⟩⟩⟩⟩)), (bk_ BK418), (bk_ BK425), (bk_ BK444), (bk_ BK463), (bk_ BK483), GW483.out, GE483.out, NB418_483.out, NB483_418.out, NB425_483.out, NB483_425.out, NB444_483.out, NB483_444.out, NB463_483.out, NB483_463.out, (hb_ HB)⟩)
     rintro ⟨v466, v473, v480, gb483⟩ w113 ⟨hS_, h0_, h1_, h2_, h3_, h4_, h5_, h6_, h7_, h8_, h9_, h10_, h11_, h12_, h13_, h14_, h15_, h16_, h17_, h18_, h19_, h20_⟩
     have n0_ : Aside0 (Kd.R k53 53 w113 w.heap.size (fun _ => True) v466 t465) := ⟨h0_⟩
     have n1_ : Aside0 (Kd.V k53 53 w113 w.heap.size (fun k_ => some k_ ≠ (v480 : Value).ownBlock ∧ k_ ≠ gb418 ∧ k_ ≠ gb425 ∧ k_ ≠ gb444 ∧ k_ ≠ gb463 ∧ k_ ≠ gb483) v473 t472) := ⟨h1_⟩
     have n2_ : Aside0 (Kd.R k46 46 w113 w.heap.size (fun _ => True) v480 t479) := ⟨h2_⟩
     have n3_ : Aside0 (Kd.V k53 53 w113 w.heap.size (fun k_ => some k_ ≠ (v466 : Value).ownBlock ∧ some k_ ≠ (v480 : Value).ownBlock ∧ k_ ≠ gb418 ∧ k_ ≠ gb425 ∧ k_ ≠ gb444 ∧ k_ ≠ gb463 ∧ k_ ≠ gb483) (.slice Ao53 t433.length co53) t433) := ⟨h3_⟩
     have n4_ : Aside0 (Kd.V k53 53 w113 w.heap.size (fun k_ => some k_ ≠ (v466 : Value).ownBlock ∧ some k_ ≠ (v480 : Value).ownBlock ∧ k_ ≠ gb418 ∧ k_ ≠ gb425 ∧ k_ ≠ gb444 ∧ k_ ≠ gb463 ∧ k_ ≠ gb483) (.slice Ao66 t452.length co66) t452) := ⟨h4_⟩
     have n5_ : Aside0 (w113.heap[gb418]? = some (.cells #[.slice A0_0 l0_0.length c0_0, .int .i64 a0_1, .string a0_2, .int .u32 a0_3, .bool a0_4] 27 (0, 0))) := ⟨h5_⟩
     have n6_ : Aside0 (w113.heap[gb425]? = some (.cells #[.int .i64 10, .int .i64 0, .string a1, .int .i64 0, .int .i64 0, .string (⟨#[]⟩ : ByteArray), .bool false, .slice none 0 0, .int .u64 t423, .int .u64 0, .int .u64 0, .int .i64 (wrap64 (1 + t424)), .bool false, .int .i64 0] 31 (0, 0))) := ⟨h6_⟩
     have n7_ : Aside0 (w113.heap[gb444]? = some (.cells #[.slice Ao53 t433.length co53, .int .i64 t436, .string t437, .int .u32 t438, .bool t439] 27 (0, 0))) := ⟨h7_⟩
     have n8_ : Aside0 (w113.heap[gb463]? = some (.cells #[.slice Ao66 t452.length co66, .int .i64 t455, .string t456, .int .u32 t457, .bool t458] 27 (0, 0))) := ⟨h8_⟩
     have n9_ : Aside0 (w113.heap[gb483]? = some (.cells #[.slice none 0 0, .int .i64 0, .string (⟨#[]⟩ : ByteArray), .int .u32 0, .bool false] 27 (0, 0))) := ⟨h9_⟩
     have n10_ : Aside0 (w.heap.size ≤ gb483) := ⟨h10_⟩
     have n11_ : Aside0 (w.heap.size ≤ gb483) := ⟨h11_⟩
     have n12_ : Aside0 (gb418 ≠ gb483) := ⟨h12_⟩
     have n13_ : Aside0 (gb483 ≠ gb418) := ⟨h13_⟩
     have n14_ : Aside0 (gb425 ≠ gb483) := ⟨h14_⟩
     have n15_ : Aside0 (gb483 ≠ gb425) := ⟨h15_⟩
     have n16_ : Aside0 (gb444 ≠ gb483) := ⟨h16_⟩
     have n17_ : Aside0 (gb483 ≠ gb444) := ⟨h17_⟩
     have n18_ : Aside0 (gb463 ≠ gb483) := ⟨h18_⟩
     have n19_ : Aside0 (gb483 ≠ gb463) := ⟨h19_⟩
     have n20_ : Aside0 (Below w.heap.size w w113) := ⟨h20_⟩
     clear HO_445000
     clear HO_464000
     clear BK418
     clear BK425
     clear BK444
     clear BK463
     clear HB
     clear h0_ h1_ h2_ h3_ h4_ h5_ h6_ h7_ h8_ h9_ h10_ h11_ h12_ h13_ h14_ h15_ h16_ h17_ h18_ h19_ h20_
     have HO467 := n0_
     have HO474 := n1_
     have HO481 := n2_
     have HO_445000 := n3_
     have HO_464000 := n4_
     have BK418 := n5_
     have BK425 := n6_
     have BK444 := n7_
     have BK463 := n8_
     have BK483 := n9_
     have GW483 := n10_
     have GE483 := n11_
     have NB418_483 := n12_
     have NB483_418 := n13_
     have NB425_483 := n14_
     have NB483_425 := n15_
     have NB444_483 := n16_
     have NB483_444 := n17_
     have NB463_483 := n18_
     have NB483_463 := n19_
     have HB := n20_
     clear n0_ n1_ n2_ n3_ n4_ n5_ n6_ n7_ n8_ n9_ n10_ n11_ n12_ n13_ n14_ n15_ n16_ n17_ n18_ n19_ n20_
     have hHeld : w113.cell? ⟨gb463, 0, none⟩ = some (.slice Ao66 t452.length co66) ∧ w113.cell? ⟨gb463, 1, none⟩ = some (.int .i64 t455) ∧ w113.cell? ⟨gb463, 2, none⟩ = some (.string t456) ∧ w113.cell? ⟨gb463, 3, none⟩ = some (.int .u32 t457) ∧ w113.cell? ⟨gb463, 4, none⟩ = some (.bool t458) ∧ w113.cell? ⟨gb425, 0, none⟩ = some (.int .i64 10) ∧ w113.cell? ⟨gb425, 1, none⟩ = some (.int .i64 0) ∧ w113.cell? ⟨gb425, 2, none⟩ = some (.string a1) ∧ w113.cell? ⟨gb425, 3, none⟩ = some (.int .i64 0) ∧ w113.cell? ⟨gb425, 4, none⟩ = some (.int .i64 0) ∧ w113.cell? ⟨gb425, 5, none⟩ = some (.string (⟨#[]⟩ : ByteArray)) ∧ w113.cell? ⟨gb425, 6, none⟩ = some (.bool false) ∧ w113.cell? ⟨gb425, 7, none⟩ = some (.slice none 0 0) ∧ w113.cell? ⟨gb425, 8, none⟩ = some (.int .u64 t423) ∧ w113.cell? ⟨gb425, 9, none⟩ = some (.int .u64 0) ∧ w113.cell? ⟨gb425, 10, none⟩ = some (.int .u64 0) ∧ w113.cell? ⟨gb425, 11, none⟩ = some (.int .i64 (wrap64 (1 + t424))) ∧ w113.cell? ⟨gb425, 12, none⟩ = some (.bool false) ∧ w113.cell? ⟨gb425, 13, none⟩ = some (.int .i64 0) := hS_
     obtain ⟨Ao114, co114, eo114⟩ := Kd.V_slice HO474.out
     (first | subst eo114 | (injection eo114 with f1_ f2_ f3_; have f4_ := f1_.symm; have f5_ := f3_.symm; clear f1_ f2_ f3_; subst f4_; subst f5_))
     refine norm_ (a' := ?_) ?_ ?_
     rotate_left
     ·simp only [putAll, Act.put, la_, lb_, lc_]
      rfl
     refine one_ (i := 9) (N := none) d7x16 rfl rfl (one_of HT_.out (by kernel_rfl)) (by decide) (fun K hK => ?_)
     have hs115 : w113.cell? ⟨gb483, 0, none⟩ = some (.slice none 0 0) := (blk_cell BK483.out 0).trans rfl
     have hfs115 := blk_frozen BK483.out 0
     have hns115_0 := NB418_483.out
     have hns115_1 := NB425_483.out
     have hns115_2 := NB444_483.out
     have hns115_3 := NB463_483.out
     have hms115_0 := NB483_418.out
     have hms115_1 := NB483_425.out
     have hms115_2 := NB483_444.out
     have hms115_3 := NB483_463.out
     have hs116 : w113.cell? ⟨gb483, 1, none⟩ = some (.int .i64 0) := (blk_cell BK483.out 1).trans rfl
     have hfs116 := blk_frozen BK483.out 1
     have hns116_0 := NB418_483.out
     have hns116_1 := NB425_483.out
     have hns116_2 := NB444_483.out
     have hns116_3 := NB463_483.out
     have hms116_0 := NB483_418.out
     have hms116_1 := NB483_425.out
     have hms116_2 := NB483_444.out
     have hms116_3 := NB483_463.out
     have hs117 : w113.cell? ⟨gb483, 2, none⟩ = some (.string (⟨#[]⟩ : ByteArray)) := (blk_cell BK483.out 2).trans rfl
     have hfs117 := blk_frozen BK483.out 2
     have hns117_0 := NB418_483.out
     have hns117_1 := NB425_483.out
     have hns117_2 := NB444_483.out
     have hns117_3 := NB463_483.out
     have hms117_0 := NB483_418.out
     have hms117_1 := NB483_425.out
     have hms117_2 := NB483_444.out
     have hms117_3 := NB483_463.out
     have hs118 : w113.cell? ⟨gb483, 3, none⟩ = some (.int .u32 0) := (blk_cell BK483.out 3).trans rfl
     have hfs118 := blk_frozen BK483.out 3
     have hns118_0 := NB418_483.out
     have hns118_1 := NB425_483.out
     have hns118_2 := NB444_483.out
     have hns118_3 := NB463_483.out
     have hms118_0 := NB483_418.out
     have hms118_1 := NB483_425.out
     have hms118_2 := NB483_444.out
     have hms118_3 := NB483_463.out
     have hs119 : w113.cell? ⟨gb483, 4, none⟩ = some (.bool false) := (blk_cell BK483.out 4).trans rfl
     have hfs119 := blk_frozen BK483.out 4
     have hns119_0 := NB418_483.out
     have hns119_1 := NB425_483.out
     have hns119_2 := NB444_483.out
     have hns119_3 := NB463_483.out
     have hms119_0 := NB483_418.out
     have hms119_1 := NB483_425.out
     have hms119_2 := NB483_444.out
     have hms119_3 := NB483_463.out
     refine skip_ (w1 := ?_) (by rfl) rfl ?_ ?_
     rotate_left
     ·go_simp
      rfl
     refine hK.out _ _ ⟨((cf_ NB463_483.out).trans (((cf_ NB463_483.out).trans (((cf_ NB463_483.out).trans (((cf_ NB463_483.out).trans (((cf_ NB463_483.out).trans (hHeld.1)))))))))), ((cf_ NB463_483.out).trans (((cf_ NB463_483.out).trans (((cf_ NB463_483.out).trans (((cf_ NB463_483.out).trans (((cf_ NB463_483.out).trans (hHeld.2.1)))))))))), ((cf_ NB463_483.out).trans (((cf_ NB463_483.out).trans (((cf_ NB463_483.out).trans (((cf_ NB463_483.out).trans (((cf_ NB463_483.out).trans (hHeld.2.2.1)))))))))), ((cf_ NB463_483.out).trans (((cf_ NB463_483.out).trans (((cf_ NB463_483.out).trans (((cf_ NB463_483.out).trans (((cf_ NB463_483.out).trans (hHeld.2.2.2.1)))))))))), ((cf_ NB463_483.out).trans (((cf_ NB463_483.out).trans (((cf_ NB463_483.out).trans (((cf_ NB463_483.out).trans (((cf_ NB463_483.out).trans (hHeld.2.2.2.2.1)))))))))), ((cf_ NB425_483.out).trans (((cf_ NB425_483.out).trans (((cf_ NB425_483.out).trans (((cf_ NB425_483.out).trans (((cf_ NB425_483.out).trans (hHeld.2.2.2.2.2.1)))))))))), ((cf_ NB425_483.out).trans (((cf_ NB425_483.out).trans (((cf_ NB425_483.out).trans (((cf_ NB425_483.out).trans (((cf_ NB425_483.out).trans (hHeld.2.2.2.2.2.2.1)))))))))), ((cf_ NB425_483.out).trans (((cf_ NB425_483.out).trans (((cf_ NB425_483.out).trans (((cf_ NB425_483.out).trans (((cf_ NB425_483.out).trans (hHeld.2.2.2.2.2.2.2.1)))))))))), ((cf_ NB425_483.out).trans (((cf_ NB425_483.out).trans (((cf_ NB425_483.out).trans (((cf_ NB425_483.out).trans (((cf_ NB425_483.out).trans (hHeld.2.2.2.2.2.2.2.2.1)))))))))), ((cf_ NB425_483.out).trans (((cf_ NB425_483.out).trans (((cf_ NB425_483.out).trans (((cf_ NB425_483.out).trans (((cf_ NB425_483.out).trans (hHeld.2.2.2.2.2.2.2.2.2.1)))))))))), ((cf_ NB425_483.out).trans (((cf_ NB425_483.out).trans (((cf_ NB425_483.out).trans (((cf_ NB425_483.out).trans (((cf_ NB425_483.out).trans (hHeld.2.2.2.2.2.2.2.2.2.2.1)))))))))), ((cf_ NB425_483.out).trans (((cf_ NB425_483.out).trans (((cf_ NB425_483.out).trans (((cf_ NB425_483.out).trans (((cf_ NB425_483.out).trans (hHeld.2.2.2.2.2.2.2.2.2.2.2.1)))))))))), ((cf_ NB425_483.out).trans (((cf_ NB425_483.out).trans (((cf_ NB425_483.out).trans (((cf_ NB425_483.out).trans (((cf_ NB425_483.out).trans (hHeld.2.2.2.2.2.2.2.2.2.2.2.2.1)))))))))), ((cf_ NB425_483.out).trans (((cf_ NB425_483.out).trans (((cf_ NB425_483.out).trans (((cf_ NB425_483.out).trans (((cf_ NB425_483.out).trans (hHeld.2.2.2.2.2.2.2.2.2.2.2.2.2.1)))))))))), ((cf_ NB425_483.out).trans (((cf_ NB425_483.out).trans (((cf_ NB425_483.out).trans (((cf_ NB425_483.out).trans (((cf_ NB425_483.out).trans (hHeld.2.2.2.2.2.2.2.2.2.2.2.2.2.2.1)))))))))), ((cf_ NB425_483.out).trans (((cf_ NB425_483.out).trans (((cf_ NB425_483.out).trans (((cf_ NB425_483.out).trans (((cf_ NB425_483.out).trans (hHeld.2.2.2.2.2.2.2.2.2.2.2.2.2.2.2.1)))))))))), ((cf_ NB425_483.out).trans (((cf_ NB425_483.out).trans (((cf_ NB425_483.out).trans (((cf_ NB425_483.out).trans (((cf_ NB425_483.out).trans (hHeld.2.2.2.2.2.2.2.2.2.2.2.2.2.2.2.2.1)))))))))), ((cf_ NB425_483.out).trans (((cf_ NB425_483.out).trans (((cf_ NB425_483.out).trans (((cf_ NB425_483.out).trans (((cf_ NB425_483.out).trans (hHeld.2.2.2.2.2.2.2.2.2.2.2.2.2.2.2.2.2.1)))))))))), ((cf_ NB425_483.out).trans (((cf_ NB425_483.out).trans (((cf_ NB425_483.out).trans (((cf_ NB425_483.out).trans (((cf_ NB425_483.out).trans (hHeld.2.2.2.2.2.2.2.2.2.2.2.2.2.2.2.2.2.2))))))))))⟩ (fun hHeld => ?_)
     clear hK K
     refine pon_ 10 (some 15) d7x17 HT_.out ?_
     refine pon_ 11 (some 16) d7x18 HT_.out ?_
     refine done_ (done_of HT_.out (by kernel_rfl)) ?_
     have hnb120 := NB418_444.out
     have hnc120 := NB444_418.out
     have hnb121 := NB418_463.out
     have hnc121 := NB463_418.out
     have hnb122 := NB418_483.out
     have hnc122 := NB483_418.out
     have hcz123_0 : w113.cell? ⟨gb418, 0, none⟩ = some (.slice A0_0 l0_0.length c0_0) := (blk_cell BK418.out 0).trans rfl
     have hcz123_1 : w113.cell? ⟨gb418, 1, none⟩ = some (.int .i64 a0_1) := (blk_cell BK418.out 1).trans rfl
     have hcz123_2 : w113.cell? ⟨gb418, 2, none⟩ = some (.string a0_2) := (blk_cell BK418.out 2).trans rfl
     have hcz123_3 : w113.cell? ⟨gb418, 3, none⟩ = some (.int .u32 a0_3) := (blk_cell BK418.out 3).trans rfl
     have hcz123_4 : w113.cell? ⟨gb418, 4, none⟩ = some (.bool a0_4) := (blk_cell BK418.out 4).trans rfl
     have hfz123_0 := blk_frozen BK418.out 0
     have hfz123_1 := blk_frozen BK418.out 1
     have hfz123_2 := blk_frozen BK418.out 2
     have hfz123_3 := blk_frozen BK418.out 3
     have hfz123_4 := blk_frozen BK418.out 4
     have hnb124 := NB425_483.out
     have hnc124 := NB483_425.out
     have hcz125_0 : w113.cell? ⟨gb425, 0, none⟩ = some (.int .i64 10) := (blk_cell BK425.out 0).trans rfl
     have hcz125_1 : w113.cell? ⟨gb425, 1, none⟩ = some (.int .i64 0) := (blk_cell BK425.out 1).trans rfl
     have hcz125_2 : w113.cell? ⟨gb425, 2, none⟩ = some (.string a1) := (blk_cell BK425.out 2).trans rfl
     have hcz125_3 : w113.cell? ⟨gb425, 3, none⟩ = some (.int .i64 0) := (blk_cell BK425.out 3).trans rfl
     have hcz125_4 : w113.cell? ⟨gb425, 4, none⟩ = some (.int .i64 0) := (blk_cell BK425.out 4).trans rfl
     have hcz125_5 : w113.cell? ⟨gb425, 5, none⟩ = some (.string (⟨#[]⟩ : ByteArray)) := (blk_cell BK425.out 5).trans rfl
     have hcz125_6 : w113.cell? ⟨gb425, 6, none⟩ = some (.bool false) := (blk_cell BK425.out 6).trans rfl
     have hcz125_7 : w113.cell? ⟨gb425, 7, none⟩ = some (.slice none 0 0) := (blk_cell BK425.out 7).trans rfl
     have hcz125_8 : w113.cell? ⟨gb425, 8, none⟩ = some (.int .u64 t423) := (blk_cell BK425.out 8).trans rfl
     have hcz125_9 : w113.cell? ⟨gb425, 9, none⟩ = some (.int .u64 0) := (blk_cell BK425.out 9).trans rfl
     have hcz125_10 : w113.cell? ⟨gb425, 10, none⟩ = some (.int .u64 0) := (blk_cell BK425.out 10).trans rfl
     have hcz125_11 : w113.cell? ⟨gb425, 11, none⟩ = some (.int .i64 (wrap64 (1 + t424))) := (blk_cell BK425.out 11).trans rfl
     have hcz125_12 : w113.cell? ⟨gb425, 12, none⟩ = some (.bool false) := (blk_cell BK425.out 12).trans rfl
     have hcz125_13 : w113.cell? ⟨gb425, 13, none⟩ = some (.int .i64 0) := (blk_cell BK425.out 13).trans rfl
     have hfz125_0 := blk_frozen BK425.out 0
     have hfz125_1 := blk_frozen BK425.out 1
     have hfz125_2 := blk_frozen BK425.out 2
     have hfz125_3 := blk_frozen BK425.out 3
     have hfz125_4 := blk_frozen BK425.out 4
     have hfz125_5 := blk_frozen BK425.out 5
     have hfz125_6 := blk_frozen BK425.out 6
     have hfz125_7 := blk_frozen BK425.out 7
     have hfz125_8 := blk_frozen BK425.out 8
     have hfz125_9 := blk_frozen BK425.out 9
     have hfz125_10 := blk_frozen BK425.out 10
     have hfz125_11 := blk_frozen BK425.out 11
     have hfz125_12 := blk_frozen BK425.out 12
     have hfz125_13 := blk_frozen BK425.out 13
     go_upto_if 101 with (fail)
     go_cut [17] (fun v17 wc => ∃ (kq : Nat) (x17_101 : Int), v17 = .int .i64 x17_101 ∧ Aside0 (headgatelaw11_ResvTwice.j2 kq t479 t482 x17_101 l0_0 a0_1 a0_2 a0_3 a0_4 t472 t475 t476 t477 t478 = some r) ∧ Aside0 (kq ≤ kj39) ∧ Aside0 (Kd.R k46 46 wc w.heap.size (fun _ => True) v480 t479) ∧ Aside0 (Kd.V k53 53 wc w.heap.size (fun k_ => some k_ ≠ (v480 : Value).ownBlock ∧ k_ ≠ gb418 ∧ k_ ≠ gb425 ∧ k_ ≠ gb444 ∧ k_ ≠ gb463 ∧ k_ ≠ gb483) (.slice Ao53 t433.length co53) t433) ∧ Aside0 (Kd.V k53 53 wc w.heap.size (fun k_ => some k_ ≠ (v480 : Value).ownBlock ∧ k_ ≠ gb418 ∧ k_ ≠ gb425 ∧ k_ ≠ gb444 ∧ k_ ≠ gb463 ∧ k_ ≠ gb483) (.slice Ao66 t452.length co66) t452) ∧ Aside0 (Kd.V k53 53 wc w.heap.size (fun k_ => some k_ ≠ (v480 : Value).ownBlock ∧ k_ ≠ gb418 ∧ k_ ≠ gb425 ∧ k_ ≠ gb444 ∧ k_ ≠ gb463 ∧ k_ ≠ gb483) (.slice Ao114 t472.length co114) t472) ∧ Aside0 (wc.heap[gb418]? = some (.cells #[(.slice A0_0 l0_0.length c0_0), .int .i64 a0_1, .string a0_2, .int .u32 a0_3, .bool a0_4] 27 (0, 0))) ∧ Aside0 (wc.heap[gb425]? = some (.cells #[.int .i64 10, .int .i64 0, .string a1, .int .i64 0, .int .i64 0, .string (⟨#[]⟩ : ByteArray), .bool false, (.slice none 0 0), .int .u64 t423, .int .u64 0, .int .u64 0, .int .i64 (wrap64 (1 + t424)), .bool false, .int .i64 0] 31 (0, 0))) ∧ Aside0 (wc.heap[gb444]? = some (.cells #[(.slice Ao53 t433.length co53), .int .i64 t436, .string t437, .int .u32 t438, .bool t439] 27 (0, 0))) ∧ Aside0 (wc.heap[gb463]? = some (.cells #[(.slice Ao66 t452.length co66), .int .i64 t455, .string t456, .int .u32 t457, .bool t458] 27 (0, 0))) ∧ Aside0 (wc.heap[gb483]? = some (.cells #[(.slice Ao114 t472.length co114), .int .i64 t475, .string t476, .int .u32 t477, .bool t478] 27 (0, 0))) ∧ Aside0 (Below w.heap.size w wc))
     case first =>
      have H := HC102.out
      clear HC102
      by_cases c126 : (wrap64 (1 + t424)) < 3
      ·rw [if_pos c126] at H
       have c126b0 : decide ((wrap64 (1 + t424)) < 3) = true := decide_eq_true c126
       clear c126
       (first | rw [c126b0] | (simp only [i64_w, i32_w]; rw [c126b0]) | skip)
       have H' := Aside0.mk H
       clear H
       go_wp2
       go_meet
       case rel => exact ⟨_, (0), (by first | rfl | (simp; done) | (simp [*]; done)), H', ⟨by have := HJ3.out; have := HJ39.out; first | omega | exact Nat.le_refl _⟩, ⟨by (with_reducible repeat (first | apply Kd.R_alloc | apply Kd.R_drewN | apply Kd.R_drew)); exact Kd.R_mono (Kd.R_far (p := ⟨gb483, 4, none⟩) (Kd.R_far (p := ⟨gb483, 3, none⟩) (Kd.R_far (p := ⟨gb483, 2, none⟩) (Kd.R_far (p := ⟨gb483, 1, none⟩) (Kd.R_far (p := ⟨gb483, 0, none⟩) (Kd.R_types HO481.out BK483.out (by decide)) (fun _ hk => hk.2) (.slice Ao114 t472.length co114)) (fun _ hk => hk.2) (.int .i64 t475)) (fun _ hk => hk.2) (.string t476)) (fun _ hk => hk.2) (.int .u32 t477)) (fun _ hk => hk.2) (.bool t478)) (fun _ hk => trivial)⟩, ⟨by (with_reducible repeat (first | apply Kd.V_alloc | apply Kd.V_drewN | apply Kd.V_drew)); exact Kd.V_mono (Kd.V_far (p := ⟨gb483, 4, none⟩) (Kd.V_far (p := ⟨gb483, 3, none⟩) (Kd.V_far (p := ⟨gb483, 2, none⟩) (Kd.V_far (p := ⟨gb483, 1, none⟩) (Kd.V_far (p := ⟨gb483, 0, none⟩) (Kd.V_mono HO_445000.out (fun k_ hk => (⟨hk, hk.2.2.2.2.2.2⟩ : _ ∧ k_ ≠ gb483))) (fun _ hk => hk.2) (.slice Ao114 t472.length co114)) (fun _ hk => hk.2) (.int .i64 t475)) (fun _ hk => hk.2) (.string t476)) (fun _ hk => hk.2) (.int .u32 t477)) (fun _ hk => hk.2) (.bool t478)) (fun _ hk => ⟨hk.1.2.1, ⟨hk.1.2.2.1, ⟨hk.1.2.2.2.1, ⟨hk.1.2.2.2.2.1, ⟨hk.1.2.2.2.2.2.1, hk.1.2.2.2.2.2.2⟩⟩⟩⟩⟩)⟩, ⟨by (with_reducible repeat (first | apply Kd.V_alloc | apply Kd.V_drewN | apply Kd.V_drew)); exact Kd.V_mono (Kd.V_far (p := ⟨gb483, 4, none⟩) (Kd.V_far (p := ⟨gb483, 3, none⟩) (Kd.V_far (p := ⟨gb483, 2, none⟩) (Kd.V_far (p := ⟨gb483, 1, none⟩) (Kd.V_far (p := ⟨gb483, 0, none⟩) (Kd.V_mono HO_464000.out (fun k_ hk => (⟨hk, hk.2.2.2.2.2.2⟩ : _ ∧ k_ ≠ gb483))) (fun _ hk => hk.2) (.slice Ao114 t472.length co114)) (fun _ hk => hk.2) (.int .i64 t475)) (fun _ hk => hk.2) (.string t476)) (fun _ hk => hk.2) (.int .u32 t477)) (fun _ hk => hk.2) (.bool t478)) (fun _ hk => ⟨hk.1.2.1, ⟨hk.1.2.2.1, ⟨hk.1.2.2.2.1, ⟨hk.1.2.2.2.2.1, ⟨hk.1.2.2.2.2.2.1, hk.1.2.2.2.2.2.2⟩⟩⟩⟩⟩)⟩, ⟨by (with_reducible repeat (first | apply Kd.V_alloc | apply Kd.V_drewN | apply Kd.V_drew)); exact Kd.V_mono (Kd.V_far (p := ⟨gb483, 4, none⟩) (Kd.V_far (p := ⟨gb483, 3, none⟩) (Kd.V_far (p := ⟨gb483, 2, none⟩) (Kd.V_far (p := ⟨gb483, 1, none⟩) (Kd.V_far (p := ⟨gb483, 0, none⟩) (Kd.V_mono HO474.out (fun k_ hk => (⟨hk, hk.2.2.2.2.2⟩ : _ ∧ k_ ≠ gb483))) (fun _ hk => hk.2) (.slice Ao114 t472.length co114)) (fun _ hk => hk.2) (.int .i64 t475)) (fun _ hk => hk.2) (.string t476)) (fun _ hk => hk.2) (.int .u32 t477)) (fun _ hk => hk.2) (.bool t478)) (fun _ hk => ⟨hk.1.1, ⟨hk.1.2.1, ⟨hk.1.2.2.1, ⟨hk.1.2.2.2.1, ⟨hk.1.2.2.2.2.1, hk.1.2.2.2.2.2⟩⟩⟩⟩⟩)⟩, ⟨by (with_reducible repeat (first | refine blk_drewN ?_ _ | refine blk_drew ?_ | refine blk_alloc ?_ _ | refine blk_far ?_ NB418_483.out _)); exact BK418.out⟩, ⟨by (with_reducible repeat (first | refine blk_drewN ?_ _ | refine blk_drew ?_ | refine blk_alloc ?_ _ | refine blk_far ?_ NB425_483.out _)); exact BK425.out⟩, ⟨by (with_reducible repeat (first | refine blk_drewN ?_ _ | refine blk_drew ?_ | refine blk_alloc ?_ _ | refine blk_far ?_ NB444_483.out _)); exact BK444.out⟩, ⟨by (with_reducible repeat (first | refine blk_drewN ?_ _ | refine blk_drew ?_ | refine blk_alloc ?_ _ | refine blk_far ?_ NB463_483.out _)); exact BK463.out⟩, ⟨by (with_reducible repeat (first | refine blk_drewN ?_ _ | refine blk_drew ?_ | refine blk_alloc ?_ _)); refine blk_put (cs := #[.slice Ao114 t472.length co114, .int .i64 t475, .string t476, .int .u32 t477, .bool false]) ?_ 4 _ rfl; (with_reducible repeat (first | refine blk_drewN ?_ _ | refine blk_drew ?_ | refine blk_alloc ?_ _)); refine blk_put (cs := #[.slice Ao114 t472.length co114, .int .i64 t475, .string t476, .int .u32 0, .bool false]) ?_ 3 _ rfl; (with_reducible repeat (first | refine blk_drewN ?_ _ | refine blk_drew ?_ | refine blk_alloc ?_ _)); refine blk_put (cs := #[.slice Ao114 t472.length co114, .int .i64 t475, .string (⟨#[]⟩ : ByteArray), .int .u32 0, .bool false]) ?_ 2 _ rfl; (with_reducible repeat (first | refine blk_drewN ?_ _ | refine blk_drew ?_ | refine blk_alloc ?_ _)); refine blk_put (cs := #[.slice Ao114 t472.length co114, .int .i64 0, .string (⟨#[]⟩ : ByteArray), .int .u32 0, .bool false]) ?_ 1 _ rfl; (with_reducible repeat (first | refine blk_drewN ?_ _ | refine blk_drew ?_ | refine blk_alloc ?_ _)); refine blk_put (cs := #[.slice none 0 0, .int .i64 0, .string (⟨#[]⟩ : ByteArray), .int .u32 0, .bool false]) ?_ 0 _ rfl; (with_reducible repeat (first | refine blk_drewN ?_ _ | refine blk_drew ?_ | refine blk_alloc ?_ _)); exact BK483.out⟩, ⟨hb_ HB⟩⟩
      rw [if_neg c126] at H
      have c126b0 : decide ((wrap64 (1 + t424)) < 3) = false := decide_eq_false c126
      clear c126
      (first | rw [c126b0] | (simp only [i64_w, i32_w]; rw [c126b0]) | skip)
      have H' := Aside0.mk H
      clear H
      go_wp2
      go_meet
      case rel => exact ⟨_, (wrap64 ((l0_0.length : Int) - 1)), (by first | rfl | (simp; done) | (simp [*]; done)), H', ⟨by have := HJ3.out; have := HJ39.out; first | omega | exact Nat.le_refl _⟩, ⟨by (with_reducible repeat (first | apply Kd.R_alloc | apply Kd.R_drewN | apply Kd.R_drew)); exact Kd.R_mono (Kd.R_far (p := ⟨gb483, 4, none⟩) (Kd.R_far (p := ⟨gb483, 3, none⟩) (Kd.R_far (p := ⟨gb483, 2, none⟩) (Kd.R_far (p := ⟨gb483, 1, none⟩) (Kd.R_far (p := ⟨gb483, 0, none⟩) (Kd.R_types HO481.out BK483.out (by decide)) (fun _ hk => hk.2) (.slice Ao114 t472.length co114)) (fun _ hk => hk.2) (.int .i64 t475)) (fun _ hk => hk.2) (.string t476)) (fun _ hk => hk.2) (.int .u32 t477)) (fun _ hk => hk.2) (.bool t478)) (fun _ hk => trivial)⟩, ⟨by (with_reducible repeat (first | apply Kd.V_alloc | apply Kd.V_drewN | apply Kd.V_drew)); exact Kd.V_mono (Kd.V_far (p := ⟨gb483, 4, none⟩) (Kd.V_far (p := ⟨gb483, 3, none⟩) (Kd.V_far (p := ⟨gb483, 2, none⟩) (Kd.V_far (p := ⟨gb483, 1, none⟩) (Kd.V_far (p := ⟨gb483, 0, none⟩) (Kd.V_mono HO_445000.out (fun k_ hk => (⟨hk, hk.2.2.2.2.2.2⟩ : _ ∧ k_ ≠ gb483))) (fun _ hk => hk.2) (.slice Ao114 t472.length co114)) (fun _ hk => hk.2) (.int .i64 t475)) (fun _ hk => hk.2) (.string t476)) (fun _ hk => hk.2) (.int .u32 t477)) (fun _ hk => hk.2) (.bool t478)) (fun _ hk => ⟨hk.1.2.1, ⟨hk.1.2.2.1, ⟨hk.1.2.2.2.1, ⟨hk.1.2.2.2.2.1, ⟨hk.1.2.2.2.2.2.1, hk.1.2.2.2.2.2.2⟩⟩⟩⟩⟩)⟩, ⟨by (with_reducible repeat (first | apply Kd.V_alloc | apply Kd.V_drewN | apply Kd.V_drew)); exact Kd.V_mono (Kd.V_far (p := ⟨gb483, 4, none⟩) (Kd.V_far (p := ⟨gb483, 3, none⟩) (Kd.V_far (p := ⟨gb483, 2, none⟩) (Kd.V_far (p := ⟨gb483, 1, none⟩) (Kd.V_far (p := ⟨gb483, 0, none⟩) (Kd.V_mono HO_464000.out (fun k_ hk => (⟨hk, hk.2.2.2.2.2.2⟩ : _ ∧ k_ ≠ gb483))) (fun _ hk => hk.2) (.slice Ao114 t472.length co114)) (fun _ hk => hk.2) (.int .i64 t475)) (fun _ hk => hk.2) (.string t476)) (fun _ hk => hk.2) (.int .u32 t477)) (fun _ hk => hk.2) (.bool t478)) (fun _ hk => ⟨hk.1.2.1, ⟨hk.1.2.2.1, ⟨hk.1.2.2.2.1, ⟨hk.1.2.2.2.2.1, ⟨hk.1.2.2.2.2.2.1, hk.1.2.2.2.2.2.2⟩⟩⟩⟩⟩)⟩, ⟨by (with_reducible repeat (first | apply Kd.V_alloc | apply Kd.V_drewN | apply Kd.V_drew)); exact Kd.V_mono (Kd.V_far (p := ⟨gb483, 4, none⟩) (Kd.V_far (p := ⟨gb483, 3, none⟩) (Kd.V_far (p := ⟨gb483, 2, none⟩) (Kd.V_far (p := ⟨gb483, 1, none⟩) (Kd.V_far (p := ⟨gb483, 0, none⟩) (Kd.V_mono HO474.out (fun k_ hk => (⟨hk, hk.2.2.2.2.2⟩ : _ ∧ k_ ≠ gb483))) (fun _ hk => hk.2) (.slice Ao114 t472.length co114)) (fun _ hk => hk.2) (.int .i64 t475)) (fun _ hk => hk.2) (.string t476)) (fun _ hk => hk.2) (.int .u32 t477)) (fun _ hk => hk.2) (.bool t478)) (fun _ hk => ⟨hk.1.1, ⟨hk.1.2.1, ⟨hk.1.2.2.1, ⟨hk.1.2.2.2.1, ⟨hk.1.2.2.2.2.1, hk.1.2.2.2.2.2⟩⟩⟩⟩⟩)⟩, ⟨by (with_reducible repeat (first | refine blk_drewN ?_ _ | refine blk_drew ?_ | refine blk_alloc ?_ _ | refine blk_far ?_ NB418_483.out _)); exact BK418.out⟩, ⟨by (with_reducible repeat (first | refine blk_drewN ?_ _ | refine blk_drew ?_ | refine blk_alloc ?_ _ | refine blk_far ?_ NB425_483.out _)); exact BK425.out⟩, ⟨by (with_reducible repeat (first | refine blk_drewN ?_ _ | refine blk_drew ?_ | refine blk_alloc ?_ _ | refine blk_far ?_ NB444_483.out _)); exact BK444.out⟩, ⟨by (with_reducible repeat (first | refine blk_drewN ?_ _ | refine blk_drew ?_ | refine blk_alloc ?_ _ | refine blk_far ?_ NB463_483.out _)); exact BK463.out⟩, ⟨by (with_reducible repeat (first | refine blk_drewN ?_ _ | refine blk_drew ?_ | refine blk_alloc ?_ _)); refine blk_put (cs := #[.slice Ao114 t472.length co114, .int .i64 t475, .string t476, .int .u32 t477, .bool false]) ?_ 4 _ rfl; (with_reducible repeat (first | refine blk_drewN ?_ _ | refine blk_drew ?_ | refine blk_alloc ?_ _)); refine blk_put (cs := #[.slice Ao114 t472.length co114, .int .i64 t475, .string t476, .int .u32 0, .bool false]) ?_ 3 _ rfl; (with_reducible repeat (first | refine blk_drewN ?_ _ | refine blk_drew ?_ | refine blk_alloc ?_ _)); refine blk_put (cs := #[.slice Ao114 t472.length co114, .int .i64 t475, .string (⟨#[]⟩ : ByteArray), .int .u32 0, .bool false]) ?_ 2 _ rfl; (with_reducible repeat (first | refine blk_drewN ?_ _ | refine blk_drew ?_ | refine blk_alloc ?_ _)); refine blk_put (cs := #[.slice Ao114 t472.length co114, .int .i64 0, .string (⟨#[]⟩ : ByteArray), .int .u32 0, .bool false]) ?_ 1 _ rfl; (with_reducible repeat (first | refine blk_drewN ?_ _ | refine blk_drew ?_ | refine blk_alloc ?_ _)); refine blk_put (cs := #[.slice none 0 0, .int .i64 0, .string (⟨#[]⟩ : ByteArray), .int .u32 0, .bool false]) ?_ 0 _ rfl; (with_reducible repeat (first | refine blk_drewN ?_ _ | refine blk_drew ?_ | refine blk_alloc ?_ _)); exact BK483.out⟩, ⟨hb_ HB⟩⟩
     case rest =>
      clear HC102
      try clear c1
      try clear p2
      try clear p6
      try clear c12
      try clear c14
      try clear c15
      try clear p64
      try clear c120
      try clear c121
      try clear c122
      try clear c124
      try clear c126
      try clear c126b0
      try clear hcz123_0
      try clear hcz123_1
      try clear hcz123_2
      try clear hcz123_3
      try clear hcz123_4
      try clear hcz125_0
      try clear hcz125_1
      try clear hcz125_10
      try clear hcz125_11
      try clear hcz125_12
      try clear hcz125_13
      try clear hcz125_2
      try clear hcz125_3
      try clear hcz125_4
      try clear hcz125_5
      try clear hcz125_6
      try clear hcz125_7
      try clear hcz125_8
      try clear hcz125_9
      try clear hfz123_0
      try clear hfz123_1
      try clear hfz123_2
      try clear hfz123_3
      try clear hfz123_4
      try clear hfz125_0
      try clear hfz125_1
      try clear hfz125_10
      try clear hfz125_11
      try clear hfz125_12
      try clear hfz125_13
      try clear hfz125_2
      try clear hfz125_3
      try clear hfz125_4
      try clear hfz125_5
      try clear hfz125_6
      try clear hfz125_7
      try clear hfz125_8
      try clear hfz125_9
      obtain ⟨kq, x17_101, rfl, HA, HJ101, HO_15, HO_445000, HO_464000, HO_484000, BK418, BK425, BK444, BK463, BK483, HB⟩ := hcut
      cases kq with
      | zero => exact absurd HA.out (by simp [headgatelaw11_ResvTwice.j2])
      | succ kj101 =>
       have H := HA.out
       clear HA
       simp only [headgatelaw11_ResvTwice.j2] at H
       refine neg_first (p := (t482 = 1)) (fun c127 => ?_) (fun c127 => ?_)
       ·rw [if_neg c127] at H
        have c127b0 : (t482 == 1) = false := beq_eq_false_iff_ne.mpr c127
        have c127b1 : (t482 != 1) = true := bne_iff_ne.mpr c127
        exact absurd ((Option.some.inj H).trans HT0.out) (by decide)

       rw [if_pos c127] at H
       have c127b0 : (t482 == 1) = true := beq_iff_eq.mpr c127
       have c127b1 : (t482 != 1) = false := bne_eq_false_iff_eq.mpr c127
       clear c127
       replace H := Option.bind_eq_some_iff.mp H
       obtain ⟨t484, A1280, H⟩ := H
       try dsimp only at H
       have A128 := Aside0.mk A1280
       clear A1280
       refine neg_first (p := (t484 = true)) (fun c129 => ?_) (fun c129 => ?_)
       ·replace c129 := Bool.eq_false_iff.mpr c129
        subst c129
        have H1 := H
        rw [if_neg (show ¬ (false = true) by decide)] at H1
        clear H
        have H := H1
        clear H1
        exact absurd ((Option.some.inj H).trans HT0.out) (by decide)
       subst c129
       have H1 := H
       rw [if_pos rfl] at H1
       clear H
       have H := H1
       clear H1
       refine neg_first (p := ((t479.length : Int) = x17_101)) (fun c130 => ?_) (fun c130 => ?_)
       ·rw [if_neg c130] at H
        have c130b0 : ((t479.length : Int) == x17_101) = false := beq_eq_false_iff_ne.mpr c130
        have c130b1 : ((t479.length : Int) != x17_101) = true := bne_iff_ne.mpr c130
        exact absurd ((Option.some.inj H).trans HT0.out) (by decide)
       rw [if_pos c130] at H
       have c130b0 : ((t479.length : Int) == x17_101) = true := beq_iff_eq.mpr c130
       have c130b1 : ((t479.length : Int) != x17_101) = false := bne_eq_false_iff_eq.mpr c130
       clear c130
       replace H := Option.bind_eq_some_iff.mp H
       obtain ⟨t485, A1310, H⟩ := H
       try dsimp only at H
       have A131 := Aside0.mk A1310
       clear A1310
       obtain rfl := Option.some.inj H
       have hnb132 := NB483_418.out
       have hnc132 := NB418_483.out
       have hnb133 := NB483_425.out
       have hnc133 := NB425_483.out
       have hnb134 := NB483_444.out
       have hnc134 := NB444_483.out
       have hnb135 := NB483_463.out
       have hnc135 := NB463_483.out
       have hcz136_0 : wc.cell? ⟨gb483, 0, none⟩ = some (.slice Ao114 t472.length co114) := (blk_cell BK483.out 0).trans rfl
       have hcz136_1 : wc.cell? ⟨gb483, 1, none⟩ = some (.int .i64 t475) := (blk_cell BK483.out 1).trans rfl
       have hcz136_2 : wc.cell? ⟨gb483, 2, none⟩ = some (.string t476) := (blk_cell BK483.out 2).trans rfl
       have hcz136_3 : wc.cell? ⟨gb483, 3, none⟩ = some (.int .u32 t477) := (blk_cell BK483.out 3).trans rfl
       have hcz136_4 : wc.cell? ⟨gb483, 4, none⟩ = some (.bool t478) := (blk_cell BK483.out 4).trans rfl
       have hfz136_0 := blk_frozen BK483.out 0
       have hfz136_1 := blk_frozen BK483.out 1
       have hfz136_2 := blk_frozen BK483.out 2
       have hfz136_3 := blk_frozen BK483.out 3
       have hfz136_4 := blk_frozen BK483.out 4
       have hnb137 := NB418_425.out
       have hnc137 := NB425_418.out
       have hnb138 := NB418_444.out
       have hnc138 := NB444_418.out
       have hnb139 := NB418_463.out
       have hnc139 := NB463_418.out
       have hcz140_0 : wc.cell? ⟨gb418, 0, none⟩ = some (.slice A0_0 l0_0.length c0_0) := (blk_cell BK418.out 0).trans rfl
       have hcz140_1 : wc.cell? ⟨gb418, 1, none⟩ = some (.int .i64 a0_1) := (blk_cell BK418.out 1).trans rfl
       have hcz140_2 : wc.cell? ⟨gb418, 2, none⟩ = some (.string a0_2) := (blk_cell BK418.out 2).trans rfl
       have hcz140_3 : wc.cell? ⟨gb418, 3, none⟩ = some (.int .u32 a0_3) := (blk_cell BK418.out 3).trans rfl
       have hcz140_4 : wc.cell? ⟨gb418, 4, none⟩ = some (.bool a0_4) := (blk_cell BK418.out 4).trans rfl
       have hfz140_0 := blk_frozen BK418.out 0
       have hfz140_1 := blk_frozen BK418.out 1
       have hfz140_2 := blk_frozen BK418.out 2
       have hfz140_3 := blk_frozen BK418.out 3
       have hfz140_4 := blk_frozen BK418.out 4
       go_wp2_with (first | (go_at_call 17; (with_reducible refine (headgatekeep_Tables.calls kj101 _ _ t472 t475 t476 t477 t478 _ _ l0_0 a0_1 a0_2 a0_3 a0_4 true _ ?side1 ?side2 ?side3 ?side4 A128.out).mono ?_); (case side1 => repeat (first | exact (Kd.V_reads' HO_484000.out).2.2 | (with_reducible refine Kd.C_alloc ?_ _) | (with_reducible refine Kd.C_drewN ?_ _) | (with_reducible refine Kd.C_drew ?_))); (case side2 => exact (Kd.V_reads' HO_484000.out).2.1); (case side3 => repeat (first | exact (Kd.C_below HR0_0.out HB.out) | (with_reducible refine Kd.C_alloc ?_ _) | (with_reducible refine Kd.C_drewN ?_ _) | (with_reducible refine Kd.C_drew ?_))); (case side4 => exact HC0_0.out); rintro e w141 ⟨rfl, hb⟩; have n0_ := Aside0.mk (Kd.R_below (by (with_reducible repeat (first | apply Kd.R_alloc | apply Kd.R_drewN | apply Kd.R_drew)); exact HO_15.out) hb); have n1_ := Aside0.mk (Kd.V_below (by (with_reducible repeat (first | apply Kd.V_alloc | apply Kd.V_drewN | apply Kd.V_drew)); exact HO_445000.out) hb); have n2_ := Aside0.mk (Kd.V_below (by (with_reducible repeat (first | apply Kd.V_alloc | apply Kd.V_drewN | apply Kd.V_drew)); exact HO_464000.out) hb); have n3_ := Aside0.mk (Kd.V_below (by (with_reducible repeat (first | apply Kd.V_alloc | apply Kd.V_drewN | apply Kd.V_drew)); exact HO_484000.out) hb); have n4_ := Aside0.mk (blk_below (bk_ BK418) hb); have n5_ := Aside0.mk (blk_below (bk_ BK425) hb); have n6_ := Aside0.mk (blk_below (bk_ BK444) hb); have n7_ := Aside0.mk (blk_below (bk_ BK463) hb); have n8_ := Aside0.mk (blk_below (bk_ BK483) hb); have n9_ := Aside0.mk (below_step (hb_ HB) hb); clear HO_15; clear HO_445000; clear HO_464000; clear HO_484000; clear BK418; clear BK425; clear BK444; clear BK463; clear BK483; clear HB; have HO_15 := n0_; have HO_445000 := n1_; have HO_464000 := n2_; have HO_484000 := n3_; have BK418 := n4_; have BK425 := n5_; have BK444 := n6_; have BK463 := n7_; have BK483 := n8_; have HB := n9_; clear n0_ n1_ n2_ n3_ n4_ n5_ n6_ n7_ n8_ n9_; (try clear hb); (try clear hb2); (try clear hk); (try clear hi); obtain ⟨Ao142, co142, eo142⟩ := Kd.R_slice HO_15.out; subst eo142) | (go_at_call 13; (with_reducible refine (headgatelaw11_wakes.calls kj101  t485 _ ?side1 A131.out).mono ?_); (case side1 => first | ((refine Glob.keep HG.out ?_); (repeat (first | (with_reducible first | exact HB.out | apply below_alloc | apply pw_below_drewN | apply below_drew1 | refine below_set ?_ GE418.out | refine below_set ?_ GE425.out | refine below_set ?_ GE444.out | refine below_set ?_ GE463.out | refine below_set ?_ GE483.out) | exact HB.out)); done) | exact HG.out); rintro e w143 ⟨rfl, hb⟩; have n0_ := Aside0.mk (Kd.R_below (by (with_reducible repeat (first | apply Kd.R_alloc | apply Kd.R_drewN | apply Kd.R_drew)); exact HO_15.out) hb); have n1_ := Aside0.mk (Kd.V_below (by (with_reducible repeat (first | apply Kd.V_alloc | apply Kd.V_drewN | apply Kd.V_drew)); exact HO_445000.out) hb); have n2_ := Aside0.mk (Kd.V_below (by (with_reducible repeat (first | apply Kd.V_alloc | apply Kd.V_drewN | apply Kd.V_drew)); exact HO_464000.out) hb); have n3_ := Aside0.mk (Kd.V_below (by (with_reducible repeat (first | apply Kd.V_alloc | apply Kd.V_drewN | apply Kd.V_drew)); exact HO_484000.out) hb); have n4_ := Aside0.mk (blk_below (bk_ BK418) hb); have n5_ := Aside0.mk (blk_below (bk_ BK425) hb); have n6_ := Aside0.mk (blk_below (bk_ BK444) hb); have n7_ := Aside0.mk (blk_below (bk_ BK463) hb); have n8_ := Aside0.mk (blk_below (bk_ BK483) hb); have n9_ := Aside0.mk (below_step (hb_ HB) hb); clear HO_15; clear HO_445000; clear HO_464000; clear HO_484000; clear BK418; clear BK425; clear BK444; clear BK463; clear BK483; clear HB; have HO_15 := n0_; have HO_445000 := n1_; have HO_464000 := n2_; have HO_484000 := n3_; have BK418 := n4_; have BK425 := n5_; have BK444 := n6_; have BK463 := n7_; have BK483 := n8_; have HB := n9_; clear n0_ n1_ n2_ n3_ n4_ n5_ n6_ n7_ n8_ n9_; (try clear hb); (try clear hb2); (try clear hk); (try clear hi)))
       go_ret
       exact ⟨by first | rfl | (simp [errW_none, errW_some] <;> rfl) | (simp [*, errW_none, errW_some] <;> rfl) | (simp [bt, *]; done) | (unfold bt; simp [*]; done), by repeat (first | (with_reducible first | exact HB.out | apply below_alloc | apply pw_below_drewN | apply below_drew1 | refine below_set ?_ GE418.out | refine below_set ?_ GE425.out | refine below_set ?_ GE444.out | refine below_set ?_ GE463.out | refine below_set ?_ GE483.out) | exact HB.out)⟩
end Go.Proofs.YtjogkfcjlljjcaaDoor.P
