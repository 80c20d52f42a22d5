-- written by this session's patched copy of the printer (wip/tools/patch_print.py); Lean checks it
import Derived.Test.YtmpicpenbhdbhaaDoorPx0
import Derived.Test.YtmpicpenbhdbhaaDoorPx8
import Derived.Test.YtmpicpenbhdbhaaDoorPx9
namespace Go.Proofs.YtmpicpenbhdbhaaDoor.P
open Go.RowKit Go.Proofs.YtmpicpenbhdbhaaDoorW.PrintWords Go.Proofs.YtmpicpenbhdbhaaDoorW.PrintLast Go.Proofs.YtmpicpenbhdbhaaDoorW.PrintMore
attribute [local go_sem] max2_int min2_int max_two min_two max_three min_three max_four min_four   -- for this text's walks alone
set_option linter.unusedVariables false
set_option linter.unusedSimpArgs false
set_option linter.unnecessarySimpa false

/-! ### headgateref12_Decode: function 15 -/
mutual
def headgateref12_Decode.l0 : Nat → ByteArray → Int → Int → List (S48) → Int → ByteArray → Int → Bool → Option ((List (S48)) × Int × ByteArray × Int × Bool × Int)
 | 0, _, _, _, _, _, _, _, _ => none
 | k + 1, x0, x7, x8, x231000, x231001, x231002, x231003, x231004 => if 11 < (x0.size : Int) then (if x8 < (wrap64 (bt x0 11)) then (headgateref12_Decode.j1 k x0 x7 x8 (decide (x8 < 17)) x231000 x231001 x231002 x231003 x231004) else (headgateref12_Decode.j1 k x0 x7 x8 false x231000 x231001 x231002 x231003 x231004)) else (none)
def headgateref12_Decode.j1 : Nat → ByteArray → Int → Int → Bool → List (S48) → Int → ByteArray → Int → Bool → Option ((List (S48)) × Int × ByteArray × Int × Bool × Int)
 | 0, _, _, _, _, _, _, _, _, _ => none
 | k + 1, x0, x7, x8, x42, x231000, x231001, x231002, x231003, x231004 => if x42 = true then ((headgateref01_Big.f k x0 x7 8).bind fun bt231 => (if bt231.2 = true then (if (wrap64 (x7 + 9)) > (x0.size : Int) then (some (([] : List (S48)), 0, (⟨#[]⟩ : ByteArray), 0, false, 61)) else (if 0 ≤ (wrap64 (x7 + 8)) then (if (wrap64 (x7 + 8)) < (x0.size : Int) then (if (wrap64 (bt x0 (wrap64 (x7 + 8)))) > (wrap64 ((wrap64 ((x0.size : Int) - x7)) - 9)) then (some (([] : List (S48)), 0, (⟨#[]⟩ : ByteArray), 0, false, 61)) else (if 0 ≤ (wrap64 (x7 + 9)) then (if (wrap64 (x7 + 9)) ≤ (wrap64 ((wrap64 (x7 + 9)) + (wrap64 (bt x0 (wrap64 (x7 + 8)))))) then (if (wrap64 ((wrap64 (x7 + 9)) + (wrap64 (bt x0 (wrap64 (x7 + 8)))))) ≤ (x0.size : Int) then (if x231000.length < 5864062014805 then (headgateref12_Decode.l0 k x0 (wrap64 (x7 + (wrap64 (9 + (wrap64 (bt x0 (wrap64 (x7 + 8)))))))) (wrap64 (x8 + 1)) (x231000 ++ [(⟨x0.extract ((wrap64 (x7 + 9)) : Int).toNat ((wrap64 ((wrap64 (x7 + 9)) + (wrap64 (bt x0 (wrap64 (x7 + 8)))))) : Int).toNat, bt231.1⟩ : S48)]) x231001 x231002 x231003 x231004) else (none)) else (none)) else (none)) else (none))) else (none)) else (none))) else (some (([] : List (S48)), 0, (⟨#[]⟩ : ByteArray), 0, false, 61)))) else (if 9 < (x0.size : Int) then (if (wrap64 (bt x0 9)) > 0 then (if (wrap64 (bt x0 9)) > (x231000.length : Int) then (some (([] : List (S48)), 0, (⟨#[]⟩ : ByteArray), 0, false, 61)) else (if 0 ≤ (wrap64 ((wrap64 (bt x0 9)) - 1)) then (if (wrap64 ((wrap64 (bt x0 9)) - 1)) < (x231000.length : Int) then ((headgateref12_Encode.f k x231000 x231001 ((rd_T48 x231000 (wrap64 ((wrap64 (bt x0 9)) - 1))).f0) x231003 x231004).bind fun bt237 => (if bt237.2 = 0 then (if bt237.1.toList = x0.toList then (some (x231000, x231001, (rd_T48 x231000 (wrap64 ((wrap64 (bt x0 9)) - 1))).f0, x231003, x231004, 0)) else (some (([] : List (S48)), 0, (⟨#[]⟩ : ByteArray), 0, false, 61))) else (some (([] : List (S48)), 0, (⟨#[]⟩ : ByteArray), 0, false, 61)))) else (none)) else (none))) else ((headgateref12_Encode.f k x231000 x231001 x231002 x231003 x231004).bind fun bt239 => (if bt239.2 = 0 then (if bt239.1.toList = x0.toList then (some (x231000, x231001, x231002, x231003, x231004, 0)) else (some (([] : List (S48)), 0, (⟨#[]⟩ : ByteArray), 0, false, 61))) else (some (([] : List (S48)), 0, (⟨#[]⟩ : ByteArray), 0, false, 61))))) else (none))
end
def headgateref12_Decode.f (k : Nat) (a0 : ByteArray) : Option ((List (S48)) × Int × ByteArray × Int × Bool × Int) := if (a0.size : Int) < 16 then (some (([] : List (S48)), 0, (⟨#[]⟩ : ByteArray), 0, false, 61)) else ((headgateref01_Big.f k a0 4 4).bind fun bt228 => (if 8 < (a0.size : Int) then (if 10 < (a0.size : Int) then (headgateref12_Decode.l0 k a0 12 0 ([] : List (S48)) (wrap64 (bt a0 8)) (⟨#[]⟩ : ByteArray) ((bt228.1) % 4294967296) ((bt a0 10) == 1)) else (none)) else (none)))
theorem headgateref12_Decode.mono_l : ∀ k, (∀ y0 y1 y2 y3 y4 y5 y6 y7, LeO (headgateref12_Decode.l0 k y0 y1 y2 y3 y4 y5 y6 y7) (headgateref12_Decode.l0 (k + 1) y0 y1 y2 y3 y4 y5 y6 y7)) ∧ (∀ y0 y1 y2 y3 y4 y5 y6 y7 y8, LeO (headgateref12_Decode.j1 k y0 y1 y2 y3 y4 y5 y6 y7 y8) (headgateref12_Decode.j1 (k + 1) y0 y1 y2 y3 y4 y5 y6 y7 y8))
 | 0 => ⟨fun _ _ _ _ _ _ _ _ r h => by simp [headgateref12_Decode.l0] at h, fun _ _ _ _ _ _ _ _ _ r h => by simp [headgateref12_Decode.j1] at h⟩
 | k + 1 => by
  obtain ⟨ih0, ih1⟩ := headgateref12_Decode.mono_l k
  refine ⟨?_, ?_⟩
  ·intro y0 y1 y2 y3 y4 y5 y6 y7
   unfold headgateref12_Decode.l0
   repeat' first
   | (with_reducible exact ih0 _ _ _ _ _ _ _ _)
   | (with_reducible exact ih1 _ _ _ _ _ _ _ _ _)
   | (with_reducible exact headgateref01_Big.mono _ _ _ _)
   | (with_reducible exact headgateref12_Encode.mono _ _ _ _ _ _)
   | (with_reducible exact LeO.refl _)
   | (with_reducible exact LeO.none _)
   | (with_reducible refine LeO.ite ?_ ?_)
   | (with_reducible refine LeO.bind ?_ (fun _ => ?_))
   | exact ih0 _ _ _ _ _ _ _ _
   | exact ih1 _ _ _ _ _ _ _ _ _
   | exact headgateref01_Big.mono _ _ _ _
   | exact headgateref12_Encode.mono _ _ _ _ _ _
   | exact LeO.none _
   | refine LeO.ite ?_ ?_
   | refine LeO.bind ?_ (fun _ => ?_)
  ·intro y0 y1 y2 y3 y4 y5 y6 y7 y8
   unfold headgateref12_Decode.j1
   repeat' first
   | (with_reducible exact ih0 _ _ _ _ _ _ _ _)
   | (with_reducible exact ih1 _ _ _ _ _ _ _ _ _)
   | (with_reducible exact headgateref01_Big.mono _ _ _ _)
   | (with_reducible exact headgateref12_Encode.mono _ _ _ _ _ _)
   | (with_reducible exact LeO.refl _)
   | (with_reducible exact LeO.none _)
   | (with_reducible refine LeO.ite ?_ ?_)
   | (with_reducible refine LeO.bind ?_ (fun _ => ?_))
   | exact ih0 _ _ _ _ _ _ _ _
   | exact ih1 _ _ _ _ _ _ _ _ _
   | exact headgateref01_Big.mono _ _ _ _
   | exact headgateref12_Encode.mono _ _ _ _ _ _
   | exact LeO.none _
   | refine LeO.ite ?_ ?_
   | refine LeO.bind ?_ (fun _ => ?_)
theorem headgateref12_Decode.mono : ∀ a0 k, LeO (headgateref12_Decode.f k a0) (headgateref12_Decode.f (k + 1) a0) := by
 intro a0 k
 obtain ⟨ih0, ih1⟩ := headgateref12_Decode.mono_l k
 unfold headgateref12_Decode.f
 repeat' first
   | (with_reducible exact ih0 _ _ _ _ _ _ _ _)
   | (with_reducible exact ih1 _ _ _ _ _ _ _ _ _)
   | (with_reducible exact headgateref01_Big.mono _ _ _ _)
   | (with_reducible exact headgateref12_Encode.mono _ _ _ _ _ _)
   | (with_reducible exact LeO.refl _)
   | (with_reducible exact LeO.none _)
   | (with_reducible refine LeO.ite ?_ ?_)
   | (with_reducible refine LeO.bind ?_ (fun _ => ?_))
   | exact ih0 _ _ _ _ _ _ _ _
   | exact ih1 _ _ _ _ _ _ _ _ _
   | exact headgateref01_Big.mono _ _ _ _
   | exact headgateref12_Encode.mono _ _ _ _ _ _
   | exact LeO.none _
   | refine LeO.ite ?_ ?_
   | refine LeO.bind ?_ (fun _ => ?_)
def headgateref12_Decode.T4 : Bool × List (List Nat × List Nat) := (true, [([], []), ([0], [0]), ([], []), ([2], [2]), ([3], [3]), ([4], [4]), ([], []), ([6], [6]), ([7], [7]), ([1, 5, 8], [1, 5, 8]), ([], []), ([10, 9, 0, 1, 2, 3, 4, 5, 6, 7, 8, 9, 10], [9, 10])])
def headgateref12_Decode.B4 : List Nat := [0, 1, 0, 4, 12, 28, 0, 64, 192, 511, 0, 2047]
theorem headgateref12_Decode.tab4 : rtab .any (opsOf Tryd.f15 4) = headgateref12_Decode.T4 := by kernel_rfl
theorem headgateref12_Decode.bits4 : waitsOk headgateref12_Decode.T4.2 headgateref12_Decode.B4 = true := by kernel_rfl
def headgateref12_Decode.T13 : Bool × List (List Nat × List Nat) := (true, [([], []), ([0], [0]), ([], []), ([], []), ([3], [3]), ([], []), ([5], [5]), ([], []), ([6, 7], [6, 7]), ([2, 4, 8], [2, 4, 8]), ([], []), ([9, 10], [9, 10]), ([11], [11]), ([1, 12], [1, 12]), ([0, 1, 2, 3, 4, 5, 6, 7, 8, 9, 10, 11, 12, 13], []), ([14, 13, 13, 0, 1, 2, 3, 4, 5, 6, 7, 8, 9, 10, 11, 12, 13], [13, 14])])
def headgateref12_Decode.B13 : List Nat := [0, 1, 0, 0, 8, 0, 32, 0, 224, 508, 0, 2044, 4092, 8191, 16383, 32767]
theorem headgateref12_Decode.tab13 : rtab .any (opsOf Tryd.f15 13) = headgateref12_Decode.T13 := by kernel_rfl
theorem headgateref12_Decode.bits13 : waitsOk headgateref12_Decode.T13.2 headgateref12_Decode.B13 = true := by kernel_rfl
abbrev d15x0 : Array Bool := #[false, false, false, false, false, false, false, false, false, false, false, false, false, false, false, false]
abbrev d15x1 : Array Bool := #[false, false, false, false, false, false, false, false, false, false, false, false]
abbrev d15x2 : Array Bool := dB 16 1
abbrev d15x3 : Array Bool := dB 12 1
abbrev d15x4 : Array Bool := dB 16 5
abbrev d15x5 : Array Bool := dB 16 13
abbrev d15x6 : Array Bool := dB 16 29
abbrev d15x7 : Array Bool := dB 16 61
abbrev d15x8 : Array Bool := dB 16 125
abbrev d15x9 : Array Bool := dB 16 253
abbrev d15x10 : Array Bool := dB 16 509
abbrev d15x11 : Array Bool := dB 16 1021
abbrev d15x12 : Array Bool := dB 16 2045
abbrev d15x13 : Array Bool := dB 16 4093
abbrev d15x14 : Array Bool := dB 12 3
abbrev d15x15 : Array Bool := dB 12 7
abbrev d15x16 : Array Bool := dB 12 71
abbrev d15x17 : Array Bool := dB 12 79
abbrev d15x18 : Array Bool := dB 12 95
abbrev d15x19 : Array Bool := dB 12 127
abbrev d15x20 : Array Bool := dB 12 255
abbrev d15x21 : Array Bool := dB 12 511
abbrev d15x22 : Array Bool := dB 12 1023
abbrev d15x23 : Array Bool := dB 12 2047
abbrev d15x24 : Array Bool := dB 16 4095
abbrev d15x25 : Array Bool := dB 16 8191
abbrev d15x26 : Array Bool := dB 16 16383
abbrev d15x27 : Array Bool := dB 16 32767
abbrev d15x28 : Array Bool := dB 16 65535
abbrev d15x29 : Array Bool := dB 12 4095
set_option maxHeartbeats 8000000 in
set_option maxRecDepth 100000 in
theorem headgateref12_Decode.calls (k : Nat) (a0 : ByteArray) (r1 : List (S48)) (r2 : Int) (r3 : ByteArray) (r4 : Int) (r5 : Bool) (r6 : Int) (w : World) (h : headgateref12_Decode.f k a0 = some (r1, r2, r3, r4, r5, r6)) :
  Calls Tryd.prog 15 #[.string a0] w fun e w' => ∃ v0_ : Value, e = .returned (.tuple #[.agg #[v0_, .int .i64 r2, .string r3, .int .u32 r4, .bool r5], .int .i64 r6]) ∧ Kd.R k48 48 w' w.heap.size (fun _ => True) v0_ r1 ∧ Below w.heap.size w w' := by
 have hu27 := Tryd.underlying27
 have hu24 := Tryd.underlying24
 have hu48 := Tryd.underlying48
 have HB := Aside0.mk (Below.refl w.heap.size w)
 have H : (if (a0.size : Int) < 16 then (some (([] : List (S48)), 0, (⟨#[]⟩ : ByteArray), 0, false, 61)) else ((headgateref01_Big.f k a0 4 4).bind fun bt228 => (if 8 < (a0.size : Int) then (if 10 < (a0.size : Int) then (headgateref12_Decode.l0 k a0 12 0 ([] : List (S48)) (wrap64 (bt a0 8)) (⟨#[]⟩ : ByteArray) ((bt228.1) % 4294967296) ((bt a0 10) == 1)) else (none)) else (none)))) = some (r1, r2, r3, r4, r5, r6) := h
 clear h
 by_cases c2 : (a0.size : Int) < 16
 ·rw [if_pos c2] at H
  have c2b0 : decide ((a0.size : Int) < 16) = true := decide_eq_true c2
  have c2b1 : decide (a0.size < 16) = true := decide_eq_true (by omega)
  clear c2
  simp only [Option.some.injEq, Prod.mk.injEq] at H
  obtain ⟨rfl, rfl, rfl, rfl, rfl, rfl⟩ := H
  go_enter Tryd.func15, Tryd.ntmps15
  go_wp2_with (first | ((with_reducible refine gate_dst (N := 2) rfl ?_); (try (refine gate_guard (by rfl) ?_; dsimp only)); refine box_event ?hg (N := 2) ?hd (cs := #[.slice none 0 0, .int .i64 0, .string (⟨#[]⟩ : ByteArray), .int .u32 0, .bool false]) (t := 27) ?hr ?_; (case hd => rfl); (case hg => rfl); (case hr => first | (go_simp; done) | (go_simp; rfl)); intro gb227 hg w3 hbox hb; have n0_ := Aside0.mk (below_step (hb_ HB) hb); have n1_ := Aside0.mk (hbox); have n2_ := Aside0.mk ((by rw [hg]; exact (below_size (hb_ HB)) : w.heap.size ≤ gb227)); have n3_ := Aside0.mk ((by rw [hg]; exact (below_size (hb_ HB)) : w.heap.size ≤ gb227)); clear HB; have HB := n0_; have BK227 := n1_; have GW227 := n2_; have GE227 := n3_; clear n0_ n1_ n2_ n3_; clear hb hbox hg; have hcz4_0 : w3.cell? ⟨gb227, 0, none⟩ = some (.slice none 0 0) := (blk_cell BK227.out 0).trans rfl; have hcz4_1 : w3.cell? ⟨gb227, 1, none⟩ = some (.int .i64 0) := (blk_cell BK227.out 1).trans rfl; have hcz4_2 : w3.cell? ⟨gb227, 2, none⟩ = some (.string (⟨#[]⟩ : ByteArray)) := (blk_cell BK227.out 2).trans rfl; have hcz4_3 : w3.cell? ⟨gb227, 3, none⟩ = some (.int .u32 0) := (blk_cell BK227.out 3).trans rfl; have hcz4_4 : w3.cell? ⟨gb227, 4, none⟩ = some (.bool false) := (blk_cell BK227.out 4).trans rfl; have hfz4_0 := blk_frozen BK227.out 0; have hfz4_1 := blk_frozen BK227.out 1; have hfz4_2 := blk_frozen BK227.out 2; have hfz4_3 := blk_frozen BK227.out 3; have hfz4_4 := blk_frozen BK227.out 4))
  refine bodyPost_ret (results_ct rfl _ _ gb227 27 #[.slice none 0 0, .int .i64 0, .string (⟨#[]⟩ : ByteArray), .int .u32 0, .bool false] (0, 0) _ rfl (by (with_reducible repeat (first | refine blk_drewN ?_ _ | refine blk_drew ?_ | refine blk_alloc ?_ _)); refine blk_put (cs := #[.slice none 0 0, .int .i64 0, .string (⟨#[]⟩ : ByteArray), .int .u32 0, .bool false]) ?_ 4 _ rfl; (with_reducible repeat (first | refine blk_drewN ?_ _ | refine blk_drew ?_ | refine blk_alloc ?_ _)); refine blk_put (cs := #[.slice none 0 0, .int .i64 0, .string (⟨#[]⟩ : ByteArray), .int .u32 0, .bool false]) ?_ 3 _ rfl; (with_reducible repeat (first | refine blk_drewN ?_ _ | refine blk_drew ?_ | refine blk_alloc ?_ _)); refine blk_put (cs := #[.slice none 0 0, .int .i64 0, .string (⟨#[]⟩ : ByteArray), .int .u32 0, .bool false]) ?_ 2 _ rfl; (with_reducible repeat (first | refine blk_drewN ?_ _ | refine blk_drew ?_ | refine blk_alloc ?_ _)); refine blk_put (cs := #[.slice none 0 0, .int .i64 0, .string (⟨#[]⟩ : ByteArray), .int .u32 0, .bool false]) ?_ 1 _ rfl; (with_reducible repeat (first | refine blk_drewN ?_ _ | refine blk_drew ?_ | refine blk_alloc ?_ _)); refine blk_put (cs := #[.slice none 0 0, .int .i64 0, .string (⟨#[]⟩ : ByteArray), .int .u32 0, .bool false]) ?_ 0 _ rfl; (with_reducible repeat (first | refine blk_drewN ?_ _ | refine blk_drew ?_ | refine blk_alloc ?_ _)); exact BK227.out) Tryd.underlying27 rfl (by kernel_rfl)) rfl ?_
  exact ⟨_, by first | rfl | (simp [errW_none, errW_some] <;> rfl) | (simp [*, errW_none, errW_some] <;> rfl) | (simp [bt, *]; done) | (unfold bt; simp [*]; done), by first | exact Kd.R_nil _ _ _ _ _ | exact Kd.N_nil _ _ _ _ _ | exact Kd.V_nil _ _ _ _ _ | exact Kd.Q_nil _ _ _ _ _ | exact Kd.S_nil _ _ _ _ _, by repeat (first | (with_reducible first | exact HB.out | apply below_alloc | apply pw_below_drewN | apply below_drew1 | refine below_set ?_ GE227.out) | exact HB.out)⟩
 rw [if_neg c2] at H
 have c2b0 : decide ((a0.size : Int) < 16) = false := decide_eq_false c2
 have c2b1 : decide (a0.size < 16) = false := decide_eq_false (by omega)
 clear c2
 replace H := Option.bind_eq_some_iff.mp H
 obtain ⟨⟨t228, t229⟩, A50, H⟩ := H
 try dsimp only at H
 have A5 := Aside0.mk A50
 clear A50
 refine neg_first (p := (8 < (a0.size : Int))) (fun c6 => ?_) (fun c6 => ?_)
 ·rw [if_neg c6] at H
  exact absurd H (by simp)

 rw [if_pos c6] at H
 have c6b0 : decide (8 < (a0.size : Int)) = true := decide_eq_true c6
 have c6b1 : decide (8 < a0.size) = true := decide_eq_true (by omega)
 clear c6
 refine neg_first (p := (10 < (a0.size : Int))) (fun c8 => ?_) (fun c8 => ?_)
 ·rw [if_neg c8] at H
  exact absurd H (by simp)
 rw [if_pos c8] at H
 have c8b0 : decide (10 < (a0.size : Int)) = true := decide_eq_true c8
 have c8b1 : decide (10 < a0.size) = true := decide_eq_true (by omega)
 clear c8
 have H' := Aside0.mk H
 clear H
 go_enter Tryd.func15, Tryd.ntmps15
 try go_wp2_with (first | ((with_reducible refine gate_dst (N := 2) rfl ?_); (try (refine gate_guard (by rfl) ?_; dsimp only)); refine box_event ?hg (N := 2) ?hd (cs := #[.slice none 0 0, .int .i64 0, .string (⟨#[]⟩ : ByteArray), .int .u32 0, .bool false]) (t := 27) ?hr ?_; (case hd => rfl); (case hg => rfl); (case hr => first | (go_simp; done) | (go_simp; rfl)); intro gb227 hg w10 hbox hb; have n0_ := Aside0.mk (below_step (hb_ HB) hb); have n1_ := Aside0.mk (hbox); have n2_ := Aside0.mk ((by rw [hg]; exact (below_size (hb_ HB)) : w.heap.size ≤ gb227)); have n3_ := Aside0.mk ((by rw [hg]; exact (below_size (hb_ HB)) : w.heap.size ≤ gb227)); clear HB; have HB := n0_; have BK227 := n1_; have GW227 := n2_; have GE227 := n3_; clear n0_ n1_ n2_ n3_; clear hb hbox hg) | ((with_reducible refine gate_callee (f := 28) rfl ?_); refine goesL_ (some 21) rfl rfl Tryd.func28 (by kernel_rfl) rfl #[.string a0, .int .i64 4, .int .i64 4] rfl (by (try simp only [List.map_toArray, List.map_cons, List.map_nil]); first | done | rfl | (simp only [List.length_drop, List.length_take]; rfl)) ?_; (with_reducible refine (headgateref01_Big.calls k a0 4 4 t228 t229 _ A5.out).mono ?_); rintro e w' ⟨rfl, ⟨nd, rfl⟩⟩; refine ⟨_, rfl, ?_⟩; (try (rw [drewN_self w10]; generalize hq_ : World.drewN w10 _ = w10; have n0_ : Aside0 (w10.heap[gb227]? = some (.cells #[.slice none 0 0, .int .i64 0, .string (⟨#[]⟩ : ByteArray), .int .u32 0, .bool false] 27 (0, 0))) := ⟨by rw [← hq_]; exact (bk_ BK227)⟩; have n1_ : Aside0 (Below w.heap.size w w10) := ⟨by rw [← hq_]; exact (hb_ HB)⟩; clear BK227 HB hq_; have BK227 := n0_; have HB := n1_; clear n0_ n1_))))
 have n0_ := Aside0.mk (blk_drew BK227.out)
 have n1_ := Aside0.mk (below_drew1 HB.out)
 clear BK227
 clear HB
 have BK227 := n0_
 have HB := n1_
 clear n0_ n1_
 have p7 : 0 ≤ (8 : Int) := (by omega)
 have q7 : 8 < a0.size := (by have : (8 : Int) < (a0.size : Int) := of_decide_eq_true (by first | (with_reducible assumption) | assumption); omega)
 have hx7 : ∀ h : 8 < a0.size, ((a0[8]'h).toNat : Int) = bt a0 8 := bt_at a0 8
 clear p7
 have qi7 : (8 < (a0.size : Int)) = True := eq_true (of_decide_eq_true (by first | (with_reducible assumption) | assumption))
 replace q7 := eq_true q7
 have p9 : 0 ≤ (10 : Int) := (by omega)
 have q9 : 10 < a0.size := (by have : (10 : Int) < (a0.size : Int) := of_decide_eq_true (by first | (with_reducible assumption) | assumption); omega)
 have hx9 : ∀ h : 10 < a0.size, ((a0[10]'h).toNat : Int) = bt a0 10 := bt_at a0 10
 clear p9
 have qi9 : (10 < (a0.size : Int)) = True := eq_true (of_decide_eq_true (by first | (with_reducible assumption) | assumption))
 replace q9 := eq_true q9
 refine start_ (n := 12) (S := fun w' => True) (ds := []) d15x1 (by kernel_rfl) rfl rfl trivial (fun hHeld => ?_); refine with_tabW headgateref12_Decode.tab4 headgateref12_Decode.bits4 (fun HT_ HW_ => ?_)
 generalize w10.drew = w11 at BK227 HB hHeld ⊢
 refine pon_ 0 (some 24) d15x3 HT_.out ?_
 refine pon_ 1 (some 25) d15x14 HT_.out ?_
 refine pon_ 2 (some 26) d15x15 HT_.out ?_
 refine pon_ 6 (some 30) d15x16 HT_.out ?_
 refine ptk_ 3 (some 27) d15x17 HT_.out HW_.out hHeld ?_
 refine pon_ 4 (some 28) d15x18 HT_.out ?_
 refine pon_ 5 (some 29) d15x19 HT_.out ?_
 refine ptk_ 7 (some 31) d15x20 HT_.out HW_.out hHeld ?_
 refine pon_ 8 (some 32) d15x21 HT_.out ?_
 refine pon_ 9 (some 33) d15x22 HT_.out ?_
 refine one_ (i := 10) (N := some 6) d15x23 rfl rfl (one_of HT_.out (by kernel_rfl)) (by decide) (fun K hK => ?_)
 refine box_step ?hg (N := 6) ?hd (cs := #[.slice none 0 0, .int .i64 0, .string (⟨#[]⟩ : ByteArray), .int .u32 0, .bool false]) (t := 27) ?hr ?_; (case hd => rfl); (case hg => rfl); (case hr => first | (go_simp; done) | (go_simp; rfl))
 intro gb230 hg w12 hbox hb
 have n0_ := Aside0.mk (blk_below (bk_ BK227) hb)
 have n1_ := Aside0.mk (below_step (hb_ HB) hb)
 have n2_ := Aside0.mk (hbox)
 have n3_ := Aside0.mk ((by rw [hg]; exact (below_size (hb_ HB)) : w.heap.size ≤ gb230))
 have n4_ := Aside0.mk ((by rw [hg]; exact (below_size (hb_ HB)) : w.heap.size ≤ gb230))
 have n5_ := Aside0.mk ((by rw [hg]; exact Nat.ne_of_lt (blk_lt (g := gb227) (o := .cells #[.slice none 0 0, .int .i64 0, .string (⟨#[]⟩ : ByteArray), .int .u32 0, .bool false] 27 (0, 0)) (bk_ BK227)) : gb227 ≠ gb230))
 have n6_ := Aside0.mk ((by rw [hg]; exact Nat.ne_of_gt (blk_lt (g := gb227) (o := .cells #[.slice none 0 0, .int .i64 0, .string (⟨#[]⟩ : ByteArray), .int .u32 0, .bool false] 27 (0, 0)) (bk_ BK227)) : gb230 ≠ gb227))
 clear BK227
 clear HB
 have BK227 := n0_
 have HB := n1_
 have BK230 := n2_
 have GW230 := n3_
 have GE230 := n4_
 have NB227_230 := n5_
 have NB230_227 := n6_
 clear n0_ n1_ n2_ n3_ n4_ n5_ n6_
 clear hb hbox hg
 refine hK.out _ _ trivial (fun hHeld => ?_)
 clear hK K
 refine norm_ (a' := ?_) ?_ ?_
 rotate_left
 ·show Act.put _ (some 6) _ = _
  simp only [Act.put, la_, lb_, lc_, i64_w, i32_w]
  rfl
 refine one_ (i := 11) (N := none) d15x29 rfl rfl (one_of HT_.out (by kernel_rfl)) (by decide) (fun K hK => ?_)
 have hs13 : w12.cell? ⟨gb230, 0, none⟩ = some (.slice none 0 0) := (blk_cell BK230.out 0).trans rfl
 have hfs13 := blk_frozen BK230.out 0
 have hns13_0 := NB227_230.out
 have hms13_0 := NB230_227.out
 have hs14 : w12.cell? ⟨gb230, 1, none⟩ = some (.int .i64 0) := (blk_cell BK230.out 1).trans rfl
 have hfs14 := blk_frozen BK230.out 1
 have hns14_0 := NB227_230.out
 have hms14_0 := NB230_227.out
 have hs15 : w12.cell? ⟨gb230, 2, none⟩ = some (.string (⟨#[]⟩ : ByteArray)) := (blk_cell BK230.out 2).trans rfl
 have hfs15 := blk_frozen BK230.out 2
 have hns15_0 := NB227_230.out
 have hms15_0 := NB230_227.out
 have hs16 : w12.cell? ⟨gb230, 3, none⟩ = some (.int .u32 0) := (blk_cell BK230.out 3).trans rfl
 have hfs16 := blk_frozen BK230.out 3
 have hns16_0 := NB227_230.out
 have hms16_0 := NB230_227.out
 have hs17 : w12.cell? ⟨gb230, 4, none⟩ = some (.bool false) := (blk_cell BK230.out 4).trans rfl
 have hfs17 := blk_frozen BK230.out 4
 have hns17_0 := NB227_230.out
 have hms17_0 := NB230_227.out
 refine skip_ (w1 := ?_) (by rfl) rfl ?_ ?_
 rotate_left
 ·go_simp
  rfl
 refine hK.out _ _ trivial (fun hHeld => ?_)
 clear hK K
 refine done_ (done_of HT_.out (by kernel_rfl)) ?_
 try go_wp2
 go_loopg [7, 8] k (fun kq v7 v8 w' => ∃ (x7_1 : Int) (x8_1 : Int) (x228001_1 : Int) (x228002_1 : ByteArray) (x228003_1 : Int) (x228004_1 : Bool) (x231000_1 : List (S48)) (u231000 : Value), v7 = .int .i64 x7_1 ∧ v8 = .int .i64 x8_1 ∧ Aside0 (headgateref12_Decode.l0 kq a0 x7_1 x8_1 x231000_1 (wrap64 (bt a0 8)) (⟨#[]⟩ : ByteArray) ((t228) % 4294967296) ((bt a0 10) == 1) = some (r1, r2, r3, r4, r5, r6)) ∧ Aside0 (kq ≤ k) ∧ Aside0 (Kd.R k48 48 w' w.heap.size (fun _ => True) u231000 x231000_1) ∧ Aside0 (w'.heap[gb227]? = some (.cells #[(.slice none 0 0), .int .i64 x228001_1, .string x228002_1, .int .u32 x228003_1, .bool x228004_1] 27 (0, 0))) ∧ Aside0 (w'.heap[gb230]? = some (.cells #[u231000, .int .i64 (wrap64 (bt a0 8)), .string (⟨#[]⟩ : ByteArray), .int .u32 ((t228) % 4294967296), .bool ((bt a0 10) == 1)] 27 (0, 0))) ∧ Aside0 (Below w.heap.size w w'))
 case atStart => exact ⟨(12), (0), (0), ((⟨#[]⟩ : ByteArray)), (0), (false), (([] : List (S48))), (.slice none 0 0), (by first | rfl | (simp; done) | (simp [*]; done)), (by first | rfl | (simp; done) | (simp [*]; done)), H', ⟨Nat.le_refl _⟩, ⟨by first | exact Kd.R_nil _ _ _ _ _ | exact Kd.N_nil _ _ _ _ _ | exact Kd.V_nil _ _ _ _ _ | exact Kd.Q_nil _ _ _ _ _ | exact Kd.S_nil _ _ _ _ _⟩, ⟨by (with_reducible repeat (first | refine blk_drewN ?_ _ | refine blk_drew ?_ | refine blk_alloc ?_ _ | refine blk_far ?_ NB227_230.out _)); exact BK227.out⟩, ⟨by (with_reducible repeat (first | refine blk_drewN ?_ _ | refine blk_drew ?_ | refine blk_alloc ?_ _)); refine blk_put (cs := #[.slice none 0 0, .int .i64 (wrap64 (bt a0 8)), .string (⟨#[]⟩ : ByteArray), .int .u32 ((t228) % 4294967296), .bool false]) ?_ 4 _ rfl; (with_reducible repeat (first | refine blk_drewN ?_ _ | refine blk_drew ?_ | refine blk_alloc ?_ _)); refine blk_put (cs := #[.slice none 0 0, .int .i64 (wrap64 (bt a0 8)), .string (⟨#[]⟩ : ByteArray), .int .u32 0, .bool false]) ?_ 3 _ rfl; (with_reducible repeat (first | refine blk_drewN ?_ _ | refine blk_drew ?_ | refine blk_alloc ?_ _)); refine blk_put (cs := #[.slice none 0 0, .int .i64 (wrap64 (bt a0 8)), .string (⟨#[]⟩ : ByteArray), .int .u32 0, .bool false]) ?_ 2 _ rfl; (with_reducible repeat (first | refine blk_drewN ?_ _ | refine blk_drew ?_ | refine blk_alloc ?_ _)); refine blk_put (cs := #[.slice none 0 0, .int .i64 0, .string (⟨#[]⟩ : ByteArray), .int .u32 0, .bool false]) ?_ 1 _ rfl; (with_reducible repeat (first | refine blk_drewN ?_ _ | refine blk_drew ?_ | refine blk_alloc ?_ _)); refine blk_put (cs := #[.slice none 0 0, .int .i64 0, .string (⟨#[]⟩ : ByteArray), .int .u32 0, .bool false]) ?_ 0 _ rfl; (with_reducible repeat (first | refine blk_drewN ?_ _ | refine blk_drew ?_ | refine blk_alloc ?_ _)); exact BK230.out⟩, ⟨hb_ HB⟩⟩
 case round =>
  clear H'
  try clear c1
  try clear c2
  try clear c2b0
  try clear c2b1
  try clear p2
  try clear c6
  try clear c6b0
  try clear c6b1
  try clear p6
  try clear p7
  try clear q7
  try clear hx7
  try clear qi7
  try clear c8
  try clear c8b0
  try clear c8b1
  try clear p9
  try clear q9
  try clear hx9
  try clear qi9
  try clear c15
  try clear hcz4_0
  try clear hcz4_1
  try clear hcz4_2
  try clear hcz4_3
  try clear hcz4_4
  try clear hfz4_0
  try clear hfz4_1
  try clear hfz4_2
  try clear hfz4_3
  try clear hfz4_4
  try clear p7
  try clear p9
  try clear q7
  try clear q9
  obtain ⟨x7_1, x8_1, x228001_1, x228002_1, x228003_1, x228004_1, x231000_1, u231000, rfl, rfl, HA, HK1, HO_231000, BK227, BK230, HB⟩ := hrel
  cases gk with
  | zero => exact absurd HA.out (by simp [headgateref12_Decode.l0])
  | succ k1 =>
   have H := HA.out
   clear HA
   simp only [headgateref12_Decode.l0] at H
   have HC18 := Aside0.mk H
   clear H
   go_upto_region 7 with (fail)
   go_cut [42] (fun v42 wc => ∃ (kq : Nat) (x42_17 : Bool), v42 = .bool x42_17 ∧ Aside0 (headgateref12_Decode.j1 kq a0 x7_1 x8_1 x42_17 x231000_1 (wrap64 (bt a0 8)) (⟨#[]⟩ : ByteArray) ((t228) % 4294967296) ((bt a0 10) == 1) = some (r1, r2, r3, r4, r5, r6)) ∧ Aside0 (kq ≤ k1) ∧ Aside0 (Kd.R k48 48 wc w.heap.size (fun _ => True) u231000 x231000_1) ∧ Aside0 (wc.heap[gb227]? = some (.cells #[(.slice none 0 0), .int .i64 x228001_1, .string x228002_1, .int .u32 x228003_1, .bool x228004_1] 27 (0, 0))) ∧ Aside0 (wc.heap[gb230]? = some (.cells #[u231000, .int .i64 (wrap64 (bt a0 8)), .string (⟨#[]⟩ : ByteArray), .int .u32 ((t228) % 4294967296), .bool ((bt a0 10) == 1)] 27 (0, 0))) ∧ Aside0 (Below w.heap.size w wc))
   case first =>
    have H := HC18.out
    clear HC18
    refine neg_first (p := (11 < (a0.size : Int))) (fun c19 => ?_) (fun c19 => ?_)
    ·rw [if_neg c19] at H
     exact absurd H (by simp)
    rw [if_pos c19] at H
    have c19b0 : decide (11 < (a0.size : Int)) = true := decide_eq_true c19
    have c19b1 : decide (11 < a0.size) = true := decide_eq_true (by omega)
    clear c19
    (first | rw [c19b0] | (simp only [i64_w, i32_w]; rw [c19b0]) | skip)
    refine neg_first (p := (x8_1 < (wrap64 (bt a0 11)))) (fun c21 => ?_) (fun c21 => ?_)
    ·rw [if_neg c21] at H
     have c21b0 : decide (x8_1 < (wrap64 (bt a0 11))) = false := decide_eq_false c21
     clear c21
     have H' := Aside0.mk H
     clear H
     have p20 : 0 ≤ (11 : Int) := (by omega)
     have q20 : 11 < a0.size := (by have : (11 : Int) < (a0.size : Int) := of_decide_eq_true (by first | (with_reducible assumption) | assumption); omega)
     have hx20 : ∀ h : 11 < a0.size, ((a0[11]'h).toNat : Int) = bt a0 11 := bt_at a0 11
     clear p20
     have qi20 : (11 < (a0.size : Int)) = True := eq_true (of_decide_eq_true (by first | (with_reducible assumption) | assumption))
     replace q20 := eq_true q20
     go_wp2
     go_meet
     case rel => exact ⟨_, (false), (by first | rfl | (simp; done) | (simp [*]; done)), H', ⟨by have := HK1.out; first | omega | exact Nat.le_refl _⟩, ⟨by (with_reducible repeat (first | apply Kd.R_alloc | apply Kd.R_drewN | apply Kd.R_drew)); exact HO_231000.out⟩, ⟨bk_ BK227⟩, ⟨bk_ BK230⟩, ⟨hb_ HB⟩⟩
    rw [if_pos c21] at H
    have c21b0 : decide (x8_1 < (wrap64 (bt a0 11))) = true := decide_eq_true c21
    clear c21
    have H' := Aside0.mk H
    clear H
    have p20 : 0 ≤ (11 : Int) := (by omega)
    have q20 : 11 < a0.size := (by have : (11 : Int) < (a0.size : Int) := of_decide_eq_true (by first | (with_reducible assumption) | assumption); omega)
    have hx20 : ∀ h : 11 < a0.size, ((a0[11]'h).toNat : Int) = bt a0 11 := bt_at a0 11
    clear p20
    have qi20 : (11 < (a0.size : Int)) = True := eq_true (of_decide_eq_true (by first | (with_reducible assumption) | assumption))
    replace q20 := eq_true q20
    go_wp2
    go_meet
    case rel => exact ⟨_, (decide (x8_1 < 17)), (by first | rfl | (simp; done) | (simp [*]; done)), H', ⟨by have := HK1.out; first | omega | exact Nat.le_refl _⟩, ⟨by (with_reducible repeat (first | apply Kd.R_alloc | apply Kd.R_drewN | apply Kd.R_drew)); exact HO_231000.out⟩, ⟨bk_ BK227⟩, ⟨bk_ BK230⟩, ⟨hb_ HB⟩⟩
   case rest =>
    clear HC18
    try clear c1
    try clear c2
    try clear c2b0
    try clear c2b1
    try clear p2
    try clear q2
    try clear hx2
    try clear qi2
    try clear c6
    try clear c6b0
    try clear c6b1
    try clear p6
    try clear p7
    try clear q7
    try clear hx7
    try clear qi7
    try clear c8
    try clear c8b0
    try clear c8b1
    try clear p9
    try clear q9
    try clear hx9
    try clear qi9
    try clear c15
    try clear c19
    try clear c19b0
    try clear c19b1
    try clear p20
    try clear q20
    try clear hx20
    try clear qi20
    try clear c21
    try clear c21b0
    try clear hcz4_0
    try clear hcz4_1
    try clear hcz4_2
    try clear hcz4_3
    try clear hcz4_4
    try clear hfz4_0
    try clear hfz4_1
    try clear hfz4_2
    try clear hfz4_3
    try clear hfz4_4
    try clear p2
    try clear p20
    try clear p6
    try clear p7
    try clear p9
    try clear q20
    try clear q7
    try clear q9
    obtain ⟨kq, x42_17, rfl, HA, HJ17, HO_231000, BK227, BK230, HB⟩ := hcut
    cases kq with
    | zero => exact absurd HA.out (by simp [headgateref12_Decode.j1])
    | succ kj17 =>
     have H := HA.out
     clear HA
     simp only [headgateref12_Decode.j1] at H
     by_cases c22 : x42_17 = true
     ·subst c22
      have H1 := H
      rw [if_pos rfl] at H1
      clear H
      have H := H1
      clear H1
      replace H := Option.bind_eq_some_iff.mp H
      obtain ⟨⟨t231, t232⟩, A230, H⟩ := H
      try dsimp only at H
      have A23 := Aside0.mk A230
      clear A230
      refine neg_first (p := (t232 = true)) (fun c24 => ?_) (fun c24 => ?_)
      ·replace c24 := Bool.eq_false_iff.mpr c24
       subst c24
       have H1 := H
       rw [if_neg (show ¬ (false = true) by decide)] at H1
       clear H
       have H := H1
       clear H1
       simp only [Option.some.injEq, Prod.mk.injEq] at H
       obtain ⟨rfl, rfl, rfl, rfl, rfl, rfl⟩ := H
       go_wp2_with (first | ((with_reducible refine gate_callee (f := 28) rfl ?_); refine goesL_ (some 48) rfl rfl Tryd.func28 (by kernel_rfl) rfl #[.string a0, .int .i64 x7_1, .int .i64 8] rfl (by (try simp only [List.map_toArray, List.map_cons, List.map_nil]); first | done | rfl | (simp only [List.length_drop, List.length_take]; rfl)) ?_; (with_reducible refine (headgateref01_Big.calls kj17 a0 x7_1 8 t231 false _ A23.out).mono ?_); rintro e w' ⟨rfl, ⟨nd, rfl⟩⟩; refine ⟨_, rfl, ?_⟩; (try (rw [drewN_self wc]; generalize hq_ : World.drewN wc _ = wc; have n0_ : Aside0 (Kd.R k48 48 wc w.heap.size (fun _ => True) u231000 x231000_1) := ⟨by rw [← hq_]; exact (by (with_reducible repeat (first | apply Kd.R_alloc | apply Kd.R_drewN | apply Kd.R_drew)); exact HO_231000.out)⟩; have n1_ : Aside0 (wc.heap[gb227]? = some (.cells #[.slice none 0 0, .int .i64 x228001_1, .string x228002_1, .int .u32 x228003_1, .bool x228004_1] 27 (0, 0))) := ⟨by rw [← hq_]; exact (bk_ BK227)⟩; have n2_ : Aside0 (wc.heap[gb230]? = some (.cells #[u231000, .int .i64 (wrap64 (bt a0 8)), .string (⟨#[]⟩ : ByteArray), .int .u32 ((t228) % 4294967296), .bool ((bt a0 10) == 1)] 27 (0, 0))) := ⟨by rw [← hq_]; exact (bk_ BK230)⟩; have n3_ : Aside0 (Below w.heap.size w wc) := ⟨by rw [← hq_]; exact (hb_ HB)⟩; clear HO_231000 BK227 BK230 HB hq_; have HO_231000 := n0_; have BK227 := n1_; have BK230 := n2_; have HB := n3_; clear n0_ n1_ n2_ n3_)); have hnb45 := NB227_230.out; have hnc45 := NB230_227.out; have hcz46_0 : wc.cell? ⟨gb227, 0, none⟩ = some (.slice none 0 0) := (blk_cell BK227.out 0).trans rfl; have hcz46_1 : wc.cell? ⟨gb227, 1, none⟩ = some (.int .i64 x228001_1) := (blk_cell BK227.out 1).trans rfl; have hcz46_2 : wc.cell? ⟨gb227, 2, none⟩ = some (.string x228002_1) := (blk_cell BK227.out 2).trans rfl; have hcz46_3 : wc.cell? ⟨gb227, 3, none⟩ = some (.int .u32 x228003_1) := (blk_cell BK227.out 3).trans rfl; have hcz46_4 : wc.cell? ⟨gb227, 4, none⟩ = some (.bool x228004_1) := (blk_cell BK227.out 4).trans rfl; have hfz46_0 := blk_frozen BK227.out 0; have hfz46_1 := blk_frozen BK227.out 1; have hfz46_2 := blk_frozen BK227.out 2; have hfz46_3 := blk_frozen BK227.out 3; have hfz46_4 := blk_frozen BK227.out 4))
       refine bodyPost_ret (results_ct rfl _ _ gb227 27 #[.slice none 0 0, .int .i64 0, .string (⟨#[]⟩ : ByteArray), .int .u32 0, .bool false] (0, 0) _ rfl (by (with_reducible repeat (first | refine blk_drewN ?_ _ | refine blk_drew ?_ | refine blk_alloc ?_ _)); refine blk_put (cs := #[.slice none 0 0, .int .i64 0, .string (⟨#[]⟩ : ByteArray), .int .u32 0, .bool x228004_1]) ?_ 4 _ rfl; (with_reducible repeat (first | refine blk_drewN ?_ _ | refine blk_drew ?_ | refine blk_alloc ?_ _)); refine blk_put (cs := #[.slice none 0 0, .int .i64 0, .string (⟨#[]⟩ : ByteArray), .int .u32 x228003_1, .bool x228004_1]) ?_ 3 _ rfl; (with_reducible repeat (first | refine blk_drewN ?_ _ | refine blk_drew ?_ | refine blk_alloc ?_ _)); refine blk_put (cs := #[.slice none 0 0, .int .i64 0, .string x228002_1, .int .u32 x228003_1, .bool x228004_1]) ?_ 2 _ rfl; (with_reducible repeat (first | refine blk_drewN ?_ _ | refine blk_drew ?_ | refine blk_alloc ?_ _)); refine blk_put (cs := #[.slice none 0 0, .int .i64 x228001_1, .string x228002_1, .int .u32 x228003_1, .bool x228004_1]) ?_ 1 _ rfl; (with_reducible repeat (first | refine blk_drewN ?_ _ | refine blk_drew ?_ | refine blk_alloc ?_ _)); refine blk_put (cs := #[.slice none 0 0, .int .i64 x228001_1, .string x228002_1, .int .u32 x228003_1, .bool x228004_1]) ?_ 0 _ rfl; (with_reducible repeat (first | refine blk_drewN ?_ _ | refine blk_drew ?_ | refine blk_alloc ?_ _)); exact BK227.out) Tryd.underlying27 rfl (by kernel_rfl)) rfl ?_
       exact ⟨_, by first | rfl | (simp [errW_none, errW_some] <;> rfl) | (simp [*, errW_none, errW_some] <;> rfl) | (simp [bt, *]; done) | (unfold bt; simp [*]; done), by first | exact Kd.R_nil _ _ _ _ _ | exact Kd.N_nil _ _ _ _ _ | exact Kd.V_nil _ _ _ _ _ | exact Kd.Q_nil _ _ _ _ _ | exact Kd.S_nil _ _ _ _ _, by repeat (first | (with_reducible first | exact HB.out | apply below_alloc | apply pw_below_drewN | apply below_drew1 | refine below_set ?_ GE227.out | refine below_set ?_ GE230.out) | exact HB.out)⟩
      subst c24
      have H1 := H
      rw [if_pos rfl] at H1
      clear H
      have H := H1
      clear H1
      by_cases c25 : (wrap64 (x7_1 + 9)) > (a0.size : Int)
      ·rw [if_pos c25] at H
       have c25b0 : decide ((a0.size : Int) < (wrap64 (x7_1 + 9))) = true := decide_eq_true c25
       clear c25
       simp only [Option.some.injEq, Prod.mk.injEq] at H
       obtain ⟨rfl, rfl, rfl, rfl, rfl, rfl⟩ := H
       go_wp2_with (first | ((with_reducible refine gate_callee (f := 28) rfl ?_); refine goesL_ (some 48) rfl rfl Tryd.func28 (by kernel_rfl) rfl #[.string a0, .int .i64 x7_1, .int .i64 8] rfl (by (try simp only [List.map_toArray, List.map_cons, List.map_nil]); first | done | rfl | (simp only [List.length_drop, List.length_take]; rfl)) ?_; (with_reducible refine (headgateref01_Big.calls kj17 a0 x7_1 8 t231 true _ A23.out).mono ?_); rintro e w' ⟨rfl, ⟨nd, rfl⟩⟩; refine ⟨_, rfl, ?_⟩; (try (rw [drewN_self wc]; generalize hq_ : World.drewN wc _ = wc; have n0_ : Aside0 (Kd.R k48 48 wc w.heap.size (fun _ => True) u231000 x231000_1) := ⟨by rw [← hq_]; exact (by (with_reducible repeat (first | apply Kd.R_alloc | apply Kd.R_drewN | apply Kd.R_drew)); exact HO_231000.out)⟩; have n1_ : Aside0 (wc.heap[gb227]? = some (.cells #[.slice none 0 0, .int .i64 x228001_1, .string x228002_1, .int .u32 x228003_1, .bool x228004_1] 27 (0, 0))) := ⟨by rw [← hq_]; exact (bk_ BK227)⟩; have n2_ : Aside0 (wc.heap[gb230]? = some (.cells #[u231000, .int .i64 (wrap64 (bt a0 8)), .string (⟨#[]⟩ : ByteArray), .int .u32 ((t228) % 4294967296), .bool ((bt a0 10) == 1)] 27 (0, 0))) := ⟨by rw [← hq_]; exact (bk_ BK230)⟩; have n3_ : Aside0 (Below w.heap.size w wc) := ⟨by rw [← hq_]; exact (hb_ HB)⟩; clear HO_231000 BK227 BK230 HB hq_; have HO_231000 := n0_; have BK227 := n1_; have BK230 := n2_; have HB := n3_; clear n0_ n1_ n2_ n3_)); have hnb26 := NB227_230.out; have hnc26 := NB230_227.out; have hcz27_0 : wc.cell? ⟨gb227, 0, none⟩ = some (.slice none 0 0) := (blk_cell BK227.out 0).trans rfl; have hcz27_1 : wc.cell? ⟨gb227, 1, none⟩ = some (.int .i64 x228001_1) := (blk_cell BK227.out 1).trans rfl; have hcz27_2 : wc.cell? ⟨gb227, 2, none⟩ = some (.string x228002_1) := (blk_cell BK227.out 2).trans rfl; have hcz27_3 : wc.cell? ⟨gb227, 3, none⟩ = some (.int .u32 x228003_1) := (blk_cell BK227.out 3).trans rfl; have hcz27_4 : wc.cell? ⟨gb227, 4, none⟩ = some (.bool x228004_1) := (blk_cell BK227.out 4).trans rfl; have hfz27_0 := blk_frozen BK227.out 0; have hfz27_1 := blk_frozen BK227.out 1; have hfz27_2 := blk_frozen BK227.out 2; have hfz27_3 := blk_frozen BK227.out 3; have hfz27_4 := blk_frozen BK227.out 4))
       refine bodyPost_ret (results_ct rfl _ _ gb227 27 #[.slice none 0 0, .int .i64 0, .string (⟨#[]⟩ : ByteArray), .int .u32 0, .bool false] (0, 0) _ rfl (by (with_reducible repeat (first | refine blk_drewN ?_ _ | refine blk_drew ?_ | refine blk_alloc ?_ _)); refine blk_put (cs := #[.slice none 0 0, .int .i64 0, .string (⟨#[]⟩ : ByteArray), .int .u32 0, .bool x228004_1]) ?_ 4 _ rfl; (with_reducible repeat (first | refine blk_drewN ?_ _ | refine blk_drew ?_ | refine blk_alloc ?_ _)); refine blk_put (cs := #[.slice none 0 0, .int .i64 0, .string (⟨#[]⟩ : ByteArray), .int .u32 x228003_1, .bool x228004_1]) ?_ 3 _ rfl; (with_reducible repeat (first | refine blk_drewN ?_ _ | refine blk_drew ?_ | refine blk_alloc ?_ _)); refine blk_put (cs := #[.slice none 0 0, .int .i64 0, .string x228002_1, .int .u32 x228003_1, .bool x228004_1]) ?_ 2 _ rfl; (with_reducible repeat (first | refine blk_drewN ?_ _ | refine blk_drew ?_ | refine blk_alloc ?_ _)); refine blk_put (cs := #[.slice none 0 0, .int .i64 x228001_1, .string x228002_1, .int .u32 x228003_1, .bool x228004_1]) ?_ 1 _ rfl; (with_reducible repeat (first | refine blk_drewN ?_ _ | refine blk_drew ?_ | refine blk_alloc ?_ _)); refine blk_put (cs := #[.slice none 0 0, .int .i64 x228001_1, .string x228002_1, .int .u32 x228003_1, .bool x228004_1]) ?_ 0 _ rfl; (with_reducible repeat (first | refine blk_drewN ?_ _ | refine blk_drew ?_ | refine blk_alloc ?_ _)); exact BK227.out) Tryd.underlying27 rfl (by kernel_rfl)) rfl ?_
       exact ⟨_, by first | rfl | (simp [errW_none, errW_some] <;> rfl) | (simp [*, errW_none, errW_some] <;> rfl) | (simp [bt, *]; done) | (unfold bt; simp [*]; done), by first | exact Kd.R_nil _ _ _ _ _ | exact Kd.N_nil _ _ _ _ _ | exact Kd.V_nil _ _ _ _ _ | exact Kd.Q_nil _ _ _ _ _ | exact Kd.S_nil _ _ _ _ _, by repeat (first | (with_reducible first | exact HB.out | apply below_alloc | apply pw_below_drewN | apply below_drew1 | refine below_set ?_ GE227.out | refine below_set ?_ GE230.out) | exact HB.out)⟩
      rw [if_neg c25] at H
      have c25b0 : decide ((a0.size : Int) < (wrap64 (x7_1 + 9))) = false := decide_eq_false c25
      clear c25
      obtain ⟨ji28, hji28⟩ : ∃ j_ : Int, (wrap64 (x7_1 + 8)) = j_ := ⟨_, rfl⟩
      replace H : (if 0 ≤ (ji28) then (if (ji28) < (a0.size : Int) then (if (wrap64 (bt a0 (ji28))) > (wrap64 ((wrap64 ((a0.size : Int) - x7_1)) - 9)) then (some (([] : List (S48)), 0, (⟨#[]⟩ : ByteArray), 0, false, 61)) else (if 0 ≤ (wrap64 (x7_1 + 9)) then (if (wrap64 (x7_1 + 9)) ≤ (wrap64 ((wrap64 (x7_1 + 9)) + (wrap64 (bt a0 (ji28))))) then (if (wrap64 ((wrap64 (x7_1 + 9)) + (wrap64 (bt a0 (ji28))))) ≤ (a0.size : Int) then (if x231000_1.length < 5864062014805 then (headgateref12_Decode.l0 kj17 a0 (wrap64 (x7_1 + (wrap64 (9 + (wrap64 (bt a0 (ji28))))))) (wrap64 (x8_1 + 1)) (x231000_1 ++ [(⟨a0.extract ((wrap64 (x7_1 + 9)) : Int).toNat ((wrap64 ((wrap64 (x7_1 + 9)) + (wrap64 (bt a0 (ji28))))) : Int).toNat, t231⟩ : S48)]) (wrap64 (bt a0 8)) (⟨#[]⟩ : ByteArray) ((t228) % 4294967296) ((bt a0 10) == 1)) else (none)) else (none)) else (none)) else (none))) else (none)) else (none)) = some (r1, r2, r3, r4, r5, r6) := by first | (rw [hji28] at H; exact H) | (simp only [hji28] at H ⊢; exact H)
      (try rw [hji28] at A23)
      have hji28w : (IntKind.i64.wrap (x7_1 + 8)) = ji28 := (i64_w _).trans hji28
      refine neg_first (p := (0 ≤ (ji28))) (fun c29 => ?_) (fun c29 => ?_)
      ·rw [if_neg c29] at H
       exact absurd H (by simp)
      rw [if_pos c29] at H
      have c29b0 : decide (0 ≤ (ji28)) = true := decide_eq_true c29
      clear c29
      refine neg_first (p := ((ji28) < (a0.size : Int))) (fun c30 => ?_) (fun c30 => ?_)
      ·rw [if_neg c30] at H
       exact absurd H (by simp)
      rw [if_pos c30] at H
      have c30b0 : decide ((ji28) < (a0.size : Int)) = true := decide_eq_true c30
      clear c30
      by_cases c32 : (wrap64 (bt a0 (ji28))) > (wrap64 ((wrap64 ((a0.size : Int) - x7_1)) - 9))
      ·rw [if_pos c32] at H
       have c32b0 : decide ((wrap64 ((wrap64 ((a0.size : Int) - x7_1)) - 9)) < (wrap64 (bt a0 (ji28)))) = true := decide_eq_true c32
       clear c32
       simp only [Option.some.injEq, Prod.mk.injEq] at H
       obtain ⟨rfl, rfl, rfl, rfl, rfl, rfl⟩ := H
       go_wp2_with (first | ((with_reducible refine gate_callee (f := 28) rfl ?_); refine goesL_ (some 48) rfl rfl Tryd.func28 (by kernel_rfl) rfl #[.string a0, .int .i64 x7_1, .int .i64 8] rfl (by (try simp only [List.map_toArray, List.map_cons, List.map_nil]); first | done | rfl | (simp only [List.length_drop, List.length_take]; rfl)) ?_; (with_reducible refine (headgateref01_Big.calls kj17 a0 x7_1 8 t231 true _ A23.out).mono ?_); rintro e w' ⟨rfl, ⟨nd, rfl⟩⟩; refine ⟨_, rfl, ?_⟩; (try (rw [drewN_self wc]; generalize hq_ : World.drewN wc _ = wc; have n0_ : Aside0 (Kd.R k48 48 wc w.heap.size (fun _ => True) u231000 x231000_1) := ⟨by rw [← hq_]; exact (by (with_reducible repeat (first | apply Kd.R_alloc | apply Kd.R_drewN | apply Kd.R_drew)); exact HO_231000.out)⟩; have n1_ : Aside0 (wc.heap[gb227]? = some (.cells #[.slice none 0 0, .int .i64 x228001_1, .string x228002_1, .int .u32 x228003_1, .bool x228004_1] 27 (0, 0))) := ⟨by rw [← hq_]; exact (bk_ BK227)⟩; have n2_ : Aside0 (wc.heap[gb230]? = some (.cells #[u231000, .int .i64 (wrap64 (bt a0 8)), .string (⟨#[]⟩ : ByteArray), .int .u32 ((t228) % 4294967296), .bool ((bt a0 10) == 1)] 27 (0, 0))) := ⟨by rw [← hq_]; exact (bk_ BK230)⟩; have n3_ : Aside0 (Below w.heap.size w wc) := ⟨by rw [← hq_]; exact (hb_ HB)⟩; clear HO_231000 BK227 BK230 HB hq_; have HO_231000 := n0_; have BK227 := n1_; have BK230 := n2_; have HB := n3_; clear n0_ n1_ n2_ n3_)); have p31 : 0 ≤ ((ji28) : Int) := of_decide_eq_true (by first | (with_reducible assumption) | assumption); have q31 : (ji28) < (a0.size : Int) := of_decide_eq_true (by first | (with_reducible assumption) | assumption); have hx31 := bt_at a0 (ji28); replace p31 := eq_true p31; replace q31 := eq_true q31; have hnb33 := NB227_230.out; have hnc33 := NB230_227.out; have hcz34_0 : wc.cell? ⟨gb227, 0, none⟩ = some (.slice none 0 0) := (blk_cell BK227.out 0).trans rfl; have hcz34_1 : wc.cell? ⟨gb227, 1, none⟩ = some (.int .i64 x228001_1) := (blk_cell BK227.out 1).trans rfl; have hcz34_2 : wc.cell? ⟨gb227, 2, none⟩ = some (.string x228002_1) := (blk_cell BK227.out 2).trans rfl; have hcz34_3 : wc.cell? ⟨gb227, 3, none⟩ = some (.int .u32 x228003_1) := (blk_cell BK227.out 3).trans rfl; have hcz34_4 : wc.cell? ⟨gb227, 4, none⟩ = some (.bool x228004_1) := (blk_cell BK227.out 4).trans rfl; have hfz34_0 := blk_frozen BK227.out 0; have hfz34_1 := blk_frozen BK227.out 1; have hfz34_2 := blk_frozen BK227.out 2; have hfz34_3 := blk_frozen BK227.out 3; have hfz34_4 := blk_frozen BK227.out 4))
       refine bodyPost_ret (results_ct rfl _ _ gb227 27 #[.slice none 0 0, .int .i64 0, .string (⟨#[]⟩ : ByteArray), .int .u32 0, .bool false] (0, 0) _ rfl (by (with_reducible repeat (first | refine blk_drewN ?_ _ | refine blk_drew ?_ | refine blk_alloc ?_ _)); refine blk_put (cs := #[.slice none 0 0, .int .i64 0, .string (⟨#[]⟩ : ByteArray), .int .u32 0, .bool x228004_1]) ?_ 4 _ rfl; (with_reducible repeat (first | refine blk_drewN ?_ _ | refine blk_drew ?_ | refine blk_alloc ?_ _)); refine blk_put (cs := #[.slice none 0 0, .int .i64 0, .string (⟨#[]⟩ : ByteArray), .int .u32 x228003_1, .bool x228004_1]) ?_ 3 _ rfl; (with_reducible repeat (first | refine blk_drewN ?_ _ | refine blk_drew ?_ | refine blk_alloc ?_ _)); refine blk_put (cs := #[.slice none 0 0, .int .i64 0, .string x228002_1, .int .u32 x228003_1, .bool x228004_1]) ?_ 2 _ rfl; (with_reducible repeat (first | refine blk_drewN ?_ _ | refine blk_drew ?_ | refine blk_alloc ?_ _)); refine blk_put (cs := #[.slice none 0 0, .int .i64 x228001_1, .string x228002_1, .int .u32 x228003_1, .bool x228004_1]) ?_ 1 _ rfl; (with_reducible repeat (first | refine blk_drewN ?_ _ | refine blk_drew ?_ | refine blk_alloc ?_ _)); refine blk_put (cs := #[.slice none 0 0, .int .i64 x228001_1, .string x228002_1, .int .u32 x228003_1, .bool x228004_1]) ?_ 0 _ rfl; (with_reducible repeat (first | refine blk_drewN ?_ _ | refine blk_drew ?_ | refine blk_alloc ?_ _)); exact BK227.out) Tryd.underlying27 rfl (by kernel_rfl)) rfl ?_
       exact ⟨_, by first | rfl | (simp [errW_none, errW_some] <;> rfl) | (simp only [← hji28]; first | rfl | (simp [errW_none, errW_some] <;> rfl)) | (simp [*, errW_none, errW_some] <;> rfl) | (simp [bt, *]; done) | (unfold bt; simp [*]; done), by first | exact Kd.R_nil _ _ _ _ _ | exact Kd.N_nil _ _ _ _ _ | exact Kd.V_nil _ _ _ _ _ | exact Kd.Q_nil _ _ _ _ _ | exact Kd.S_nil _ _ _ _ _, by repeat (first | (with_reducible first | exact HB.out | apply below_alloc | apply pw_below_drewN | apply below_drew1 | refine below_set ?_ GE227.out | refine below_set ?_ GE230.out) | exact HB.out)⟩
      rw [if_neg c32] at H
      have c32b0 : decide ((wrap64 ((wrap64 ((a0.size : Int) - x7_1)) - 9)) < (wrap64 (bt a0 (ji28)))) = false := decide_eq_false c32
      clear c32
      obtain ⟨ji36, hji36⟩ : ∃ j_ : Int, (wrap64 (x7_1 + 9)) = j_ := ⟨_, rfl⟩
      replace H : (if 0 ≤ (ji36) then (if (ji36) ≤ (wrap64 ((ji36) + (wrap64 (bt a0 (ji28))))) then (if (wrap64 ((ji36) + (wrap64 (bt a0 (ji28))))) ≤ (a0.size : Int) then (if x231000_1.length < 5864062014805 then (headgateref12_Decode.l0 kj17 a0 (wrap64 (x7_1 + (wrap64 (9 + (wrap64 (bt a0 (ji28))))))) (wrap64 (x8_1 + 1)) (x231000_1 ++ [(⟨a0.extract ((ji36) : Int).toNat ((wrap64 ((ji36) + (wrap64 (bt a0 (ji28))))) : Int).toNat, t231⟩ : S48)]) (wrap64 (bt a0 8)) (⟨#[]⟩ : ByteArray) ((t228) % 4294967296) ((bt a0 10) == 1)) else (none)) else (none)) else (none)) else (none)) = some (r1, r2, r3, r4, r5, r6) := by first | (rw [hji36] at H; exact H) | (simp only [hji36] at H ⊢; exact H)
      (try rw [hji36] at c25b0)
      (try rw [hji36] at A23)
      have hji36w : (IntKind.i64.wrap (x7_1 + 9)) = ji36 := (i64_w _).trans hji36
      refine neg_first (p := (0 ≤ (ji36))) (fun c37 => ?_) (fun c37 => ?_)
      ·rw [if_neg c37] at H
       exact absurd H (by simp)
      rw [if_pos c37] at H
      have c37b0 := eq_true c37
      have c37b1 : decide (0 ≤ (ji36)) = true := decide_eq_true c37
      clear c37
      refine neg_first (p := ((ji36) ≤ (wrap64 ((ji36) + (wrap64 (bt a0 (ji28))))))) (fun c38 => ?_) (fun c38 => ?_)
      ·rw [if_neg c38] at H
       exact absurd H (by simp)
      rw [if_pos c38] at H
      have c38b0 := eq_true c38
      have c38b1 : decide ((ji36) ≤ (wrap64 ((ji36) + (wrap64 (bt a0 (ji28)))))) = true := decide_eq_true c38
      refine neg_first (p := ((wrap64 ((ji36) + (wrap64 (bt a0 (ji28))))) ≤ (a0.size : Int))) (fun c39 => ?_) (fun c39 => ?_)
      ·rw [if_neg c39] at H
       exact absurd H (by simp)
      rw [if_pos c39] at H
      have c39b0 := eq_true c39
      have c39b1 : decide ((wrap64 ((ji36) + (wrap64 (bt a0 (ji28))))) ≤ (a0.size : Int)) = true := decide_eq_true c39
      refine neg_first (p := (x231000_1.length < 5864062014805)) (fun c40 => ?_) (fun c40 => ?_)
      ·rw [if_neg c40] at H
       exact absurd H (by simp)
      rw [if_pos c40] at H
      have LMc40 := Aside0.mk c40
      clear c40
      obtain ⟨y233, hy233⟩ : ∃ y_ : List (S48), y_ = (x231000_1 ++ [(⟨a0.extract ((ji36) : Int).toNat ((wrap64 ((ji36) + (wrap64 (bt a0 (ji28))))) : Int).toNat, t231⟩ : S48)]) := ⟨_, rfl⟩
      replace H : (headgateref12_Decode.l0 kj17 a0 (wrap64 (x7_1 + (wrap64 (9 + (wrap64 (bt a0 (ji28))))))) (wrap64 (x8_1 + 1)) y233 (wrap64 (bt a0 8)) (⟨#[]⟩ : ByteArray) ((t228) % 4294967296) ((bt a0 10) == 1)) = some (r1, r2, r3, r4, r5, r6) := by first | (rw [hy233]; with_reducible exact H) | (have H2_ := (Option.bind_some _ _).symm.trans H; rw [hy233]; with_reducible exact H2_) | (have H2_ := (Option.bind_some _ _).symm.trans H; with_reducible exact H2_) | with_reducible exact H | (rw [hy233]; exact H) | exact H
      have Ny233 := Aside0.mk hy233
      clear hy233
      have H' := Aside0.mk H
      clear H
      try go_wp2_with (first | ((with_reducible refine gate_callee (f := 28) rfl ?_); refine goesL_ (some 48) rfl rfl Tryd.func28 (by kernel_rfl) rfl #[.string a0, .int .i64 x7_1, .int .i64 8] rfl (by (try simp only [List.map_toArray, List.map_cons, List.map_nil]); first | done | rfl | (simp only [List.length_drop, List.length_take]; rfl)) ?_; (with_reducible refine (headgateref01_Big.calls kj17 a0 x7_1 8 t231 true _ A23.out).mono ?_); rintro e w' ⟨rfl, ⟨nd, rfl⟩⟩; refine ⟨_, rfl, ?_⟩; (try (rw [drewN_self wc]; generalize hq_ : World.drewN wc _ = wc; have n0_ : Aside0 (Kd.R k48 48 wc w.heap.size (fun _ => True) u231000 x231000_1) := ⟨by rw [← hq_]; exact (by (with_reducible repeat (first | apply Kd.R_alloc | apply Kd.R_drewN | apply Kd.R_drew)); exact HO_231000.out)⟩; have n1_ : Aside0 (wc.heap[gb227]? = some (.cells #[.slice none 0 0, .int .i64 x228001_1, .string x228002_1, .int .u32 x228003_1, .bool x228004_1] 27 (0, 0))) := ⟨by rw [← hq_]; exact (bk_ BK227)⟩; have n2_ : Aside0 (wc.heap[gb230]? = some (.cells #[u231000, .int .i64 (wrap64 (bt a0 8)), .string (⟨#[]⟩ : ByteArray), .int .u32 ((t228) % 4294967296), .bool ((bt a0 10) == 1)] 27 (0, 0))) := ⟨by rw [← hq_]; exact (bk_ BK230)⟩; have n3_ : Aside0 (Below w.heap.size w wc) := ⟨by rw [← hq_]; exact (hb_ HB)⟩; clear HO_231000 BK227 BK230 HB hq_; have HO_231000 := n0_; have BK227 := n1_; have BK230 := n2_; have HB := n3_; clear n0_ n1_ n2_ n3_)); have p31 : 0 ≤ ((ji28) : Int) := of_decide_eq_true (by first | (with_reducible assumption) | assumption); have q31 : (ji28) < (a0.size : Int) := of_decide_eq_true (by first | (with_reducible assumption) | assumption); have hx31 := bt_at a0 (ji28); replace p31 := eq_true p31; replace q31 := eq_true q31; have p35 : 0 ≤ ((ji28) : Int) := of_decide_eq_true (by first | (with_reducible assumption) | assumption); have q35 : (ji28) < (a0.size : Int) := of_decide_eq_true (by first | (with_reducible assumption) | assumption); have hx35 := bt_at a0 (ji28); replace p35 := eq_true p35; replace q35 := eq_true q35))
      have n0_ := Aside0.mk (Kd.R_drew HO_231000.out)
      have n1_ := Aside0.mk (blk_drew BK227.out)
      have n2_ := Aside0.mk (blk_drew BK230.out)
      have n3_ := Aside0.mk (below_drew1 HB.out)
      clear HO_231000
      clear BK227
      clear BK230
      clear HB
      have HO_231000 := n0_
      have BK227 := n1_
      have BK230 := n2_
      have HB := n3_
      clear n0_ n1_ n2_ n3_
      refine start_ (n := 16) (S := fun w' => w'.cell? ⟨gb230, 0, none⟩ = some (u231000) ∧ w'.cell? ⟨gb230, 1, none⟩ = some (.int .i64 (wrap64 (bt a0 8))) ∧ w'.cell? ⟨gb230, 2, none⟩ = some (.string (⟨#[]⟩ : ByteArray)) ∧ w'.cell? ⟨gb230, 3, none⟩ = some (.int .u32 ((t228) % 4294967296)) ∧ w'.cell? ⟨gb230, 4, none⟩ = some (.bool ((bt a0 10) == 1))) (ds := [15]) d15x0 (by kernel_rfl) rfl rfl ⟨(blk_cell BK230.out 0).trans rfl, (blk_cell BK230.out 1).trans rfl, (blk_cell BK230.out 2).trans rfl, (blk_cell BK230.out 3).trans rfl, (blk_cell BK230.out 4).trans rfl⟩ (fun hHeld => ?_); refine with_tabW headgateref12_Decode.tab13 headgateref12_Decode.bits13 (fun HT_ HW_ => ?_)
      generalize wc.drew = w41 at HO_231000 BK227 BK230 HB hHeld ⊢
      refine pon_ 0 (some 79) d15x2 HT_.out ?_
      refine pon_ 2 (some 81) d15x4 HT_.out ?_
      refine pon_ 3 (some 82) d15x5 HT_.out ?_
      refine pon_ 4 (some 83) d15x6 HT_.out ?_
      refine pon_ 5 (some 84) d15x7 HT_.out ?_
      refine pon_ 6 (some 85) d15x8 HT_.out ?_
      refine pon_ 7 (some 86) d15x9 HT_.out ?_
      refine pon_ 8 (some 87) d15x10 HT_.out ?_
      refine pon_ 9 (some 88) d15x11 HT_.out ?_
      refine pon_ 10 (some 89) d15x12 HT_.out ?_
      refine pon_ 11 (some 90) d15x13 HT_.out ?_
      refine ptk_ 1 (some 80) d15x24 HT_.out HW_.out hHeld ?_
      refine one_ (i := 12) (N := some 91) d15x25 rfl rfl (one_of HT_.out (by kernel_rfl)) (by decide) (fun K hK => ?_)
      refine value_ (w1 := ?_) (v := ?_) (by rfl) rfl ?_ ?_
      rotate_left 2
      ·go_simp
       constructor
       ·rfl
       ·rfl
      refine hK.out _ _ ⟨(blk_cell (blk_alloc BK230.out _) 0).trans rfl, (blk_cell (blk_alloc BK230.out _) 1).trans rfl, (blk_cell (blk_alloc BK230.out _) 2).trans rfl, (blk_cell (blk_alloc BK230.out _) 3).trans rfl, (blk_cell (blk_alloc BK230.out _) 4).trans rfl⟩ (fun hHeld => ?_)
      clear hK K
      refine norm_ (a' := ?_) ?_ ?_
      rotate_left
      ·show Act.put _ (some 91) _ = _
       simp only [Act.put, la_, lb_, lc_, i64_w, i32_w]
       rfl
      refine one_ (i := 13) (N := some 92) d15x26 rfl rfl (one_of HT_.out (by kernel_rfl)) (by decide) (fun K hK => ?_)
      refine Kd.R_append_step k48 (w0 := w) w.heap.size (by rfl) (.tmp 80) (.tmp 91) 22 48 (.agg #[(.string ⟨#[]⟩), (.int .u64 0)]) 24 rfl Tryd.underlying22 info48 rfl (by decide) (by omega) u231000 x231000_1 (⟨a0.extract ((ji36) : Int).toNat ((wrap64 ((ji36) + (wrap64 (bt a0 (ji28))))) : Int).toNat, t231⟩ : S48) [.string (a0.extract ((ji36) : Int).toNat ((wrap64 ((ji36) + (wrap64 (bt a0 (ji28))))) : Int).toNat), .int .u64 t231] (fun _ => True) (fun _ => False) rfl rfl ?aP (fun _ hk => hk.elim) ?aF ?aO ?aB ?aS ?aL ?_
      (case aP => exact k48_mkM _ _ _ (⟨a0.extract ((ji36) : Int).toNat ((wrap64 ((ji36) + (wrap64 (bt a0 (ji28))))) : Int).toNat, t231⟩ : S48))
      (case aB => exact (hb_ HB))
      (case aF => exact (fun _ _ => trivial))
      (case aO => exact (by (with_reducible repeat (first | apply Kd.R_alloc | apply Kd.R_drewN | apply Kd.R_drew)); exact HO_231000.out))
      (case aS => exact (below_size (hb_ HB)))
      (case aL => have := LMc40.out; omega)
      intro v234 w42 ho hb hg hat
      rw [← Ny233.out] at ho
      have n0_ := Aside0.mk (blk_grown (g := gb227) (o := .cells #[.slice none 0 0, .int .i64 x228001_1, .string x228002_1, .int .u32 x228003_1, .bool x228004_1] 27 (0, 0)) (bk_ BK227) hg (Kd.R_ne HO_231000.out BK227.out (by decide)))
      have n1_ := Aside0.mk (blk_grown (g := gb230) (o := .cells #[u231000, .int .i64 (wrap64 (bt a0 8)), .string (⟨#[]⟩ : ByteArray), .int .u32 ((t228) % 4294967296), .bool ((bt a0 10) == 1)] 27 (0, 0)) (bk_ BK230) hg (Kd.R_ne HO_231000.out BK230.out (by decide)))
      have n2_ := Aside0.mk (hb)
      have n3_ := Aside0.mk (ho)
      clear BK227
      clear BK230
      clear HB
      clear HO_231000
      have BK227 := n0_
      have BK230 := n1_
      have HB := n2_
      have HO235 := n3_
      clear n0_ n1_ n2_ n3_
      clear ho hb hg hat
      obtain ⟨Ao43, co43, eo43⟩ := Kd.R_slice HO235.out
      (first | subst eo43 | (injection eo43 with f1_ f2_ f3_; have f4_ := f1_.symm; have f5_ := f3_.symm; clear f1_ f2_ f3_; subst f4_; subst f5_))
      refine hK.out _ _ ⟨(blk_cell BK230.out 0).trans rfl, (blk_cell BK230.out 1).trans rfl, (blk_cell BK230.out 2).trans rfl, (blk_cell BK230.out 3).trans rfl, (blk_cell BK230.out 4).trans rfl⟩ (fun hHeld => ?_)
      clear hK K
      refine norm_ (a' := ?_) ?_ ?_
      rotate_left
      ·show Act.put _ (some 92) _ = _
       simp only [Act.put, la_, lb_, lc_, i64_w, i32_w]
       rfl
      refine pon_ 14 (some 93) d15x27 HT_.out ?_
      refine last_ (i := 15) (N := none) d15x28 rfl rfl (one_of HT_.out (by kernel_rfl)) (by decide) (fun K hK => ?_)
      have hs44 : w42.cell? ⟨gb230, 0, none⟩ = some (u231000) := (blk_cell BK230.out 0).trans rfl
      have hfs44 := blk_frozen BK230.out 0
      have hns44_0 := NB227_230.out
      have hms44_0 := NB230_227.out
      refine skip_ (w1 := ?_) (by rfl) rfl ?_ ?_
      rotate_left
      ·go_simp
       rfl
      refine hK.out _ _ ?_
      clear hK K
      refine done_ (done_of HT_.out (by kernel_rfl)) ?_
      try go_wp2
      go_roundg kj17
      case measure => have := HK1.out; have := HJ17.out; omega
      case rel => exact ⟨(wrap64 (x7_1 + (wrap64 (9 + (wrap64 (bt a0 (ji28))))))), (wrap64 (x8_1 + 1)), (x228001_1), (x228002_1), (x228003_1), (x228004_1), (y233), (.slice Ao43 y233.length co43), (by first | rfl | (simp; done) | (simp only [← hji28] <;> (first | rfl | simp)) | (simp [*]; done)), (by first | rfl | (simp; done) | (simp [*]; done)), H', ⟨by have := HK1.out; have := HJ17.out; omega⟩, ⟨by (with_reducible repeat (first | apply Kd.R_alloc | apply Kd.R_drewN | apply Kd.R_drew)); exact Kd.R_mono (Kd.R_far (p := ⟨gb230, 0, none⟩) (Kd.R_types HO235.out BK230.out (by decide)) (fun _ hk => hk.2) (.slice Ao43 y233.length co43)) (fun _ hk => trivial)⟩, ⟨by (with_reducible repeat (first | refine blk_drewN ?_ _ | refine blk_drew ?_ | refine blk_alloc ?_ _ | refine blk_far ?_ NB227_230.out _)); exact BK227.out⟩, ⟨by (with_reducible repeat (first | refine blk_drewN ?_ _ | refine blk_drew ?_ | refine blk_alloc ?_ _)); refine blk_put (cs := #[u231000, .int .i64 (wrap64 (bt a0 8)), .string (⟨#[]⟩ : ByteArray), .int .u32 ((t228) % 4294967296), .bool ((bt a0 10) == 1)]) ?_ 0 _ rfl; (with_reducible repeat (first | refine blk_drewN ?_ _ | refine blk_drew ?_ | refine blk_alloc ?_ _)); exact BK230.out⟩, ⟨hb_ HB⟩⟩
     replace c22 := Bool.eq_false_iff.mpr c22
     subst c22
     have H1 := H
     rw [if_neg (show ¬ (false = true) by decide)] at H1
     clear H
     have H := H1
     clear H1
     refine neg_first (p := (9 < (a0.size : Int))) (fun c47 => ?_) (fun c47 => ?_)
     ·rw [if_neg c47] at H
      exact absurd H (by simp)
     rw [if_pos c47] at H
     have c47b0 : decide (9 < (a0.size : Int)) = true := decide_eq_true c47
     have c47b1 : decide (9 < a0.size) = true := decide_eq_true (by omega)
     clear c47
     refine neg_first (p := ((wrap64 (bt a0 9)) > 0)) (fun c49 => ?_) (fun c49 => ?_)
     ·rw [if_neg c49] at H
      have c49b0 : decide (0 < (wrap64 (bt a0 9))) = false := decide_eq_false c49
      clear c49
      replace H := Option.bind_eq_some_iff.mp H
      obtain ⟨⟨t239, t240⟩, A770, H⟩ := H
      try dsimp only at H
      have A77 := Aside0.mk A770
      clear A770
      refine neg_first (p := (t240 = 0)) (fun c78 => ?_) (fun c78 => ?_)
      ·rw [if_neg c78] at H
       have c78b0 : (t240 == 0) = false := beq_eq_false_iff_ne.mpr c78
       have c78b1 : (t240 != 0) = true := bne_iff_ne.mpr c78
       simp only [Option.some.injEq, Prod.mk.injEq] at H
       obtain ⟨rfl, rfl, rfl, rfl, rfl, rfl⟩ := H
       have p48 : 0 ≤ (9 : Int) := (by omega)
       have q48 : 9 < a0.size := (by have : (9 : Int) < (a0.size : Int) := of_decide_eq_true (by first | (with_reducible assumption) | assumption); omega)
       have hx48 : ∀ h : 9 < a0.size, ((a0[9]'h).toNat : Int) = bt a0 9 := bt_at a0 9
       clear p48
       have qi48 : (9 < (a0.size : Int)) = True := eq_true (of_decide_eq_true (by first | (with_reducible assumption) | assumption))
       replace q48 := eq_true q48
       have hnb91 := NB230_227.out
       have hnc91 := NB227_230.out
       have hcz92_0 : wc.cell? ⟨gb230, 0, none⟩ = some (u231000) := (blk_cell BK230.out 0).trans rfl
       have hcz92_1 : wc.cell? ⟨gb230, 1, none⟩ = some (.int .i64 (wrap64 (bt a0 8))) := (blk_cell BK230.out 1).trans rfl
       have hcz92_2 : wc.cell? ⟨gb230, 2, none⟩ = some (.string (⟨#[]⟩ : ByteArray)) := (blk_cell BK230.out 2).trans rfl
       have hcz92_3 : wc.cell? ⟨gb230, 3, none⟩ = some (.int .u32 ((t228) % 4294967296)) := (blk_cell BK230.out 3).trans rfl
       have hcz92_4 : wc.cell? ⟨gb230, 4, none⟩ = some (.bool ((bt a0 10) == 1)) := (blk_cell BK230.out 4).trans rfl
       have hfz92_0 := blk_frozen BK230.out 0
       have hfz92_1 := blk_frozen BK230.out 1
       have hfz92_2 := blk_frozen BK230.out 2
       have hfz92_3 := blk_frozen BK230.out 3
       have hfz92_4 := blk_frozen BK230.out 4
       obtain ⟨Ao93, co93, eo93⟩ := Kd.R_slice HO_231000.out
       subst eo93
       go_wp2_with (first | ((with_reducible refine gate_callee (f := 12) rfl ?_); refine goesL_ (some 120) rfl rfl Tryd.func12 (by kernel_rfl) rfl #[.agg #[.slice Ao93 x231000_1.length co93, .int .i64 (wrap64 (bt a0 8)), .string (⟨#[]⟩ : ByteArray), .int .u32 ((t228) % 4294967296), .bool ((bt a0 10) == 1)]] rfl (by (try simp only [List.map_toArray, List.map_cons, List.map_nil]); first | done | rfl | (simp only [List.length_drop, List.length_take]; rfl)) ?_; (with_reducible refine (headgateref12_Encode.calls kj17 _ _ x231000_1 (wrap64 (bt a0 8)) (⟨#[]⟩ : ByteArray) ((t228) % 4294967296) ((bt a0 10) == 1) t239 t240 _ ?side1 ?side2 A77.out).mono ?_); (case side1 => repeat (first | exact (Kd.R_reads' HO_231000.out).2.2 | (with_reducible refine Kd.C_alloc ?_ _) | (with_reducible refine Kd.C_drewN ?_ _) | (with_reducible refine Kd.C_drew ?_))); (case side2 => exact (Kd.R_reads' HO_231000.out).2.1); rintro e w94 ⟨rfl, hb⟩; refine ⟨_, rfl, ?_⟩; have n0_ := Aside0.mk (Kd.R_below (by (with_reducible repeat (first | apply Kd.R_alloc | apply Kd.R_drewN | apply Kd.R_drew)); exact HO_231000.out) hb); have n1_ := Aside0.mk (blk_below (bk_ BK227) hb); have n2_ := Aside0.mk (blk_below (bk_ BK230) hb); have n3_ := Aside0.mk (below_step (hb_ HB) hb); clear HO_231000; clear BK227; clear BK230; clear HB; have HO_231000 := n0_; have BK227 := n1_; have BK230 := n2_; have HB := n3_; clear n0_ n1_ n2_ n3_; (try clear hb); (try clear hb2); (try clear hk); (try clear hi); have hcz95_0 : w94.cell? ⟨gb227, 0, none⟩ = some (.slice none 0 0) := (blk_cell BK227.out 0).trans rfl; have hcz95_1 : w94.cell? ⟨gb227, 1, none⟩ = some (.int .i64 x228001_1) := (blk_cell BK227.out 1).trans rfl; have hcz95_2 : w94.cell? ⟨gb227, 2, none⟩ = some (.string x228002_1) := (blk_cell BK227.out 2).trans rfl; have hcz95_3 : w94.cell? ⟨gb227, 3, none⟩ = some (.int .u32 x228003_1) := (blk_cell BK227.out 3).trans rfl; have hcz95_4 : w94.cell? ⟨gb227, 4, none⟩ = some (.bool x228004_1) := (blk_cell BK227.out 4).trans rfl; have hfz95_0 := blk_frozen BK227.out 0; have hfz95_1 := blk_frozen BK227.out 1; have hfz95_2 := blk_frozen BK227.out 2; have hfz95_3 := blk_frozen BK227.out 3; have hfz95_4 := blk_frozen BK227.out 4))
       refine bodyPost_ret (results_ct rfl _ _ gb227 27 #[.slice none 0 0, .int .i64 0, .string (⟨#[]⟩ : ByteArray), .int .u32 0, .bool false] (0, 0) _ rfl (by (with_reducible repeat (first | refine blk_drewN ?_ _ | refine blk_drew ?_ | refine blk_alloc ?_ _)); refine blk_put (cs := #[.slice none 0 0, .int .i64 0, .string (⟨#[]⟩ : ByteArray), .int .u32 0, .bool x228004_1]) ?_ 4 _ rfl; (with_reducible repeat (first | refine blk_drewN ?_ _ | refine blk_drew ?_ | refine blk_alloc ?_ _)); refine blk_put (cs := #[.slice none 0 0, .int .i64 0, .string (⟨#[]⟩ : ByteArray), .int .u32 x228003_1, .bool x228004_1]) ?_ 3 _ rfl; (with_reducible repeat (first | refine blk_drewN ?_ _ | refine blk_drew ?_ | refine blk_alloc ?_ _)); refine blk_put (cs := #[.slice none 0 0, .int .i64 0, .string x228002_1, .int .u32 x228003_1, .bool x228004_1]) ?_ 2 _ rfl; (with_reducible repeat (first | refine blk_drewN ?_ _ | refine blk_drew ?_ | refine blk_alloc ?_ _)); refine blk_put (cs := #[.slice none 0 0, .int .i64 x228001_1, .string x228002_1, .int .u32 x228003_1, .bool x228004_1]) ?_ 1 _ rfl; (with_reducible repeat (first | refine blk_drewN ?_ _ | refine blk_drew ?_ | refine blk_alloc ?_ _)); refine blk_put (cs := #[.slice none 0 0, .int .i64 x228001_1, .string x228002_1, .int .u32 x228003_1, .bool x228004_1]) ?_ 0 _ rfl; (with_reducible repeat (first | refine blk_drewN ?_ _ | refine blk_drew ?_ | refine blk_alloc ?_ _)); exact BK227.out) Tryd.underlying27 rfl (by kernel_rfl)) rfl ?_
       exact ⟨_, by first | rfl | (simp [errW_none, errW_some] <;> rfl) | (simp [*, errW_none, errW_some] <;> rfl) | (simp [bt, *]; done) | (unfold bt; simp [*]; done), by first | exact Kd.R_nil _ _ _ _ _ | exact Kd.N_nil _ _ _ _ _ | exact Kd.V_nil _ _ _ _ _ | exact Kd.Q_nil _ _ _ _ _ | exact Kd.S_nil _ _ _ _ _, by repeat (first | (with_reducible first | exact HB.out | apply below_alloc | apply pw_below_drewN | apply below_drew1 | refine below_set ?_ GE227.out | refine below_set ?_ GE230.out) | exact HB.out)⟩
      rw [if_pos c78] at H
      have c78b0 : (t240 == 0) = true := beq_iff_eq.mpr c78
      have c78b1 : (t240 != 0) = false := bne_eq_false_iff_eq.mpr c78
      clear c78
      refine neg_first (p := (t239.toList = a0.toList)) (fun c79 => ?_) (fun c79 => ?_)
      ·rw [if_neg c79] at H
       have c79b0 : (t239.toList == a0.toList) = false := beq_eq_false_iff_ne.mpr c79
       have c79b1 : (t239.toList != a0.toList) = true := bne_iff_ne.mpr c79
       simp only [Option.some.injEq, Prod.mk.injEq] at H
       obtain ⟨rfl, rfl, rfl, rfl, rfl, rfl⟩ := H
       have p48 : 0 ≤ (9 : Int) := (by omega)
       have q48 : 9 < a0.size := (by have : (9 : Int) < (a0.size : Int) := of_decide_eq_true (by first | (with_reducible assumption) | assumption); omega)
       have hx48 : ∀ h : 9 < a0.size, ((a0[9]'h).toNat : Int) = bt a0 9 := bt_at a0 9
       clear p48
       have qi48 : (9 < (a0.size : Int)) = True := eq_true (of_decide_eq_true (by first | (with_reducible assumption) | assumption))
       replace q48 := eq_true q48
       have hnb86 := NB230_227.out
       have hnc86 := NB227_230.out
       have hcz87_0 : wc.cell? ⟨gb230, 0, none⟩ = some (u231000) := (blk_cell BK230.out 0).trans rfl
       have hcz87_1 : wc.cell? ⟨gb230, 1, none⟩ = some (.int .i64 (wrap64 (bt a0 8))) := (blk_cell BK230.out 1).trans rfl
       have hcz87_2 : wc.cell? ⟨gb230, 2, none⟩ = some (.string (⟨#[]⟩ : ByteArray)) := (blk_cell BK230.out 2).trans rfl
       have hcz87_3 : wc.cell? ⟨gb230, 3, none⟩ = some (.int .u32 ((t228) % 4294967296)) := (blk_cell BK230.out 3).trans rfl
       have hcz87_4 : wc.cell? ⟨gb230, 4, none⟩ = some (.bool ((bt a0 10) == 1)) := (blk_cell BK230.out 4).trans rfl
       have hfz87_0 := blk_frozen BK230.out 0
       have hfz87_1 := blk_frozen BK230.out 1
       have hfz87_2 := blk_frozen BK230.out 2
       have hfz87_3 := blk_frozen BK230.out 3
       have hfz87_4 := blk_frozen BK230.out 4
       obtain ⟨Ao88, co88, eo88⟩ := Kd.R_slice HO_231000.out
       subst eo88
       go_wp2_with (first | ((with_reducible refine gate_callee (f := 12) rfl ?_); refine goesL_ (some 120) rfl rfl Tryd.func12 (by kernel_rfl) rfl #[.agg #[.slice Ao88 x231000_1.length co88, .int .i64 (wrap64 (bt a0 8)), .string (⟨#[]⟩ : ByteArray), .int .u32 ((t228) % 4294967296), .bool ((bt a0 10) == 1)]] rfl (by (try simp only [List.map_toArray, List.map_cons, List.map_nil]); first | done | rfl | (simp only [List.length_drop, List.length_take]; rfl)) ?_; (with_reducible refine (headgateref12_Encode.calls kj17 _ _ x231000_1 (wrap64 (bt a0 8)) (⟨#[]⟩ : ByteArray) ((t228) % 4294967296) ((bt a0 10) == 1) t239 t240 _ ?side1 ?side2 A77.out).mono ?_); (case side1 => repeat (first | exact (Kd.R_reads' HO_231000.out).2.2 | (with_reducible refine Kd.C_alloc ?_ _) | (with_reducible refine Kd.C_drewN ?_ _) | (with_reducible refine Kd.C_drew ?_))); (case side2 => exact (Kd.R_reads' HO_231000.out).2.1); rintro e w89 ⟨rfl, hb⟩; refine ⟨_, rfl, ?_⟩; have n0_ := Aside0.mk (Kd.R_below (by (with_reducible repeat (first | apply Kd.R_alloc | apply Kd.R_drewN | apply Kd.R_drew)); exact HO_231000.out) hb); have n1_ := Aside0.mk (blk_below (bk_ BK227) hb); have n2_ := Aside0.mk (blk_below (bk_ BK230) hb); have n3_ := Aside0.mk (below_step (hb_ HB) hb); clear HO_231000; clear BK227; clear BK230; clear HB; have HO_231000 := n0_; have BK227 := n1_; have BK230 := n2_; have HB := n3_; clear n0_ n1_ n2_ n3_; (try clear hb); (try clear hb2); (try clear hk); (try clear hi); have hcz90_0 : w89.cell? ⟨gb227, 0, none⟩ = some (.slice none 0 0) := (blk_cell BK227.out 0).trans rfl; have hcz90_1 : w89.cell? ⟨gb227, 1, none⟩ = some (.int .i64 x228001_1) := (blk_cell BK227.out 1).trans rfl; have hcz90_2 : w89.cell? ⟨gb227, 2, none⟩ = some (.string x228002_1) := (blk_cell BK227.out 2).trans rfl; have hcz90_3 : w89.cell? ⟨gb227, 3, none⟩ = some (.int .u32 x228003_1) := (blk_cell BK227.out 3).trans rfl; have hcz90_4 : w89.cell? ⟨gb227, 4, none⟩ = some (.bool x228004_1) := (blk_cell BK227.out 4).trans rfl; have hfz90_0 := blk_frozen BK227.out 0; have hfz90_1 := blk_frozen BK227.out 1; have hfz90_2 := blk_frozen BK227.out 2; have hfz90_3 := blk_frozen BK227.out 3; have hfz90_4 := blk_frozen BK227.out 4))
       refine bodyPost_ret (results_ct rfl _ _ gb227 27 #[.slice none 0 0, .int .i64 0, .string (⟨#[]⟩ : ByteArray), .int .u32 0, .bool false] (0, 0) _ rfl (by (with_reducible repeat (first | refine blk_drewN ?_ _ | refine blk_drew ?_ | refine blk_alloc ?_ _)); refine blk_put (cs := #[.slice none 0 0, .int .i64 0, .string (⟨#[]⟩ : ByteArray), .int .u32 0, .bool x228004_1]) ?_ 4 _ rfl; (with_reducible repeat (first | refine blk_drewN ?_ _ | refine blk_drew ?_ | refine blk_alloc ?_ _)); refine blk_put (cs := #[.slice none 0 0, .int .i64 0, .string (⟨#[]⟩ : ByteArray), .int .u32 x228003_1, .bool x228004_1]) ?_ 3 _ rfl; (with_reducible repeat (first | refine blk_drewN ?_ _ | refine blk_drew ?_ | refine blk_alloc ?_ _)); refine blk_put (cs := #[.slice none 0 0, .int .i64 0, .string x228002_1, .int .u32 x228003_1, .bool x228004_1]) ?_ 2 _ rfl; (with_reducible repeat (first | refine blk_drewN ?_ _ | refine blk_drew ?_ | refine blk_alloc ?_ _)); refine blk_put (cs := #[.slice none 0 0, .int .i64 x228001_1, .string x228002_1, .int .u32 x228003_1, .bool x228004_1]) ?_ 1 _ rfl; (with_reducible repeat (first | refine blk_drewN ?_ _ | refine blk_drew ?_ | refine blk_alloc ?_ _)); refine blk_put (cs := #[.slice none 0 0, .int .i64 x228001_1, .string x228002_1, .int .u32 x228003_1, .bool x228004_1]) ?_ 0 _ rfl; (with_reducible repeat (first | refine blk_drewN ?_ _ | refine blk_drew ?_ | refine blk_alloc ?_ _)); exact BK227.out) Tryd.underlying27 rfl (by kernel_rfl)) rfl ?_
       exact ⟨_, by first | rfl | (simp [errW_none, errW_some] <;> rfl) | (simp [*, errW_none, errW_some] <;> rfl) | (simp [bt, *]; done) | (unfold bt; simp [*]; done), by first | exact Kd.R_nil _ _ _ _ _ | exact Kd.N_nil _ _ _ _ _ | exact Kd.V_nil _ _ _ _ _ | exact Kd.Q_nil _ _ _ _ _ | exact Kd.S_nil _ _ _ _ _, by repeat (first | (with_reducible first | exact HB.out | apply below_alloc | apply pw_below_drewN | apply below_drew1 | refine below_set ?_ GE227.out | refine below_set ?_ GE230.out) | exact HB.out)⟩
      rw [if_pos c79] at H
      have c79b0 : (t239.toList == a0.toList) = true := beq_iff_eq.mpr c79
      have c79b1 : (t239.toList != a0.toList) = false := bne_eq_false_iff_eq.mpr c79
      clear c79
      simp only [Option.some.injEq, Prod.mk.injEq] at H
      obtain ⟨rfl, rfl, rfl, rfl, rfl, rfl⟩ := H
      have p48 : 0 ≤ (9 : Int) := (by omega)
      have q48 : 9 < a0.size := (by have : (9 : Int) < (a0.size : Int) := of_decide_eq_true (by first | (with_reducible assumption) | assumption); omega)
      have hx48 : ∀ h : 9 < a0.size, ((a0[9]'h).toNat : Int) = bt a0 9 := bt_at a0 9
      clear p48
      have qi48 : (9 < (a0.size : Int)) = True := eq_true (of_decide_eq_true (by first | (with_reducible assumption) | assumption))
      replace q48 := eq_true q48
      have hnb80 := NB230_227.out
      have hnc80 := NB227_230.out
      have hcz81_0 : wc.cell? ⟨gb230, 0, none⟩ = some (u231000) := (blk_cell BK230.out 0).trans rfl
      have hcz81_1 : wc.cell? ⟨gb230, 1, none⟩ = some (.int .i64 (wrap64 (bt a0 8))) := (blk_cell BK230.out 1).trans rfl
      have hcz81_2 : wc.cell? ⟨gb230, 2, none⟩ = some (.string (⟨#[]⟩ : ByteArray)) := (blk_cell BK230.out 2).trans rfl
      have hcz81_3 : wc.cell? ⟨gb230, 3, none⟩ = some (.int .u32 ((t228) % 4294967296)) := (blk_cell BK230.out 3).trans rfl
      have hcz81_4 : wc.cell? ⟨gb230, 4, none⟩ = some (.bool ((bt a0 10) == 1)) := (blk_cell BK230.out 4).trans rfl
      have hfz81_0 := blk_frozen BK230.out 0
      have hfz81_1 := blk_frozen BK230.out 1
      have hfz81_2 := blk_frozen BK230.out 2
      have hfz81_3 := blk_frozen BK230.out 3
      have hfz81_4 := blk_frozen BK230.out 4
      obtain ⟨Ao82, co82, eo82⟩ := Kd.R_slice HO_231000.out
      subst eo82
      go_wp2_with (first | ((with_reducible refine gate_callee (f := 12) rfl ?_); refine goesL_ (some 120) rfl rfl Tryd.func12 (by kernel_rfl) rfl #[.agg #[.slice Ao82 x231000_1.length co82, .int .i64 (wrap64 (bt a0 8)), .string (⟨#[]⟩ : ByteArray), .int .u32 ((t228) % 4294967296), .bool ((bt a0 10) == 1)]] rfl (by (try simp only [List.map_toArray, List.map_cons, List.map_nil]); first | done | rfl | (simp only [List.length_drop, List.length_take]; rfl)) ?_; (with_reducible refine (headgateref12_Encode.calls kj17 _ _ x231000_1 (wrap64 (bt a0 8)) (⟨#[]⟩ : ByteArray) ((t228) % 4294967296) ((bt a0 10) == 1) t239 t240 _ ?side1 ?side2 A77.out).mono ?_); (case side1 => repeat (first | exact (Kd.R_reads' HO_231000.out).2.2 | (with_reducible refine Kd.C_alloc ?_ _) | (with_reducible refine Kd.C_drewN ?_ _) | (with_reducible refine Kd.C_drew ?_))); (case side2 => exact (Kd.R_reads' HO_231000.out).2.1); rintro e w83 ⟨rfl, hb⟩; refine ⟨_, rfl, ?_⟩; have n0_ := Aside0.mk (Kd.R_below (by (with_reducible repeat (first | apply Kd.R_alloc | apply Kd.R_drewN | apply Kd.R_drew)); exact HO_231000.out) hb); have n1_ := Aside0.mk (blk_below (bk_ BK227) hb); have n2_ := Aside0.mk (blk_below (bk_ BK230) hb); have n3_ := Aside0.mk (below_step (hb_ HB) hb); clear HO_231000; clear BK227; clear BK230; clear HB; have HO_231000 := n0_; have BK227 := n1_; have BK230 := n2_; have HB := n3_; clear n0_ n1_ n2_ n3_; (try clear hb); (try clear hb2); (try clear hk); (try clear hi); have hcz84_0 : w83.cell? ⟨gb230, 0, none⟩ = some (.slice Ao82 x231000_1.length co82) := (blk_cell BK230.out 0).trans rfl; have hcz84_1 : w83.cell? ⟨gb230, 1, none⟩ = some (.int .i64 (wrap64 (bt a0 8))) := (blk_cell BK230.out 1).trans rfl; have hcz84_2 : w83.cell? ⟨gb230, 2, none⟩ = some (.string (⟨#[]⟩ : ByteArray)) := (blk_cell BK230.out 2).trans rfl; have hcz84_3 : w83.cell? ⟨gb230, 3, none⟩ = some (.int .u32 ((t228) % 4294967296)) := (blk_cell BK230.out 3).trans rfl; have hcz84_4 : w83.cell? ⟨gb230, 4, none⟩ = some (.bool ((bt a0 10) == 1)) := (blk_cell BK230.out 4).trans rfl; have hfz84_0 := blk_frozen BK230.out 0; have hfz84_1 := blk_frozen BK230.out 1; have hfz84_2 := blk_frozen BK230.out 2; have hfz84_3 := blk_frozen BK230.out 3; have hfz84_4 := blk_frozen BK230.out 4; have hcz85_0 : w83.cell? ⟨gb227, 0, none⟩ = some (.slice none 0 0) := (blk_cell BK227.out 0).trans rfl; have hcz85_1 : w83.cell? ⟨gb227, 1, none⟩ = some (.int .i64 x228001_1) := (blk_cell BK227.out 1).trans rfl; have hcz85_2 : w83.cell? ⟨gb227, 2, none⟩ = some (.string x228002_1) := (blk_cell BK227.out 2).trans rfl; have hcz85_3 : w83.cell? ⟨gb227, 3, none⟩ = some (.int .u32 x228003_1) := (blk_cell BK227.out 3).trans rfl; have hcz85_4 : w83.cell? ⟨gb227, 4, none⟩ = some (.bool x228004_1) := (blk_cell BK227.out 4).trans rfl; have hfz85_0 := blk_frozen BK227.out 0; have hfz85_1 := blk_frozen BK227.out 1; have hfz85_2 := blk_frozen BK227.out 2; have hfz85_3 := blk_frozen BK227.out 3; have hfz85_4 := blk_frozen BK227.out 4))
      refine bodyPost_ret (results_ct rfl _ _ gb227 27 #[.slice Ao82 x231000_1.length co82, .int .i64 (wrap64 (bt a0 8)), .string (⟨#[]⟩ : ByteArray), .int .u32 ((t228) % 4294967296), .bool ((bt a0 10) == 1)] (0, 0) _ rfl (by (with_reducible repeat (first | refine blk_drewN ?_ _ | refine blk_drew ?_ | refine blk_alloc ?_ _)); refine blk_put (cs := #[.slice Ao82 x231000_1.length co82, .int .i64 (wrap64 (bt a0 8)), .string (⟨#[]⟩ : ByteArray), .int .u32 ((t228) % 4294967296), .bool x228004_1]) ?_ 4 _ rfl; (with_reducible repeat (first | refine blk_drewN ?_ _ | refine blk_drew ?_ | refine blk_alloc ?_ _)); refine blk_put (cs := #[.slice Ao82 x231000_1.length co82, .int .i64 (wrap64 (bt a0 8)), .string (⟨#[]⟩ : ByteArray), .int .u32 x228003_1, .bool x228004_1]) ?_ 3 _ rfl; (with_reducible repeat (first | refine blk_drewN ?_ _ | refine blk_drew ?_ | refine blk_alloc ?_ _)); refine blk_put (cs := #[.slice Ao82 x231000_1.length co82, .int .i64 (wrap64 (bt a0 8)), .string x228002_1, .int .u32 x228003_1, .bool x228004_1]) ?_ 2 _ rfl; (with_reducible repeat (first | refine blk_drewN ?_ _ | refine blk_drew ?_ | refine blk_alloc ?_ _)); refine blk_put (cs := #[.slice Ao82 x231000_1.length co82, .int .i64 x228001_1, .string x228002_1, .int .u32 x228003_1, .bool x228004_1]) ?_ 1 _ rfl; (with_reducible repeat (first | refine blk_drewN ?_ _ | refine blk_drew ?_ | refine blk_alloc ?_ _)); refine blk_put (cs := #[.slice none 0 0, .int .i64 x228001_1, .string x228002_1, .int .u32 x228003_1, .bool x228004_1]) ?_ 0 _ rfl; (with_reducible repeat (first | refine blk_drewN ?_ _ | refine blk_drew ?_ | refine blk_alloc ?_ _)); exact BK227.out) Tryd.underlying27 rfl (by kernel_rfl)) rfl ?_
      exact ⟨_, by first | rfl | (simp [errW_none, errW_some] <;> rfl) | (simp [*, errW_none, errW_some] <;> rfl) | (simp [bt, *]; done) | (unfold bt; simp [*]; done), by (with_reducible repeat (first | apply Kd.R_alloc | apply Kd.R_drewN | apply Kd.R_drew)); exact Kd.R_mono (Kd.R_far (p := ⟨gb227, 4, none⟩) (Kd.R_far (p := ⟨gb227, 3, none⟩) (Kd.R_far (p := ⟨gb227, 2, none⟩) (Kd.R_far (p := ⟨gb227, 1, none⟩) (Kd.R_far (p := ⟨gb227, 0, none⟩) (Kd.R_types HO_231000.out BK227.out (by decide)) (fun _ hk => hk.2) (.slice Ao82 x231000_1.length co82)) (fun _ hk => hk.2) (.int .i64 (wrap64 (bt a0 8)))) (fun _ hk => hk.2) (.string (⟨#[]⟩ : ByteArray))) (fun _ hk => hk.2) (.int .u32 ((t228) % 4294967296))) (fun _ hk => hk.2) (.bool ((bt a0 10) == 1))) (fun _ hk => trivial), by repeat (first | (with_reducible first | exact HB.out | apply below_alloc | apply pw_below_drewN | apply below_drew1 | refine below_set ?_ GE227.out | refine below_set ?_ GE230.out) | exact HB.out)⟩
     rw [if_pos c49] at H
     have c49b0 : decide (0 < (wrap64 (bt a0 9))) = true := decide_eq_true c49
     clear c49
     by_cases c50 : (wrap64 (bt a0 9)) > (x231000_1.length : Int)
     ·rw [if_pos c50] at H
      have c50b0 : decide ((x231000_1.length : Int) < (wrap64 (bt a0 9))) = true := decide_eq_true c50
      clear c50
      simp only [Option.some.injEq, Prod.mk.injEq] at H
      obtain ⟨rfl, rfl, rfl, rfl, rfl, rfl⟩ := H
      have p48 : 0 ≤ (9 : Int) := (by omega)
      have q48 : 9 < a0.size := (by have : (9 : Int) < (a0.size : Int) := of_decide_eq_true (by first | (with_reducible assumption) | assumption); omega)
      have hx48 : ∀ h : 9 < a0.size, ((a0[9]'h).toNat : Int) = bt a0 9 := bt_at a0 9
      clear p48
      have qi48 : (9 < (a0.size : Int)) = True := eq_true (of_decide_eq_true (by first | (with_reducible assumption) | assumption))
      replace q48 := eq_true q48
      have hnb51 := NB230_227.out
      have hnc51 := NB227_230.out
      have hcz52_0 : wc.cell? ⟨gb230, 0, none⟩ = some (u231000) := (blk_cell BK230.out 0).trans rfl
      have hcz52_1 : wc.cell? ⟨gb230, 1, none⟩ = some (.int .i64 (wrap64 (bt a0 8))) := (blk_cell BK230.out 1).trans rfl
      have hcz52_2 : wc.cell? ⟨gb230, 2, none⟩ = some (.string (⟨#[]⟩ : ByteArray)) := (blk_cell BK230.out 2).trans rfl
      have hcz52_3 : wc.cell? ⟨gb230, 3, none⟩ = some (.int .u32 ((t228) % 4294967296)) := (blk_cell BK230.out 3).trans rfl
      have hcz52_4 : wc.cell? ⟨gb230, 4, none⟩ = some (.bool ((bt a0 10) == 1)) := (blk_cell BK230.out 4).trans rfl
      have hfz52_0 := blk_frozen BK230.out 0
      have hfz52_1 := blk_frozen BK230.out 1
      have hfz52_2 := blk_frozen BK230.out 2
      have hfz52_3 := blk_frozen BK230.out 3
      have hfz52_4 := blk_frozen BK230.out 4
      obtain ⟨Ao53, co53, eo53⟩ := Kd.R_slice HO_231000.out
      subst eo53
      have hcz54_0 : wc.cell? ⟨gb227, 0, none⟩ = some (.slice none 0 0) := (blk_cell BK227.out 0).trans rfl
      have hcz54_1 : wc.cell? ⟨gb227, 1, none⟩ = some (.int .i64 x228001_1) := (blk_cell BK227.out 1).trans rfl
      have hcz54_2 : wc.cell? ⟨gb227, 2, none⟩ = some (.string x228002_1) := (blk_cell BK227.out 2).trans rfl
      have hcz54_3 : wc.cell? ⟨gb227, 3, none⟩ = some (.int .u32 x228003_1) := (blk_cell BK227.out 3).trans rfl
      have hcz54_4 : wc.cell? ⟨gb227, 4, none⟩ = some (.bool x228004_1) := (blk_cell BK227.out 4).trans rfl
      have hfz54_0 := blk_frozen BK227.out 0
      have hfz54_1 := blk_frozen BK227.out 1
      have hfz54_2 := blk_frozen BK227.out 2
      have hfz54_3 := blk_frozen BK227.out 3
      have hfz54_4 := blk_frozen BK227.out 4
      go_wp2
      refine bodyPost_ret (results_ct rfl _ _ gb227 27 #[.slice none 0 0, .int .i64 0, .string (⟨#[]⟩ : ByteArray), .int .u32 0, .bool false] (0, 0) _ rfl (by (with_reducible repeat (first | refine blk_drewN ?_ _ | refine blk_drew ?_ | refine blk_alloc ?_ _)); refine blk_put (cs := #[.slice none 0 0, .int .i64 0, .string (⟨#[]⟩ : ByteArray), .int .u32 0, .bool x228004_1]) ?_ 4 _ rfl; (with_reducible repeat (first | refine blk_drewN ?_ _ | refine blk_drew ?_ | refine blk_alloc ?_ _)); refine blk_put (cs := #[.slice none 0 0, .int .i64 0, .string (⟨#[]⟩ : ByteArray), .int .u32 x228003_1, .bool x228004_1]) ?_ 3 _ rfl; (with_reducible repeat (first | refine blk_drewN ?_ _ | refine blk_drew ?_ | refine blk_alloc ?_ _)); refine blk_put (cs := #[.slice none 0 0, .int .i64 0, .string x228002_1, .int .u32 x228003_1, .bool x228004_1]) ?_ 2 _ rfl; (with_reducible repeat (first | refine blk_drewN ?_ _ | refine blk_drew ?_ | refine blk_alloc ?_ _)); refine blk_put (cs := #[.slice none 0 0, .int .i64 x228001_1, .string x228002_1, .int .u32 x228003_1, .bool x228004_1]) ?_ 1 _ rfl; (with_reducible repeat (first | refine blk_drewN ?_ _ | refine blk_drew ?_ | refine blk_alloc ?_ _)); refine blk_put (cs := #[.slice none 0 0, .int .i64 x228001_1, .string x228002_1, .int .u32 x228003_1, .bool x228004_1]) ?_ 0 _ rfl; (with_reducible repeat (first | refine blk_drewN ?_ _ | refine blk_drew ?_ | refine blk_alloc ?_ _)); exact BK227.out) Tryd.underlying27 rfl (by kernel_rfl)) rfl ?_
      exact ⟨_, by first | rfl | (simp [errW_none, errW_some] <;> rfl) | (simp [*, errW_none, errW_some] <;> rfl) | (simp [bt, *]; done) | (unfold bt; simp [*]; done), by first | exact Kd.R_nil _ _ _ _ _ | exact Kd.N_nil _ _ _ _ _ | exact Kd.V_nil _ _ _ _ _ | exact Kd.Q_nil _ _ _ _ _ | exact Kd.S_nil _ _ _ _ _, by repeat (first | (with_reducible first | exact HB.out | apply below_alloc | apply pw_below_drewN | apply below_drew1 | refine below_set ?_ GE227.out | refine below_set ?_ GE230.out) | exact HB.out)⟩
     rw [if_neg c50] at H
     have c50b0 : decide ((x231000_1.length : Int) < (wrap64 (bt a0 9))) = false := decide_eq_false c50
     clear c50
     obtain ⟨ji55, hji55⟩ : ∃ j_ : Int, (wrap64 ((wrap64 (bt a0 9)) - 1)) = j_ := ⟨_, rfl⟩
     replace H : (if 0 ≤ (ji55) then (if (ji55) < (x231000_1.length : Int) then ((headgateref12_Encode.f kj17 x231000_1 (wrap64 (bt a0 8)) ((rd_T48 x231000_1 (ji55)).f0) ((t228) % 4294967296) ((bt a0 10) == 1)).bind fun bt237 => (if bt237.2 = 0 then (if bt237.1.toList = a0.toList then (some (x231000_1, (wrap64 (bt a0 8)), (rd_T48 x231000_1 (ji55)).f0, ((t228) % 4294967296), ((bt a0 10) == 1), 0)) else (some (([] : List (S48)), 0, (⟨#[]⟩ : ByteArray), 0, false, 61))) else (some (([] : List (S48)), 0, (⟨#[]⟩ : ByteArray), 0, false, 61)))) else (none)) else (none)) = some (r1, r2, r3, r4, r5, r6) := by first | (rw [hji55] at H; exact H) | (simp only [hji55] at H ⊢; exact H)
     have hji55w : (IntKind.i64.wrap ((wrap64 (bt a0 9)) - 1)) = ji55 := (i64_w _).trans hji55
     refine neg_first (p := (0 ≤ (ji55))) (fun c56 => ?_) (fun c56 => ?_)
     ·rw [if_neg c56] at H
      exact absurd H (by simp)
     rw [if_pos c56] at H
     have c56b0 : decide (0 ≤ (ji55)) = true := decide_eq_true c56
     clear c56
     refine neg_first (p := ((ji55) < (x231000_1.length : Int))) (fun c57 => ?_) (fun c57 => ?_)
     ·rw [if_neg c57] at H
      exact absurd H (by simp)
     rw [if_pos c57] at H
     have c57b0 : decide ((ji55) < (x231000_1.length : Int)) = true := decide_eq_true c57
     clear c57
     replace H := Option.bind_eq_some_iff.mp H
     obtain ⟨⟨t237, t238⟩, A580, H⟩ := H
     try dsimp only at H
     have A58 := Aside0.mk A580
     clear A580
     refine neg_first (p := (t238 = 0)) (fun c59 => ?_) (fun c59 => ?_)
     ·rw [if_neg c59] at H
      have c59b0 : (t238 == 0) = false := beq_eq_false_iff_ne.mpr c59
      have c59b1 : (t238 != 0) = true := bne_iff_ne.mpr c59
      simp only [Option.some.injEq, Prod.mk.injEq] at H
      obtain ⟨rfl, rfl, rfl, rfl, rfl, rfl⟩ := H
      have p48 : 0 ≤ (9 : Int) := (by omega)
      have q48 : 9 < a0.size := (by have : (9 : Int) < (a0.size : Int) := of_decide_eq_true (by first | (with_reducible assumption) | assumption); omega)
      have hx48 : ∀ h : 9 < a0.size, ((a0[9]'h).toNat : Int) = bt a0 9 := bt_at a0 9
      clear p48
      have qi48 : (9 < (a0.size : Int)) = True := eq_true (of_decide_eq_true (by first | (with_reducible assumption) | assumption))
      replace q48 := eq_true q48
      have hnb72 := NB230_227.out
      have hnc72 := NB227_230.out
      have hcz73_0 : wc.cell? ⟨gb230, 0, none⟩ = some (u231000) := (blk_cell BK230.out 0).trans rfl
      have hcz73_1 : wc.cell? ⟨gb230, 1, none⟩ = some (.int .i64 (wrap64 (bt a0 8))) := (blk_cell BK230.out 1).trans rfl
      have hcz73_2 : wc.cell? ⟨gb230, 2, none⟩ = some (.string (⟨#[]⟩ : ByteArray)) := (blk_cell BK230.out 2).trans rfl
      have hcz73_3 : wc.cell? ⟨gb230, 3, none⟩ = some (.int .u32 ((t228) % 4294967296)) := (blk_cell BK230.out 3).trans rfl
      have hcz73_4 : wc.cell? ⟨gb230, 4, none⟩ = some (.bool ((bt a0 10) == 1)) := (blk_cell BK230.out 4).trans rfl
      have hfz73_0 := blk_frozen BK230.out 0
      have hfz73_1 := blk_frozen BK230.out 1
      have hfz73_2 := blk_frozen BK230.out 2
      have hfz73_3 := blk_frozen BK230.out 3
      have hfz73_4 := blk_frozen BK230.out 4
      obtain ⟨Ao74, co74, eo74⟩ := Kd.R_slice HO_231000.out
      subst eo74
      have p236 : 0 ≤ ((ji55) : Int) := of_decide_eq_true (by first | (with_reducible assumption) | assumption)
      have q236 : (ji55) < (x231000_1.length : Int) := of_decide_eq_true (by first | (with_reducible assumption) | assumption)
      obtain ⟨ad236, e236, hx236_0, hx236_1⟩ := at_T48 (Kd.R_reads' HO_231000.out).2.2 (ji55) p236 q236
      cases e236
      replace p236 := eq_true p236
      replace q236 := eq_true q236
      go_wp2_with (first | ((with_reducible refine gate_callee (f := 12) rfl ?_); refine goesL_ (some 120) rfl rfl Tryd.func12 (by kernel_rfl) rfl #[.agg #[.slice (some ad236) x231000_1.length co74, .int .i64 (wrap64 (bt a0 8)), .string ((rd_T48 x231000_1 (ji55)).f0), .int .u32 ((t228) % 4294967296), .bool ((bt a0 10) == 1)]] rfl (by (try simp only [List.map_toArray, List.map_cons, List.map_nil]); first | done | (simp only [hji55]; rfl) | rfl | (simp only [List.length_drop, List.length_take]; rfl)) ?_; (with_reducible refine (headgateref12_Encode.calls kj17 _ _ x231000_1 (wrap64 (bt a0 8)) ((rd_T48 x231000_1 (ji55)).f0) ((t228) % 4294967296) ((bt a0 10) == 1) t237 t238 _ ?side1 ?side2 A58.out).mono ?_); (case side1 => refine (Kd.R_reads' (e := 48) (base := w.heap.size) (ok := fun k_ => True) (n := x231000_1.length) (c := co74) ?_).2.2; exact (by (with_reducible repeat (first | apply Kd.R_alloc | apply Kd.R_drewN | apply Kd.R_drew)); exact (Kd.R_mono (Kd.R_far (p := ⟨gb230, 2, none⟩) (Kd.R_types HO_231000.out BK230.out (by decide)) (fun _ hk => hk.2) (.string ((rd_T48 x231000_1 (ji55)).f0))) (fun _ h_ => h_.1)))); (case side2 => exact (Kd.R_reads' HO_231000.out).2.1); rintro e w75 ⟨rfl, hb⟩; refine ⟨_, rfl, ?_⟩; have n0_ := Aside0.mk (Kd.R_below (by (with_reducible repeat (first | apply Kd.R_alloc | apply Kd.R_drewN | apply Kd.R_drew)); exact (Kd.R_mono (Kd.R_far (p := ⟨gb230, 2, none⟩) (Kd.R_types HO_231000.out BK230.out (by decide)) (fun _ hk => hk.2) (.string ((rd_T48 x231000_1 (ji55)).f0))) (fun _ h_ => h_.1))) hb); have n1_ := Aside0.mk (blk_below (g := gb227) (o := .cells #[.slice none 0 0, .int .i64 x228001_1, .string x228002_1, .int .u32 x228003_1, .bool x228004_1] 27 (0, 0)) (by (with_reducible repeat (first | refine blk_drewN ?_ _ | refine blk_drew ?_ | refine blk_alloc ?_ _ | refine blk_far ?_ NB227_230.out _)); exact BK227.out) hb); have n2_ := Aside0.mk (blk_below (g := gb230) (o := .cells #[.slice (some ad236) x231000_1.length co74, .int .i64 (wrap64 (bt a0 8)), .string ((rd_T48 x231000_1 (ji55)).f0), .int .u32 ((t228) % 4294967296), .bool ((bt a0 10) == 1)] 27 (0, 0)) (by (with_reducible repeat (first | refine blk_drewN ?_ _ | refine blk_drew ?_ | refine blk_alloc ?_ _)); refine blk_put (cs := #[.slice (some ad236) x231000_1.length co74, .int .i64 (wrap64 (bt a0 8)), .string (⟨#[]⟩ : ByteArray), .int .u32 ((t228) % 4294967296), .bool ((bt a0 10) == 1)]) ?_ 2 _ rfl; (with_reducible repeat (first | refine blk_drewN ?_ _ | refine blk_drew ?_ | refine blk_alloc ?_ _)); exact BK230.out) hb); have n3_ := Aside0.mk (below_step (hb_ HB) hb); clear HO_231000; clear BK227; clear BK230; clear HB; have HO_231000 := n0_; have BK227 := n1_; have BK230 := n2_; have HB := n3_; clear n0_ n1_ n2_ n3_; (try clear hb); (try clear hb2); (try clear hk); (try clear hi); have hcz76_0 : w75.cell? ⟨gb227, 0, none⟩ = some (.slice none 0 0) := (blk_cell BK227.out 0).trans rfl; have hcz76_1 : w75.cell? ⟨gb227, 1, none⟩ = some (.int .i64 x228001_1) := (blk_cell BK227.out 1).trans rfl; have hcz76_2 : w75.cell? ⟨gb227, 2, none⟩ = some (.string x228002_1) := (blk_cell BK227.out 2).trans rfl; have hcz76_3 : w75.cell? ⟨gb227, 3, none⟩ = some (.int .u32 x228003_1) := (blk_cell BK227.out 3).trans rfl; have hcz76_4 : w75.cell? ⟨gb227, 4, none⟩ = some (.bool x228004_1) := (blk_cell BK227.out 4).trans rfl; have hfz76_0 := blk_frozen BK227.out 0; have hfz76_1 := blk_frozen BK227.out 1; have hfz76_2 := blk_frozen BK227.out 2; have hfz76_3 := blk_frozen BK227.out 3; have hfz76_4 := blk_frozen BK227.out 4))
      refine bodyPost_ret (results_ct rfl _ _ gb227 27 #[.slice none 0 0, .int .i64 0, .string (⟨#[]⟩ : ByteArray), .int .u32 0, .bool false] (0, 0) _ rfl (by (with_reducible repeat (first | refine blk_drewN ?_ _ | refine blk_drew ?_ | refine blk_alloc ?_ _)); refine blk_put (cs := #[.slice none 0 0, .int .i64 0, .string (⟨#[]⟩ : ByteArray), .int .u32 0, .bool x228004_1]) ?_ 4 _ rfl; (with_reducible repeat (first | refine blk_drewN ?_ _ | refine blk_drew ?_ | refine blk_alloc ?_ _)); refine blk_put (cs := #[.slice none 0 0, .int .i64 0, .string (⟨#[]⟩ : ByteArray), .int .u32 x228003_1, .bool x228004_1]) ?_ 3 _ rfl; (with_reducible repeat (first | refine blk_drewN ?_ _ | refine blk_drew ?_ | refine blk_alloc ?_ _)); refine blk_put (cs := #[.slice none 0 0, .int .i64 0, .string x228002_1, .int .u32 x228003_1, .bool x228004_1]) ?_ 2 _ rfl; (with_reducible repeat (first | refine blk_drewN ?_ _ | refine blk_drew ?_ | refine blk_alloc ?_ _)); refine blk_put (cs := #[.slice none 0 0, .int .i64 x228001_1, .string x228002_1, .int .u32 x228003_1, .bool x228004_1]) ?_ 1 _ rfl; (with_reducible repeat (first | refine blk_drewN ?_ _ | refine blk_drew ?_ | refine blk_alloc ?_ _)); refine blk_put (cs := #[.slice none 0 0, .int .i64 x228001_1, .string x228002_1, .int .u32 x228003_1, .bool x228004_1]) ?_ 0 _ rfl; (with_reducible repeat (first | refine blk_drewN ?_ _ | refine blk_drew ?_ | refine blk_alloc ?_ _)); exact BK227.out) Tryd.underlying27 rfl (by kernel_rfl)) rfl ?_
      exact ⟨_, by first | rfl | (simp [errW_none, errW_some] <;> rfl) | (simp only [← hji55]; first | rfl | (simp [errW_none, errW_some] <;> rfl)) | (simp [*, errW_none, errW_some] <;> rfl) | (simp [bt, *]; done) | (unfold bt; simp [*]; done), by first | exact Kd.R_nil _ _ _ _ _ | exact Kd.N_nil _ _ _ _ _ | exact Kd.V_nil _ _ _ _ _ | exact Kd.Q_nil _ _ _ _ _ | exact Kd.S_nil _ _ _ _ _, by repeat (first | (with_reducible first | exact HB.out | apply below_alloc | apply pw_below_drewN | apply below_drew1 | refine below_set ?_ GE227.out | refine below_set ?_ GE230.out) | exact HB.out)⟩
     rw [if_pos c59] at H
     have c59b0 : (t238 == 0) = true := beq_iff_eq.mpr c59
     have c59b1 : (t238 != 0) = false := bne_eq_false_iff_eq.mpr c59
     clear c59
     refine neg_first (p := (t237.toList = a0.toList)) (fun c60 => ?_) (fun c60 => ?_)
     ·rw [if_neg c60] at H
      have c60b0 : (t237.toList == a0.toList) = false := beq_eq_false_iff_ne.mpr c60
      have c60b1 : (t237.toList != a0.toList) = true := bne_iff_ne.mpr c60
      simp only [Option.some.injEq, Prod.mk.injEq] at H
      obtain ⟨rfl, rfl, rfl, rfl, rfl, rfl⟩ := H
      have p48 : 0 ≤ (9 : Int) := (by omega)
      have q48 : 9 < a0.size := (by have : (9 : Int) < (a0.size : Int) := of_decide_eq_true (by first | (with_reducible assumption) | assumption); omega)
      have hx48 : ∀ h : 9 < a0.size, ((a0[9]'h).toNat : Int) = bt a0 9 := bt_at a0 9
      clear p48
      have qi48 : (9 < (a0.size : Int)) = True := eq_true (of_decide_eq_true (by first | (with_reducible assumption) | assumption))
      replace q48 := eq_true q48
      have hnb67 := NB230_227.out
      have hnc67 := NB227_230.out
      have hcz68_0 : wc.cell? ⟨gb230, 0, none⟩ = some (u231000) := (blk_cell BK230.out 0).trans rfl
      have hcz68_1 : wc.cell? ⟨gb230, 1, none⟩ = some (.int .i64 (wrap64 (bt a0 8))) := (blk_cell BK230.out 1).trans rfl
      have hcz68_2 : wc.cell? ⟨gb230, 2, none⟩ = some (.string (⟨#[]⟩ : ByteArray)) := (blk_cell BK230.out 2).trans rfl
      have hcz68_3 : wc.cell? ⟨gb230, 3, none⟩ = some (.int .u32 ((t228) % 4294967296)) := (blk_cell BK230.out 3).trans rfl
      have hcz68_4 : wc.cell? ⟨gb230, 4, none⟩ = some (.bool ((bt a0 10) == 1)) := (blk_cell BK230.out 4).trans rfl
      have hfz68_0 := blk_frozen BK230.out 0
      have hfz68_1 := blk_frozen BK230.out 1
      have hfz68_2 := blk_frozen BK230.out 2
      have hfz68_3 := blk_frozen BK230.out 3
      have hfz68_4 := blk_frozen BK230.out 4
      obtain ⟨Ao69, co69, eo69⟩ := Kd.R_slice HO_231000.out
      subst eo69
      have p236 : 0 ≤ ((ji55) : Int) := of_decide_eq_true (by first | (with_reducible assumption) | assumption)
      have q236 : (ji55) < (x231000_1.length : Int) := of_decide_eq_true (by first | (with_reducible assumption) | assumption)
      obtain ⟨ad236, e236, hx236_0, hx236_1⟩ := at_T48 (Kd.R_reads' HO_231000.out).2.2 (ji55) p236 q236
      cases e236
      replace p236 := eq_true p236
      replace q236 := eq_true q236
      go_wp2_with (first | ((with_reducible refine gate_callee (f := 12) rfl ?_); refine goesL_ (some 120) rfl rfl Tryd.func12 (by kernel_rfl) rfl #[.agg #[.slice (some ad236) x231000_1.length co69, .int .i64 (wrap64 (bt a0 8)), .string ((rd_T48 x231000_1 (ji55)).f0), .int .u32 ((t228) % 4294967296), .bool ((bt a0 10) == 1)]] rfl (by (try simp only [List.map_toArray, List.map_cons, List.map_nil]); first | done | (simp only [hji55]; rfl) | rfl | (simp only [List.length_drop, List.length_take]; rfl)) ?_; (with_reducible refine (headgateref12_Encode.calls kj17 _ _ x231000_1 (wrap64 (bt a0 8)) ((rd_T48 x231000_1 (ji55)).f0) ((t228) % 4294967296) ((bt a0 10) == 1) t237 t238 _ ?side1 ?side2 A58.out).mono ?_); (case side1 => refine (Kd.R_reads' (e := 48) (base := w.heap.size) (ok := fun k_ => True) (n := x231000_1.length) (c := co69) ?_).2.2; exact (by (with_reducible repeat (first | apply Kd.R_alloc | apply Kd.R_drewN | apply Kd.R_drew)); exact (Kd.R_mono (Kd.R_far (p := ⟨gb230, 2, none⟩) (Kd.R_types HO_231000.out BK230.out (by decide)) (fun _ hk => hk.2) (.string ((rd_T48 x231000_1 (ji55)).f0))) (fun _ h_ => h_.1)))); (case side2 => exact (Kd.R_reads' HO_231000.out).2.1); rintro e w70 ⟨rfl, hb⟩; refine ⟨_, rfl, ?_⟩; have n0_ := Aside0.mk (Kd.R_below (by (with_reducible repeat (first | apply Kd.R_alloc | apply Kd.R_drewN | apply Kd.R_drew)); exact (Kd.R_mono (Kd.R_far (p := ⟨gb230, 2, none⟩) (Kd.R_types HO_231000.out BK230.out (by decide)) (fun _ hk => hk.2) (.string ((rd_T48 x231000_1 (ji55)).f0))) (fun _ h_ => h_.1))) hb); have n1_ := Aside0.mk (blk_below (g := gb227) (o := .cells #[.slice none 0 0, .int .i64 x228001_1, .string x228002_1, .int .u32 x228003_1, .bool x228004_1] 27 (0, 0)) (by (with_reducible repeat (first | refine blk_drewN ?_ _ | refine blk_drew ?_ | refine blk_alloc ?_ _ | refine blk_far ?_ NB227_230.out _)); exact BK227.out) hb); have n2_ := Aside0.mk (blk_below (g := gb230) (o := .cells #[.slice (some ad236) x231000_1.length co69, .int .i64 (wrap64 (bt a0 8)), .string ((rd_T48 x231000_1 (ji55)).f0), .int .u32 ((t228) % 4294967296), .bool ((bt a0 10) == 1)] 27 (0, 0)) (by (with_reducible repeat (first | refine blk_drewN ?_ _ | refine blk_drew ?_ | refine blk_alloc ?_ _)); refine blk_put (cs := #[.slice (some ad236) x231000_1.length co69, .int .i64 (wrap64 (bt a0 8)), .string (⟨#[]⟩ : ByteArray), .int .u32 ((t228) % 4294967296), .bool ((bt a0 10) == 1)]) ?_ 2 _ rfl; (with_reducible repeat (first | refine blk_drewN ?_ _ | refine blk_drew ?_ | refine blk_alloc ?_ _)); exact BK230.out) hb); have n3_ := Aside0.mk (below_step (hb_ HB) hb); clear HO_231000; clear BK227; clear BK230; clear HB; have HO_231000 := n0_; have BK227 := n1_; have BK230 := n2_; have HB := n3_; clear n0_ n1_ n2_ n3_; (try clear hb); (try clear hb2); (try clear hk); (try clear hi); have hcz71_0 : w70.cell? ⟨gb227, 0, none⟩ = some (.slice none 0 0) := (blk_cell BK227.out 0).trans rfl; have hcz71_1 : w70.cell? ⟨gb227, 1, none⟩ = some (.int .i64 x228001_1) := (blk_cell BK227.out 1).trans rfl; have hcz71_2 : w70.cell? ⟨gb227, 2, none⟩ = some (.string x228002_1) := (blk_cell BK227.out 2).trans rfl; have hcz71_3 : w70.cell? ⟨gb227, 3, none⟩ = some (.int .u32 x228003_1) := (blk_cell BK227.out 3).trans rfl; have hcz71_4 : w70.cell? ⟨gb227, 4, none⟩ = some (.bool x228004_1) := (blk_cell BK227.out 4).trans rfl; have hfz71_0 := blk_frozen BK227.out 0; have hfz71_1 := blk_frozen BK227.out 1; have hfz71_2 := blk_frozen BK227.out 2; have hfz71_3 := blk_frozen BK227.out 3; have hfz71_4 := blk_frozen BK227.out 4))
      refine bodyPost_ret (results_ct rfl _ _ gb227 27 #[.slice none 0 0, .int .i64 0, .string (⟨#[]⟩ : ByteArray), .int .u32 0, .bool false] (0, 0) _ rfl (by (with_reducible repeat (first | refine blk_drewN ?_ _ | refine blk_drew ?_ | refine blk_alloc ?_ _)); refine blk_put (cs := #[.slice none 0 0, .int .i64 0, .string (⟨#[]⟩ : ByteArray), .int .u32 0, .bool x228004_1]) ?_ 4 _ rfl; (with_reducible repeat (first | refine blk_drewN ?_ _ | refine blk_drew ?_ | refine blk_alloc ?_ _)); refine blk_put (cs := #[.slice none 0 0, .int .i64 0, .string (⟨#[]⟩ : ByteArray), .int .u32 x228003_1, .bool x228004_1]) ?_ 3 _ rfl; (with_reducible repeat (first | refine blk_drewN ?_ _ | refine blk_drew ?_ | refine blk_alloc ?_ _)); refine blk_put (cs := #[.slice none 0 0, .int .i64 0, .string x228002_1, .int .u32 x228003_1, .bool x228004_1]) ?_ 2 _ rfl; (with_reducible repeat (first | refine blk_drewN ?_ _ | refine blk_drew ?_ | refine blk_alloc ?_ _)); refine blk_put (cs := #[.slice none 0 0, .int .i64 x228001_1, .string x228002_1, .int .u32 x228003_1, .bool x228004_1]) ?_ 1 _ rfl; (with_reducible repeat (first | refine blk_drewN ?_ _ | refine blk_drew ?_ | refine blk_alloc ?_ _)); refine blk_put (cs := #[.slice none 0 0, .int .i64 x228001_1, .string x228002_1, .int .u32 x228003_1, .bool x228004_1]) ?_ 0 _ rfl; (with_reducible repeat (first | refine blk_drewN ?_ _ | refine blk_drew ?_ | refine blk_alloc ?_ _)); exact BK227.out) Tryd.underlying27 rfl (by kernel_rfl)) rfl ?_
      exact ⟨_, by first | rfl | (simp [errW_none, errW_some] <;> rfl) | (simp only [← hji55]; first | rfl | (simp [errW_none, errW_some] <;> rfl)) | (simp [*, errW_none, errW_some] <;> rfl) | (simp [bt, *]; done) | (unfold bt; simp [*]; done), by first | exact Kd.R_nil _ _ _ _ _ | exact Kd.N_nil _ _ _ _ _ | exact Kd.V_nil _ _ _ _ _ | exact Kd.Q_nil _ _ _ _ _ | exact Kd.S_nil _ _ _ _ _, by repeat (first | (with_reducible first | exact HB.out | apply below_alloc | apply pw_below_drewN | apply below_drew1 | refine below_set ?_ GE227.out | refine below_set ?_ GE230.out) | exact HB.out)⟩
     rw [if_pos c60] at H
     have c60b0 : (t237.toList == a0.toList) = true := beq_iff_eq.mpr c60
     have c60b1 : (t237.toList != a0.toList) = false := bne_eq_false_iff_eq.mpr c60
     clear c60
     simp only [Option.some.injEq, Prod.mk.injEq] at H
     obtain ⟨rfl, rfl, rfl, rfl, rfl, rfl⟩ := H
     have p48 : 0 ≤ (9 : Int) := (by omega)
     have q48 : 9 < a0.size := (by have : (9 : Int) < (a0.size : Int) := of_decide_eq_true (by first | (with_reducible assumption) | assumption); omega)
     have hx48 : ∀ h : 9 < a0.size, ((a0[9]'h).toNat : Int) = bt a0 9 := bt_at a0 9
     clear p48
     have qi48 : (9 < (a0.size : Int)) = True := eq_true (of_decide_eq_true (by first | (with_reducible assumption) | assumption))
     replace q48 := eq_true q48
     have hnb61 := NB230_227.out
     have hnc61 := NB227_230.out
     have hcz62_0 : wc.cell? ⟨gb230, 0, none⟩ = some (u231000) := (blk_cell BK230.out 0).trans rfl
     have hcz62_1 : wc.cell? ⟨gb230, 1, none⟩ = some (.int .i64 (wrap64 (bt a0 8))) := (blk_cell BK230.out 1).trans rfl
     have hcz62_2 : wc.cell? ⟨gb230, 2, none⟩ = some (.string (⟨#[]⟩ : ByteArray)) := (blk_cell BK230.out 2).trans rfl
     have hcz62_3 : wc.cell? ⟨gb230, 3, none⟩ = some (.int .u32 ((t228) % 4294967296)) := (blk_cell BK230.out 3).trans rfl
     have hcz62_4 : wc.cell? ⟨gb230, 4, none⟩ = some (.bool ((bt a0 10) == 1)) := (blk_cell BK230.out 4).trans rfl
     have hfz62_0 := blk_frozen BK230.out 0
     have hfz62_1 := blk_frozen BK230.out 1
     have hfz62_2 := blk_frozen BK230.out 2
     have hfz62_3 := blk_frozen BK230.out 3
     have hfz62_4 := blk_frozen BK230.out 4
     obtain ⟨Ao63, co63, eo63⟩ := Kd.R_slice HO_231000.out
     subst eo63
     have p236 : 0 ≤ ((ji55) : Int) := of_decide_eq_true (by first | (with_reducible assumption) | assumption)
     have q236 : (ji55) < (x231000_1.length : Int) := of_decide_eq_true (by first | (with_reducible assumption) | assumption)
     obtain ⟨ad236, e236, hx236_0, hx236_1⟩ := at_T48 (Kd.R_reads' HO_231000.out).2.2 (ji55) p236 q236
     cases e236
     replace p236 := eq_true p236
     replace q236 := eq_true q236
     go_wp2_with (first | ((with_reducible refine gate_callee (f := 12) rfl ?_); refine goesL_ (some 120) rfl rfl Tryd.func12 (by kernel_rfl) rfl #[.agg #[.slice (some ad236) x231000_1.length co63, .int .i64 (wrap64 (bt a0 8)), .string ((rd_T48 x231000_1 (ji55)).f0), .int .u32 ((t228) % 4294967296), .bool ((bt a0 10) == 1)]] rfl (by (try simp only [List.map_toArray, List.map_cons, List.map_nil]); first | done | (simp only [hji55]; rfl) | rfl | (simp only [List.length_drop, List.length_take]; rfl)) ?_; (with_reducible refine (headgateref12_Encode.calls kj17 _ _ x231000_1 (wrap64 (bt a0 8)) ((rd_T48 x231000_1 (ji55)).f0) ((t228) % 4294967296) ((bt a0 10) == 1) t237 t238 _ ?side1 ?side2 A58.out).mono ?_); (case side1 => refine (Kd.R_reads' (e := 48) (base := w.heap.size) (ok := fun k_ => True) (n := x231000_1.length) (c := co63) ?_).2.2; exact (by (with_reducible repeat (first | apply Kd.R_alloc | apply Kd.R_drewN | apply Kd.R_drew)); exact (Kd.R_mono (Kd.R_far (p := ⟨gb230, 2, none⟩) (Kd.R_types HO_231000.out BK230.out (by decide)) (fun _ hk => hk.2) (.string ((rd_T48 x231000_1 (ji55)).f0))) (fun _ h_ => h_.1)))); (case side2 => exact (Kd.R_reads' HO_231000.out).2.1); rintro e w64 ⟨rfl, hb⟩; refine ⟨_, rfl, ?_⟩; have n0_ := Aside0.mk (Kd.R_below (by (with_reducible repeat (first | apply Kd.R_alloc | apply Kd.R_drewN | apply Kd.R_drew)); exact (Kd.R_mono (Kd.R_far (p := ⟨gb230, 2, none⟩) (Kd.R_types HO_231000.out BK230.out (by decide)) (fun _ hk => hk.2) (.string ((rd_T48 x231000_1 (ji55)).f0))) (fun _ h_ => h_.1))) hb); have n1_ := Aside0.mk (blk_below (g := gb227) (o := .cells #[.slice none 0 0, .int .i64 x228001_1, .string x228002_1, .int .u32 x228003_1, .bool x228004_1] 27 (0, 0)) (by (with_reducible repeat (first | refine blk_drewN ?_ _ | refine blk_drew ?_ | refine blk_alloc ?_ _ | refine blk_far ?_ NB227_230.out _)); exact BK227.out) hb); have n2_ := Aside0.mk (blk_below (g := gb230) (o := .cells #[.slice (some ad236) x231000_1.length co63, .int .i64 (wrap64 (bt a0 8)), .string ((rd_T48 x231000_1 (ji55)).f0), .int .u32 ((t228) % 4294967296), .bool ((bt a0 10) == 1)] 27 (0, 0)) (by (with_reducible repeat (first | refine blk_drewN ?_ _ | refine blk_drew ?_ | refine blk_alloc ?_ _)); refine blk_put (cs := #[.slice (some ad236) x231000_1.length co63, .int .i64 (wrap64 (bt a0 8)), .string (⟨#[]⟩ : ByteArray), .int .u32 ((t228) % 4294967296), .bool ((bt a0 10) == 1)]) ?_ 2 _ rfl; (with_reducible repeat (first | refine blk_drewN ?_ _ | refine blk_drew ?_ | refine blk_alloc ?_ _)); exact BK230.out) hb); have n3_ := Aside0.mk (below_step (hb_ HB) hb); clear HO_231000; clear BK227; clear BK230; clear HB; have HO_231000 := n0_; have BK227 := n1_; have BK230 := n2_; have HB := n3_; clear n0_ n1_ n2_ n3_; (try clear hb); (try clear hb2); (try clear hk); (try clear hi); have hcz65_0 : w64.cell? ⟨gb230, 0, none⟩ = some (.slice (some ad236) x231000_1.length co63) := (blk_cell BK230.out 0).trans rfl; have hcz65_1 : w64.cell? ⟨gb230, 1, none⟩ = some (.int .i64 (wrap64 (bt a0 8))) := (blk_cell BK230.out 1).trans rfl; have hcz65_2 : w64.cell? ⟨gb230, 2, none⟩ = some (.string ((rd_T48 x231000_1 (ji55)).f0)) := (blk_cell BK230.out 2).trans rfl; have hcz65_3 : w64.cell? ⟨gb230, 3, none⟩ = some (.int .u32 ((t228) % 4294967296)) := (blk_cell BK230.out 3).trans rfl; have hcz65_4 : w64.cell? ⟨gb230, 4, none⟩ = some (.bool ((bt a0 10) == 1)) := (blk_cell BK230.out 4).trans rfl; have hfz65_0 := blk_frozen BK230.out 0; have hfz65_1 := blk_frozen BK230.out 1; have hfz65_2 := blk_frozen BK230.out 2; have hfz65_3 := blk_frozen BK230.out 3; have hfz65_4 := blk_frozen BK230.out 4; have hcz66_0 : w64.cell? ⟨gb227, 0, none⟩ = some (.slice none 0 0) := (blk_cell BK227.out 0).trans rfl; have hcz66_1 : w64.cell? ⟨gb227, 1, none⟩ = some (.int .i64 x228001_1) := (blk_cell BK227.out 1).trans rfl; have hcz66_2 : w64.cell? ⟨gb227, 2, none⟩ = some (.string x228002_1) := (blk_cell BK227.out 2).trans rfl; have hcz66_3 : w64.cell? ⟨gb227, 3, none⟩ = some (.int .u32 x228003_1) := (blk_cell BK227.out 3).trans rfl; have hcz66_4 : w64.cell? ⟨gb227, 4, none⟩ = some (.bool x228004_1) := (blk_cell BK227.out 4).trans rfl; have hfz66_0 := blk_frozen BK227.out 0; have hfz66_1 := blk_frozen BK227.out 1; have hfz66_2 := blk_frozen BK227.out 2; have hfz66_3 := blk_frozen BK227.out 3; have hfz66_4 := blk_frozen BK227.out 4))
     refine bodyPost_ret (results_ct rfl _ _ gb227 27 #[.slice (some ad236) x231000_1.length co63, .int .i64 (wrap64 (bt a0 8)), .string ((rd_T48 x231000_1 (ji55)).f0), .int .u32 ((t228) % 4294967296), .bool ((bt a0 10) == 1)] (0, 0) _ rfl (by (with_reducible repeat (first | refine blk_drewN ?_ _ | refine blk_drew ?_ | refine blk_alloc ?_ _)); refine blk_put (cs := #[.slice (some ad236) x231000_1.length co63, .int .i64 (wrap64 (bt a0 8)), .string ((rd_T48 x231000_1 (ji55)).f0), .int .u32 ((t228) % 4294967296), .bool x228004_1]) ?_ 4 _ rfl; (with_reducible repeat (first | refine blk_drewN ?_ _ | refine blk_drew ?_ | refine blk_alloc ?_ _)); refine blk_put (cs := #[.slice (some ad236) x231000_1.length co63, .int .i64 (wrap64 (bt a0 8)), .string ((rd_T48 x231000_1 (ji55)).f0), .int .u32 x228003_1, .bool x228004_1]) ?_ 3 _ rfl; (with_reducible repeat (first | refine blk_drewN ?_ _ | refine blk_drew ?_ | refine blk_alloc ?_ _)); refine blk_put (cs := #[.slice (some ad236) x231000_1.length co63, .int .i64 (wrap64 (bt a0 8)), .string x228002_1, .int .u32 x228003_1, .bool x228004_1]) ?_ 2 _ rfl; (with_reducible repeat (first | refine blk_drewN ?_ _ | refine blk_drew ?_ | refine blk_alloc ?_ _)); refine blk_put (cs := #[.slice (some ad236) x231000_1.length co63, .int .i64 x228001_1, .string x228002_1, .int .u32 x228003_1, .bool x228004_1]) ?_ 1 _ rfl; (with_reducible repeat (first | refine blk_drewN ?_ _ | refine blk_drew ?_ | refine blk_alloc ?_ _)); refine blk_put (cs := #[.slice none 0 0, .int .i64 x228001_1, .string x228002_1, .int .u32 x228003_1, .bool x228004_1]) ?_ 0 _ rfl; (with_reducible repeat (first | refine blk_drewN ?_ _ | refine blk_drew ?_ | refine blk_alloc ?_ _)); exact BK227.out) Tryd.underlying27 rfl (by kernel_rfl)) rfl ?_
     exact ⟨_, by first | rfl | (simp [errW_none, errW_some] <;> rfl) | (simp only [← hji55]; first | rfl | (simp [errW_none, errW_some] <;> rfl)) | (simp [*, errW_none, errW_some] <;> rfl) | (simp [bt, *]; done) | (unfold bt; simp [*]; done), by (with_reducible repeat (first | apply Kd.R_alloc | apply Kd.R_drewN | apply Kd.R_drew)); exact Kd.R_mono (Kd.R_far (p := ⟨gb227, 4, none⟩) (Kd.R_far (p := ⟨gb227, 3, none⟩) (Kd.R_far (p := ⟨gb227, 2, none⟩) (Kd.R_far (p := ⟨gb227, 1, none⟩) (Kd.R_far (p := ⟨gb227, 0, none⟩) (Kd.R_types HO_231000.out BK227.out (by decide)) (fun _ hk => hk.2) (.slice (some ad236) x231000_1.length co63)) (fun _ hk => hk.2) (.int .i64 (wrap64 (bt a0 8)))) (fun _ hk => hk.2) (.string ((rd_T48 x231000_1 (ji55)).f0))) (fun _ hk => hk.2) (.int .u32 ((t228) % 4294967296))) (fun _ hk => hk.2) (.bool ((bt a0 10) == 1))) (fun _ hk => trivial), by repeat (first | (with_reducible first | exact HB.out | apply below_alloc | apply pw_below_drewN | apply below_drew1 | refine below_set ?_ GE227.out | refine below_set ?_ GE230.out) | exact HB.out)⟩
end Go.Proofs.YtmpicpenbhdbhaaDoor.P
