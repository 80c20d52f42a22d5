-- written by this session's patched copy of the printer (wip/tools/patch_print.py); Lean checks it
import Derived.Test.YtkbjhblffbcleaaDoorPx0
import Derived.Test.YtkbjhblffbcleaaDoorPx5
import Derived.Test.YtkbjhblffbcleaaDoorPx6
namespace Go.Proofs.YtkbjhblffbcleaaDoor.P
open Go.RowKit Go.Proofs.YtkbjhblffbcleaaDoorW.PrintWords Go.Proofs.YtkbjhblffbcleaaDoorW.PrintLast Go.Proofs.YtkbjhblffbcleaaDoorW.PrintMore
attribute [local go_sem] max2_int min2_int max_two min_two max_three min_three max_four min_four   -- for this text's walks alone
set_option linter.unusedVariables false
set_option linter.unusedSimpArgs false
set_option linter.unnecessarySimpa false

/-! ### headgateref29_common: function 25 -/
mutual
def headgateref29_common.j0 : Nat → Int → Int → Int → Bool → Bool → Int → Int → Int → Int → Option (ByteArray)
 | 0, _, _, _, _, _, _, _, _, _ => none
 | k + 1, x0, x1, x2, x4, x22, x172000, x172001, x172002, x172003 => if x22 = true then (headgateref29_common.j1 k x0 (wrap64 (x1 + 1)) x2 x4 x172000 x172001 x172002 x172003) else (headgateref29_common.j1 k x0 x1 x2 x4 x172000 x172001 x172002 x172003)
def headgateref29_common.j1 : Nat → Int → Int → Int → Bool → Int → Int → Int → Int → Option (ByteArray)
 | 0, _, _, _, _, _, _, _, _ => none
 | k + 1, x0, x1, x2, x4, x172000, x172001, x172002, x172003 => if x4 = true then (if x0 > 3 then (headgateref29_common.j2 k x0 x1 x2 (decide (x2 > 0)) x172000 x172001 x172002 x172003) else (headgateref29_common.j2 k x0 x1 x2 false x172000 x172001 x172002 x172003)) else (headgateref29_common.j2 k x0 x1 x2 false x172000 x172001 x172002 x172003)
def headgateref29_common.j2 : Nat → Int → Int → Int → Bool → Int → Int → Int → Int → Option (ByteArray)
 | 0, _, _, _, _, _, _, _, _ => none
 | k + 1, x0, x1, x2, x33, x172000, x172001, x172002, x172003 => if x33 = true then (if x2 > 0 then ((some (([(x0) % 256, (wrap64 (x1 + 2)) % 256, (x172000) % 256, (x172001) % 256] : List Int) : List Int)).bind fun y172 => ((headgateref01_PutLittle.f k (IntKind.u64.wrap (x172003)) 4).bind fun t175 => (if (strOfNums y172).size + t175.size ≤ 9223372036854775807 then (some ((strOfNums y172) ++ t175)) else (none)))) else ((some (([(x0) % 256, (wrap64 (x1 + 2)) % 256, (x172000) % 256, 0] : List Int) : List Int)).bind fun y176 => ((headgateref01_PutLittle.f k (IntKind.u64.wrap (x172003)) 4).bind fun t179 => (if (strOfNums y176).size + t179.size ≤ 9223372036854775807 then (some ((strOfNums y176) ++ t179)) else (none))))) else (if x2 > 0 then ((some (([(x0) % 256, (x1) % 256, (x172000) % 256, (x172001) % 256] : List Int) : List Int)).bind fun y180 => ((headgateref01_PutLittle.f k (IntKind.u64.wrap (x172003)) 4).bind fun t183 => (if (strOfNums y180).size + t183.size ≤ 9223372036854775807 then (some ((strOfNums y180) ++ t183)) else (none)))) else ((some (([(x0) % 256, (x1) % 256, (x172000) % 256, 0] : List Int) : List Int)).bind fun y184 => ((headgateref01_PutLittle.f k (IntKind.u64.wrap (x172003)) 4).bind fun t187 => (if (strOfNums y184).size + t187.size ≤ 9223372036854775807 then (some ((strOfNums y184) ++ t187)) else (none)))))
end
def headgateref29_common.f (k : Nat) (a0 : Int) (a1 : Int) (a2 : Int) (a3 : Bool) (a4 : Bool) : Option (ByteArray) := (headgateref29_planned.f k a0 a2 a3 a4).bind fun bt167 => (if a3 = true then (headgateref29_common.j0 k a0 a1 a2 a4 (decide (a0 > 3)) bt167.1 bt167.2.1 bt167.2.2.1 bt167.2.2.2) else (headgateref29_common.j0 k a0 a1 a2 a4 false bt167.1 bt167.2.1 bt167.2.2.1 bt167.2.2.2))
theorem headgateref29_common.mono_l : ∀ k, (∀ y0 y1 y2 y3 y4 y5 y6 y7 y8, LeO (headgateref29_common.j0 k y0 y1 y2 y3 y4 y5 y6 y7 y8) (headgateref29_common.j0 (k + 1) y0 y1 y2 y3 y4 y5 y6 y7 y8)) ∧ (∀ y0 y1 y2 y3 y4 y5 y6 y7, LeO (headgateref29_common.j1 k y0 y1 y2 y3 y4 y5 y6 y7) (headgateref29_common.j1 (k + 1) y0 y1 y2 y3 y4 y5 y6 y7)) ∧ (∀ y0 y1 y2 y3 y4 y5 y6 y7, LeO (headgateref29_common.j2 k y0 y1 y2 y3 y4 y5 y6 y7) (headgateref29_common.j2 (k + 1) y0 y1 y2 y3 y4 y5 y6 y7))
 | 0 => ⟨fun _ _ _ _ _ _ _ _ _ r h => by simp [headgateref29_common.j0] at h, fun _ _ _ _ _ _ _ _ r h => by simp [headgateref29_common.j1] at h, fun _ _ _ _ _ _ _ _ r h => by simp [headgateref29_common.j2] at h⟩
 | k + 1 => by
  obtain ⟨ih0, ih1, ih2⟩ := headgateref29_common.mono_l k
  refine ⟨?_, ?_, ?_⟩
  ·intro y0 y1 y2 y3 y4 y5 y6 y7 y8
   unfold headgateref29_common.j0
   repeat' first
   | (with_reducible exact ih0 _ _ _ _ _ _ _ _ _)
   | (with_reducible exact ih1 _ _ _ _ _ _ _ _)
   | (with_reducible exact ih2 _ _ _ _ _ _ _ _)
   | (with_reducible exact headgateref01_PutLittle.mono _ _ _)
   | (with_reducible exact headgateref29_planned.mono _ _ _ _ _)
   | (with_reducible exact LeO.refl _)
   | (with_reducible exact LeO.none _)
   | (with_reducible refine LeO.ite ?_ ?_)
   | (with_reducible refine LeO.bind ?_ (fun _ => ?_))
   | exact ih0 _ _ _ _ _ _ _ _ _
   | exact ih1 _ _ _ _ _ _ _ _
   | exact ih2 _ _ _ _ _ _ _ _
   | exact headgateref01_PutLittle.mono _ _ _
   | exact headgateref29_planned.mono _ _ _ _ _
   | exact LeO.none _
   | refine LeO.ite ?_ ?_
   | refine LeO.bind ?_ (fun _ => ?_)
  ·intro y0 y1 y2 y3 y4 y5 y6 y7
   unfold headgateref29_common.j1
   repeat' first
   | (with_reducible exact ih0 _ _ _ _ _ _ _ _ _)
   | (with_reducible exact ih1 _ _ _ _ _ _ _ _)
   | (with_reducible exact ih2 _ _ _ _ _ _ _ _)
   | (with_reducible exact headgateref01_PutLittle.mono _ _ _)
   | (with_reducible exact headgateref29_planned.mono _ _ _ _ _)
   | (with_reducible exact LeO.refl _)
   | (with_reducible exact LeO.none _)
   | (with_reducible refine LeO.ite ?_ ?_)
   | (with_reducible refine LeO.bind ?_ (fun _ => ?_))
   | exact ih0 _ _ _ _ _ _ _ _ _
   | exact ih1 _ _ _ _ _ _ _ _
   | exact ih2 _ _ _ _ _ _ _ _
   | exact headgateref01_PutLittle.mono _ _ _
   | exact headgateref29_planned.mono _ _ _ _ _
   | exact LeO.none _
   | refine LeO.ite ?_ ?_
   | refine LeO.bind ?_ (fun _ => ?_)
  ·intro y0 y1 y2 y3 y4 y5 y6 y7
   unfold headgateref29_common.j2
   repeat' first
   | (with_reducible exact ih0 _ _ _ _ _ _ _ _ _)
   | (with_reducible exact ih1 _ _ _ _ _ _ _ _)
   | (with_reducible exact ih2 _ _ _ _ _ _ _ _)
   | (with_reducible exact headgateref01_PutLittle.mono _ _ _)
   | (with_reducible exact headgateref29_planned.mono _ _ _ _ _)
   | (with_reducible exact LeO.refl _)
   | (with_reducible exact LeO.none _)
   | (with_reducible refine LeO.ite ?_ ?_)
   | (with_reducible refine LeO.bind ?_ (fun _ => ?_))
   | exact ih0 _ _ _ _ _ _ _ _ _
   | exact ih1 _ _ _ _ _ _ _ _
   | exact ih2 _ _ _ _ _ _ _ _
   | exact headgateref01_PutLittle.mono _ _ _
   | exact headgateref29_planned.mono _ _ _ _ _
   | exact LeO.none _
   | refine LeO.ite ?_ ?_
   | refine LeO.bind ?_ (fun _ => ?_)
theorem headgateref29_common.mono : ∀ a0 a1 a2 a3 a4 k, LeO (headgateref29_common.f k a0 a1 a2 a3 a4) (headgateref29_common.f (k + 1) a0 a1 a2 a3 a4) := by
 intro a0 a1 a2 a3 a4 k
 obtain ⟨ih0, ih1, ih2⟩ := headgateref29_common.mono_l k
 unfold headgateref29_common.f
 repeat' first
   | (with_reducible exact ih0 _ _ _ _ _ _ _ _ _)
   | (with_reducible exact ih1 _ _ _ _ _ _ _ _)
   | (with_reducible exact ih2 _ _ _ _ _ _ _ _)
   | (with_reducible exact headgateref01_PutLittle.mono _ _ _)
   | (with_reducible exact headgateref29_planned.mono _ _ _ _ _)
   | (with_reducible exact LeO.refl _)
   | (with_reducible exact LeO.none _)
   | (with_reducible refine LeO.ite ?_ ?_)
   | (with_reducible refine LeO.bind ?_ (fun _ => ?_))
   | exact ih0 _ _ _ _ _ _ _ _ _
   | exact ih1 _ _ _ _ _ _ _ _
   | exact ih2 _ _ _ _ _ _ _ _
   | exact headgateref01_PutLittle.mono _ _ _
   | exact headgateref29_planned.mono _ _ _ _ _
   | exact LeO.none _
   | refine LeO.ite ?_ ?_
   | refine LeO.bind ?_ (fun _ => ?_)
def headgateref29_common.T9 : Bool × List (List Nat × List Nat) := (true, [([], []), ([0], [0]), ([], []), ([2], [2]), ([], []), ([4], [4]), ([5], [5]), ([], []), ([7], [7]), ([1, 3, 6, 8], [1, 3, 6, 8]), ([9], [9]), ([], []), ([11], [11]), ([12], [12]), ([13], [13]), ([10, 14], [10, 14]), ([15, 14, 0, 1, 2, 3, 4, 5, 6, 7, 8, 9, 10, 11, 12, 13, 14, 15], [15])])
def headgateref29_common.B9 : List Nat := [0, 1, 0, 4, 0, 16, 48, 0, 128, 511, 1023, 0, 2048, 6144, 14336, 32767, 65535]
theorem headgateref29_common.tab9 : rtab .any (opsOf Tryd.f25 9) = headgateref29_common.T9 := by kernel_rfl
theorem headgateref29_common.bits9 : waitsOk headgateref29_common.T9.2 headgateref29_common.B9 = true := by kernel_rfl
abbrev d25x0 : Array Bool := #[false, false, false, false, false, false, false, false, false, false, false, false, false, false, false, false, false]
abbrev d25x1 : Array Bool := dB 17 1
abbrev d25x2 : Array Bool := dB 17 3
abbrev d25x3 : Array Bool := dB 17 7
abbrev d25x4 : Array Bool := dB 17 15
abbrev d25x5 : Array Bool := dB 17 31
abbrev d25x6 : Array Bool := dB 17 159
abbrev d25x7 : Array Bool := dB 17 415
abbrev d25x8 : Array Bool := dB 17 2463
abbrev d25x9 : Array Bool := dB 17 2495
abbrev d25x10 : Array Bool := dB 17 2559
abbrev d25x11 : Array Bool := dB 17 6655
abbrev d25x12 : Array Bool := dB 17 14847
abbrev d25x13 : Array Bool := dB 17 31231
abbrev d25x14 : Array Bool := dB 17 15359
abbrev d25x15 : Array Bool := dB 17 31743
abbrev d25x16 : Array Bool := dB 17 16383
abbrev d25x17 : Array Bool := dB 17 32767
abbrev d25x18 : Array Bool := dB 17 65535
abbrev d25x19 : Array Bool := dB 17 131071
set_option maxHeartbeats 8000000 in
set_option maxRecDepth 100000 in
theorem headgateref29_common.calls (k : Nat) (a0 : Int) (a1 : Int) (a2 : Int) (a3 : Bool) (a4 : Bool) (r : ByteArray) (w : World) (h : headgateref29_common.f k a0 a1 a2 a3 a4 = some r) :
  Calls Tryd.prog 25 #[.int .i64 a0, .int .i64 a1, .int .i64 a2, .bool a3, .bool a4] w fun e w' => e = .returned (.string r) ∧ Below w.heap.size w w' := by
 have hu58 := Tryd.underlying58
 have HB := Aside0.mk (Below.refl w.heap.size w)
 have H : ((headgateref29_planned.f k a0 a2 a3 a4).bind fun bt167 => (if a3 = true then (headgateref29_common.j0 k a0 a1 a2 a4 (decide (a0 > 3)) bt167.1 bt167.2.1 bt167.2.2.1 bt167.2.2.2) else (headgateref29_common.j0 k a0 a1 a2 a4 false bt167.1 bt167.2.1 bt167.2.2.1 bt167.2.2.2))) = some r := h
 clear h
 replace H := Option.bind_eq_some_iff.mp H
 obtain ⟨⟨t167, t168, t169, t170⟩, A60, H⟩ := H
 try dsimp only at H
 have A6 := Aside0.mk A60
 clear A60
 have HC7 := Aside0.mk H
 clear H
 go_enter Tryd.func25, Tryd.ntmps25
 go_upto_region 2 with (first | ((with_reducible refine gate_callee (f := 24) rfl ?_); refine goesL_ (some 17) rfl rfl Tryd.func24 (by kernel_rfl) rfl #[.int .i64 a0, .int .i64 a2, .bool a3, .bool a4] rfl (by (try simp only [List.map_toArray, List.map_cons, List.map_nil]); first | done | rfl | (simp only [List.length_drop, List.length_take]; rfl)) ?_; (with_reducible refine (headgateref29_planned.calls k a0 a2 a3 a4 t167 t168 t169 t170 _ A6.out).mono ?_); rintro e w8 ⟨rfl, hb⟩; refine ⟨_, rfl, ?_⟩; have n0_ := Aside0.mk (below_step (by repeat (first | (with_reducible first | exact HB.out | apply below_alloc | apply pw_below_drewN | apply below_drew1) | exact HB.out)) hb); clear HB; have HB := n0_; clear n0_; (try clear hb); (try clear hb2); (try clear hk); (try clear hi)) | ((with_reducible refine gate_dst (N := 11) rfl ?_); refine box_event ?hg (N := 11) ?hd (cs := #[.int .i64 0, .int .i64 0, .int .i64 0, .int .i64 0]) (t := 58) ?hr ?_; (case hd => rfl); (case hg => rfl); (case hr => first | (go_simp; done) | (go_simp; rfl)); intro gb171 hg w9 hbox hb; have n0_ := Aside0.mk (below_step (by repeat (first | (with_reducible first | exact HB.out | apply below_alloc | apply pw_below_drewN | apply below_drew1) | exact HB.out)) hb); have n1_ := Aside0.mk (hbox); have n2_ := Aside0.mk ((by rw [hg]; exact (below_size (by repeat (first | (with_reducible first | exact HB.out | apply below_alloc | apply pw_below_drewN | apply below_drew1) | exact HB.out))) : w.heap.size ≤ gb171)); have n3_ := Aside0.mk ((by rw [hg]; exact (below_size (by repeat (first | (with_reducible first | exact HB.out | apply below_alloc | apply pw_below_drewN | apply below_drew1) | exact HB.out))) : w.heap.size ≤ gb171)); clear HB; have HB := n0_; have BK171 := n1_; have GW171 := n2_; have GE171 := n3_; clear n0_ n1_ n2_ n3_; clear hb hbox hg; have hcz10_0 : w9.cell? ⟨gb171, 0, none⟩ = some (.int .i64 0) := (blk_cell BK171.out 0).trans rfl; have hcz10_1 : w9.cell? ⟨gb171, 1, none⟩ = some (.int .i64 0) := (blk_cell BK171.out 1).trans rfl; have hcz10_2 : w9.cell? ⟨gb171, 2, none⟩ = some (.int .i64 0) := (blk_cell BK171.out 2).trans rfl; have hcz10_3 : w9.cell? ⟨gb171, 3, none⟩ = some (.int .i64 0) := (blk_cell BK171.out 3).trans rfl; have hfz10_0 := blk_frozen BK171.out 0; have hfz10_1 := blk_frozen BK171.out 1; have hfz10_2 := blk_frozen BK171.out 2; have hfz10_3 := blk_frozen BK171.out 3))
 (try simp only [Act.put, la_, lb_, lc_])
 go_cut [22] (fun v22 wc => ∃ (kq : Nat) (x22_6 : Bool), v22 = .bool x22_6 ∧ Aside0 (headgateref29_common.j0 kq a0 a1 a2 a4 x22_6 t167 t168 t169 t170 = some r) ∧ Aside0 (kq ≤ k) ∧ Aside0 (wc.heap[gb171]? = some (.cells #[.int .i64 t167, .int .i64 t168, .int .i64 t169, .int .i64 t170] 58 (0, 0))) ∧ Aside0 (Below w.heap.size w wc))
 case first =>
  have H := HC7.out
  clear HC7
  by_cases c11 : a3 = true
  ·subst c11
   have H1 := H
   rw [if_pos rfl] at H1
   clear H
   have H := H1
   clear H1
   have H' := Aside0.mk H
   clear H
   go_wp2
   go_meet
   case rel => exact ⟨_, (decide (a0 > 3)), (by first | rfl | (simp; done) | (simp [*]; done)), H', ⟨by first | omega | exact Nat.le_refl _⟩, ⟨by (with_reducible repeat (first | refine blk_drewN ?_ _ | refine blk_drew ?_ | refine blk_alloc ?_ _)); refine blk_put (cs := #[.int .i64 t167, .int .i64 t168, .int .i64 t169, .int .i64 0]) ?_ 3 _ rfl; (with_reducible repeat (first | refine blk_drewN ?_ _ | refine blk_drew ?_ | refine blk_alloc ?_ _)); refine blk_put (cs := #[.int .i64 t167, .int .i64 t168, .int .i64 0, .int .i64 0]) ?_ 2 _ rfl; (with_reducible repeat (first | refine blk_drewN ?_ _ | refine blk_drew ?_ | refine blk_alloc ?_ _)); refine blk_put (cs := #[.int .i64 t167, .int .i64 0, .int .i64 0, .int .i64 0]) ?_ 1 _ rfl; (with_reducible repeat (first | refine blk_drewN ?_ _ | refine blk_drew ?_ | refine blk_alloc ?_ _)); refine blk_put (cs := #[.int .i64 0, .int .i64 0, .int .i64 0, .int .i64 0]) ?_ 0 _ rfl; (with_reducible repeat (first | refine blk_drewN ?_ _ | refine blk_drew ?_ | refine blk_alloc ?_ _)); exact BK171.out⟩, ⟨by repeat (first | (with_reducible first | exact HB.out | apply below_alloc | apply pw_below_drewN | apply below_drew1 | refine below_set ?_ GE171.out) | exact HB.out)⟩⟩
  replace c11 := Bool.eq_false_iff.mpr c11
  subst c11
  have H1 := H
  rw [if_neg (show ¬ (false = true) by decide)] at H1
  clear H
  have H := H1
  clear H1
  have H' := Aside0.mk H
  clear H
  go_wp2
  go_meet
  case rel => exact ⟨_, (false), (by first | rfl | (simp; done) | (simp [*]; done)), H', ⟨by first | omega | exact Nat.le_refl _⟩, ⟨by (with_reducible repeat (first | refine blk_drewN ?_ _ | refine blk_drew ?_ | refine blk_alloc ?_ _)); refine blk_put (cs := #[.int .i64 t167, .int .i64 t168, .int .i64 t169, .int .i64 0]) ?_ 3 _ rfl; (with_reducible repeat (first | refine blk_drewN ?_ _ | refine blk_drew ?_ | refine blk_alloc ?_ _)); refine blk_put (cs := #[.int .i64 t167, .int .i64 t168, .int .i64 0, .int .i64 0]) ?_ 2 _ rfl; (with_reducible repeat (first | refine blk_drewN ?_ _ | refine blk_drew ?_ | refine blk_alloc ?_ _)); refine blk_put (cs := #[.int .i64 t167, .int .i64 0, .int .i64 0, .int .i64 0]) ?_ 1 _ rfl; (with_reducible repeat (first | refine blk_drewN ?_ _ | refine blk_drew ?_ | refine blk_alloc ?_ _)); refine blk_put (cs := #[.int .i64 0, .int .i64 0, .int .i64 0, .int .i64 0]) ?_ 0 _ rfl; (with_reducible repeat (first | refine blk_drewN ?_ _ | refine blk_drew ?_ | refine blk_alloc ?_ _)); exact BK171.out⟩, ⟨by repeat (first | (with_reducible first | exact HB.out | apply below_alloc | apply pw_below_drewN | apply below_drew1 | refine below_set ?_ GE171.out) | exact HB.out)⟩⟩
 case rest =>
  clear HC7
  try clear c1
  try clear c2
  try clear p2
  try clear c11
  try clear hcz10_0
  try clear hcz10_1
  try clear hcz10_2
  try clear hcz10_3
  try clear hfz10_0
  try clear hfz10_1
  try clear hfz10_2
  try clear hfz10_3
  obtain ⟨kq, x22_6, rfl, HA, HJ6, BK171, HB⟩ := hcut
  cases kq with
  | zero => exact absurd HA.out (by simp [headgateref29_common.j0])
  | succ kj6 =>
   have H := HA.out
   clear HA
   simp only [headgateref29_common.j0] at H
   have HC12 := Aside0.mk H
   clear H
   go_upto_if 22 with (fail)
   go_cut [1] (fun v1 wc => ∃ (kq : Nat) (x1_11 : Int), v1 = .int .i64 x1_11 ∧ Aside0 (headgateref29_common.j1 kq a0 x1_11 a2 a4 t167 t168 t169 t170 = some r) ∧ Aside0 (kq ≤ kj6) ∧ Aside0 (wc.heap[gb171]? = some (.cells #[.int .i64 t167, .int .i64 t168, .int .i64 t169, .int .i64 t170] 58 (0, 0))) ∧ Aside0 (Below w.heap.size w wc))
   case first =>
    have H := HC12.out
    clear HC12
    by_cases c13 : x22_6 = true
    ·subst c13
     have H1 := H
     rw [if_pos rfl] at H1
     clear H
     have H := H1
     clear H1
     have H' := Aside0.mk H
     clear H
     go_wp2
     go_meet
     case rel => exact ⟨_, (wrap64 (a1 + 1)), (by first | rfl | (simp; done) | (simp [*]; done)), H', ⟨by have := HJ6.out; first | omega | exact Nat.le_refl _⟩, ⟨by (with_reducible repeat (first | refine blk_drewN ?_ _ | refine blk_drew ?_ | refine blk_alloc ?_ _)); exact BK171.out⟩, ⟨by repeat (first | (with_reducible first | exact HB.out | apply below_alloc | apply pw_below_drewN | apply below_drew1 | refine below_set ?_ GE171.out) | exact HB.out)⟩⟩
    replace c13 := Bool.eq_false_iff.mpr c13
    subst c13
    have H1 := H
    rw [if_neg (show ¬ (false = true) by decide)] at H1
    clear H
    have H := H1
    clear H1
    have H' := Aside0.mk H
    clear H
    go_wp2
    go_meet
    case rel => exact ⟨_, (a1), (by first | rfl | (simp; done) | (simp [*]; done)), H', ⟨by have := HJ6.out; first | omega | exact Nat.le_refl _⟩, ⟨by (with_reducible repeat (first | refine blk_drewN ?_ _ | refine blk_drew ?_ | refine blk_alloc ?_ _)); exact BK171.out⟩, ⟨by repeat (first | (with_reducible first | exact HB.out | apply below_alloc | apply pw_below_drewN | apply below_drew1 | refine below_set ?_ GE171.out) | exact HB.out)⟩⟩
   case rest =>
    clear HC12
    try clear c1
    try clear c2
    try clear p2
    try clear p6
    try clear c11
    try clear c13
    try clear hcz10_0
    try clear hcz10_1
    try clear hcz10_2
    try clear hcz10_3
    try clear hfz10_0
    try clear hfz10_1
    try clear hfz10_2
    try clear hfz10_3
    try clear p2
    obtain ⟨kq, x1_11, rfl, HA, HJ11, BK171, HB⟩ := hcut
    cases kq with
    | zero => exact absurd HA.out (by simp [headgateref29_common.j1])
    | succ kj11 =>
     have H := HA.out
     clear HA
     simp only [headgateref29_common.j1] at H
     have HC14 := Aside0.mk H
     clear H
     go_upto_region 4 with (fail)
     go_cut [33] (fun v33 wc => ∃ (kq : Nat) (x33_13 : Bool), v33 = .bool x33_13 ∧ Aside0 (headgateref29_common.j2 kq a0 x1_11 a2 x33_13 t167 t168 t169 t170 = some r) ∧ Aside0 (kq ≤ kj11) ∧ Aside0 (wc.heap[gb171]? = some (.cells #[.int .i64 t167, .int .i64 t168, .int .i64 t169, .int .i64 t170] 58 (0, 0))) ∧ Aside0 (Below w.heap.size w wc))
     case first =>
      have H := HC14.out
      clear HC14
      refine neg_first (p := (a4 = true)) (fun c15 => ?_) (fun c15 => ?_)
      ·replace c15 := Bool.eq_false_iff.mpr c15
       subst c15
       have H1 := H
       rw [if_neg (show ¬ (false = true) by decide)] at H1
       clear H
       have H := H1
       clear H1
       have H' := Aside0.mk H
       clear H
       go_wp2
       go_meet
       case rel => exact ⟨_, (false), (by first | rfl | (simp; done) | (simp [*]; done)), H', ⟨by have := HJ6.out; have := HJ11.out; first | omega | exact Nat.le_refl _⟩, ⟨by (with_reducible repeat (first | refine blk_drewN ?_ _ | refine blk_drew ?_ | refine blk_alloc ?_ _)); exact BK171.out⟩, ⟨by repeat (first | (with_reducible first | exact HB.out | apply below_alloc | apply pw_below_drewN | apply below_drew1 | refine below_set ?_ GE171.out) | exact HB.out)⟩⟩
      subst c15
      have H1 := H
      rw [if_pos rfl] at H1
      clear H
      have H := H1
      clear H1
      refine neg_first (p := (a0 > 3)) (fun c16 => ?_) (fun c16 => ?_)
      ·rw [if_neg c16] at H
       have c16b0 : decide (3 < a0) = false := decide_eq_false c16
       clear c16
       (first | rw [c16b0] | (simp only [i64_w, i32_w]; rw [c16b0]) | skip)
       have H' := Aside0.mk H
       clear H
       go_wp2
       go_meet
       case rel => exact ⟨_, (false), (by first | rfl | (simp; done) | (simp [*]; done)), H', ⟨by have := HJ6.out; have := HJ11.out; first | omega | exact Nat.le_refl _⟩, ⟨by (with_reducible repeat (first | refine blk_drewN ?_ _ | refine blk_drew ?_ | refine blk_alloc ?_ _)); exact BK171.out⟩, ⟨by repeat (first | (with_reducible first | exact HB.out | apply below_alloc | apply pw_below_drewN | apply below_drew1 | refine below_set ?_ GE171.out) | exact HB.out)⟩⟩
      rw [if_pos c16] at H
      have c16b0 : decide (3 < a0) = true := decide_eq_true c16
      clear c16
      (first | rw [c16b0] | (simp only [i64_w, i32_w]; rw [c16b0]) | skip)
      have H' := Aside0.mk H
      clear H
      go_wp2
      go_meet
      case rel => exact ⟨_, (decide (a2 > 0)), (by first | rfl | (simp; done) | (simp [*]; done)), H', ⟨by have := HJ6.out; have := HJ11.out; first | omega | exact Nat.le_refl _⟩, ⟨by (with_reducible repeat (first | refine blk_drewN ?_ _ | refine blk_drew ?_ | refine blk_alloc ?_ _)); exact BK171.out⟩, ⟨by repeat (first | (with_reducible first | exact HB.out | apply below_alloc | apply pw_below_drewN | apply below_drew1 | refine below_set ?_ GE171.out) | exact HB.out)⟩⟩
     case rest =>
      clear HC14
      try clear c1
      try clear c2
      try clear p2
      try clear p6
      try clear c11
      try clear c13
      try clear c15
      try clear c16
      try clear c16b0
      try clear hcz10_0
      try clear hcz10_1
      try clear hcz10_2
      try clear hcz10_3
      try clear hfz10_0
      try clear hfz10_1
      try clear hfz10_2
      try clear hfz10_3
      try clear p2
      try clear p6
      obtain ⟨kq, x33_13, rfl, HA, HJ13, BK171, HB⟩ := hcut
      cases kq with
      | zero => exact absurd HA.out (by simp [headgateref29_common.j2])
      | succ kj13 =>
       have H := HA.out
       clear HA
       simp only [headgateref29_common.j2] at H
       refine neg_first (p := (x33_13 = true)) (fun c17 => ?_) (fun c17 => ?_)
       ·replace c17 := Bool.eq_false_iff.mpr c17
        subst c17
        have H1 := H
        rw [if_neg (show ¬ (false = true) by decide)] at H1
        clear H
        have H := H1
        clear H1
        refine neg_first (p := (a2 > 0)) (fun c36 => ?_) (fun c36 => ?_)
        ·rw [if_neg c36] at H
         have c36b0 : decide (0 < a2) = false := decide_eq_false c36
         clear c36
         obtain ⟨y184, hy184⟩ : ∃ y_ : List Int, y_ = (([(a0) % 256, (x1_11) % 256, (t167) % 256, 0] : List Int)) := ⟨_, rfl⟩
         replace H : ((headgateref01_PutLittle.f kj13 (IntKind.u64.wrap (t170)) 4).bind fun t187 => (if (strOfNums y184).size + t187.size ≤ 9223372036854775807 then (some ((strOfNums y184) ++ t187)) else (none))) = some r := by first | (rw [hy184]; with_reducible exact H) | (have H2_ := (Option.bind_some _ _).symm.trans H; rw [hy184]; with_reducible exact H2_) | (have H2_ := (Option.bind_some _ _).symm.trans H; with_reducible exact H2_) | with_reducible exact H | (rw [hy184]; exact H) | exact H
         have Ny184 := Aside0.mk hy184
         clear hy184
         replace H := Option.bind_eq_some_iff.mp H
         obtain ⟨t187, A460, H⟩ := H
         try dsimp only at H
         have A46 := Aside0.mk A460
         clear A460
         refine neg_first (p := ((strOfNums y184).size + t187.size ≤ 9223372036854775807)) (fun c47 => ?_) (fun c47 => ?_)
         ·rw [if_neg c47] at H
          exact absurd H (by simp)

         rw [if_pos c47] at H
         have c47b0 := eq_true c47
         have c47b1 : decide ((strOfNums y184).size + t187.size ≤ 9223372036854775807) = true := decide_eq_true c47
         try have c47b2 : (9223372036854775807 < (strOfNums y184).size + t187.size) = False := eq_false (Nat.not_lt.2 c47)
         obtain rfl := Option.some.inj H
         try go_wp2
         have n0_ := Aside0.mk (blk_drew BK171.out)
         have n1_ := Aside0.mk (below_drew1 HB.out)
         clear BK171
         clear HB
         have BK171 := n0_
         have HB := n1_
         clear n0_ n1_
         refine start_ (n := 17) (S := fun w' => w'.cell? ⟨gb171, 0, none⟩ = some (.int .i64 t167) ∧ w'.cell? ⟨gb171, 1, none⟩ = some (.int .i64 t168) ∧ w'.cell? ⟨gb171, 2, none⟩ = some (.int .i64 t169) ∧ w'.cell? ⟨gb171, 3, none⟩ = some (.int .i64 t170)) (ds := []) d25x0 (by kernel_rfl) rfl rfl ⟨(blk_cell BK171.out 0).trans rfl, (blk_cell BK171.out 1).trans rfl, (blk_cell BK171.out 2).trans rfl, (blk_cell BK171.out 3).trans rfl⟩ (fun hHeld => ?_); refine with_tabW headgateref29_common.tab9 headgateref29_common.bits9 (fun HT_ HW_ => ?_)
         generalize wc.drew = w48 at BK171 HB hHeld ⊢
         refine pon_ 0 (some 40) d25x1 HT_.out ?_
         refine pon_ 1 (some 41) d25x2 HT_.out ?_
         refine pon_ 2 (some 42) d25x3 HT_.out ?_
         refine pon_ 3 (some 43) d25x4 HT_.out ?_
         refine pon_ 4 (some 44) d25x5 HT_.out ?_
         refine pon_ 7 (some 47) d25x6 HT_.out ?_
         refine pon_ 8 (some 48) d25x7 HT_.out ?_
         refine pon_ 11 (some 51) d25x8 HT_.out ?_
         refine ptk_ 5 (some 45) d25x9 HT_.out HW_.out hHeld ?_
         refine pon_ 6 (some 46) d25x10 HT_.out ?_
         refine ptk_ 12 (some 52) d25x11 HT_.out HW_.out hHeld ?_
         refine pon_ 13 (some 53) d25x12 HT_.out ?_
         refine join_ (σ := Value) 2 d25x17 (fun s_ => [(49, s_), (50, .string (strOfNums y184)), (54, .string t187)]) (fun s_ w' => (w'.cell? ⟨gb171, 0, none⟩ = some (.int .i64 t167) ∧ w'.cell? ⟨gb171, 1, none⟩ = some (.int .i64 t168) ∧ w'.cell? ⟨gb171, 2, none⟩ = some (.int .i64 t169) ∧ w'.cell? ⟨gb171, 3, none⟩ = some (.int .i64 t170)) ∧ (Kd.R (Kd.int .u8) 5 w' w.heap.size (fun _ => True) s_ y184) ∧ (w'.heap[gb171]? = some (.cells #[.int .i64 t167, .int .i64 t168, .int .i64 t169, .int .i64 t170] 58 (0, 0))) ∧ (Below w.heap.size w w')) ?_ ?_
         rotate_left
         ·intro hCont
          refine two_ (i := 9) (j := 14) (Ni := some 49) (Nj := some 54) d25x14 d25x13 rfl rfl rfl rfl (two_of HT_.out (by kernel_rfl)) (by decide) (by decide) (fun K hK => ?_) (fun K hK => ?_)
          ·skip
           refine Kd.R_lit_step (Kd.int .u8) _ 5 ?hg (N := 49) ?hd (xs := ([(a0) % 256, (x1_11) % 256, (t167) % 256, 0] : List Int)) (inner := [.int .u8 ((a0) % 256), .int .u8 ((x1_11) % 256), .int .u8 ((t167) % 256), .int .u8 0]) (ok := fun _ => True) (okp := fun _ => True) ?hr ?hp (fun _ hk => hk) trivial (Below.refl _ _) (Nat.le_refl _) (by simp) ?_; (case hd => rfl); (case hg => rfl); (case hr => first | (go_simp; done) | (go_simp; rfl)); (case hp => exact (Reps.one (show Kd.M (Kd.int .u8) _ _ _ ((a0) % 256) [.int .u8 ((a0) % 256)] from rfl) (Reps.one (show Kd.M (Kd.int .u8) _ _ _ ((x1_11) % 256) [.int .u8 ((x1_11) % 256)] from rfl) (Reps.one (show Kd.M (Kd.int .u8) _ _ _ ((t167) % 256) [.int .u8 ((t167) % 256)] from rfl) (Reps.one (show Kd.M (Kd.int .u8) _ _ _ 0 [.int .u8 0] from rfl) (Reps.none _ _))))))
           intro v185 w49 ho50 hb hg_ hnew_
           clear hg_ hnew_
           (first | rw [← Ny184.out] at ho50 | (simp only [Int.reduceToNat] at ho50; rw [← Ny184.out] at ho50))
           have n0_ := Aside0.mk (Kd.R_lower ho50 (below_size (by repeat (first | (with_reducible first | exact HB.out | apply below_alloc | apply pw_below_drewN | apply below_drew1 | refine below_set ?_ GE171.out) | exact HB.out))))
           have n1_ := Aside0.mk (blk_below (g := gb171) (o := .cells #[.int .i64 t167, .int .i64 t168, .int .i64 t169, .int .i64 t170] 58 (0, 0)) (by (with_reducible repeat (first | refine blk_drewN ?_ _ | refine blk_drew ?_ | refine blk_alloc ?_ _)); exact BK171.out) hb)
           have n2_ := Aside0.mk (below_step (by repeat (first | (with_reducible first | exact HB.out | apply below_alloc | apply pw_below_drewN | apply below_drew1 | refine below_set ?_ GE171.out) | exact HB.out)) hb)
           clear BK171
           clear HB
           have HO186 := n0_
           have BK171 := n1_
           have HB := n2_
           clear n0_ n1_ n2_
           clear hb ho50
           refine hK.out _ _ ⟨(blk_cell BK171.out 0).trans rfl, (blk_cell BK171.out 1).trans rfl, (blk_cell BK171.out 2).trans rfl, (blk_cell BK171.out 3).trans rfl⟩ (fun hHeld => ?_)
           clear hK K
           refine norm_ (a' := ?_) ?_ ?_
           rotate_left
           ·show Act.put _ (some 49) _ = _
            simp only [Act.put, la_, lb_, lc_, i64_w, i32_w]
            rfl
           refine two_ (i := 10) (j := 14) (Ni := some 50) (Nj := some 54) d25x16 d25x15 rfl rfl rfl rfl (two_of HT_.out (by kernel_rfl)) (by decide) (by decide) (fun K hK => ?_) (fun K hK => ?_)
           ·skip
            have hcv51 := own_string (P := Tryd.prog) Tryd.underlying45 Tryd.underlying5 Tryd.underlying9 (Kd.own_of_R HO186.out)
            refine value_ (w1 := ?_) (v := ?_) (by rfl) rfl ?_ ?_
            rotate_left 2
            ·go_simp
             constructor
             ·rfl
             ·rfl
            clear hcv51
            refine hK.out _ _ ⟨(blk_cell BK171.out 0).trans rfl, (blk_cell BK171.out 1).trans rfl, (blk_cell BK171.out 2).trans rfl, (blk_cell BK171.out 3).trans rfl⟩ (fun hHeld => ?_)
            clear hK K
            refine norm_ (a' := ?_) ?_ ?_
            rotate_left
            ·show Act.put _ (some 50) _ = _
             simp only [Act.put, la_, lb_, lc_, i64_w, i32_w]
             rfl
            refine one_ (i := 14) (N := some 54) d25x17 rfl rfl (one_of HT_.out (by kernel_rfl)) (by decide) (fun K hK => ?_)
            refine goes_ Tryd.func31 (by kernel_rfl) rfl #[.int .u64 (IntKind.u64.wrap (t170)), .int .i64 4] (by rfl) rfl rfl (by (try simp only [List.map_toArray, List.map_cons, List.map_nil]); first | done | rfl | (simp only [List.length_drop, List.length_take]; rfl)) ?_
            with_reducible refine (headgateref01_PutLittle.calls kj13 (IntKind.u64.wrap (t170)) 4 t187 _ A46.out).mono ?_
            rintro e w52 ⟨rfl, hb⟩
            refine ⟨_, rfl, ?_⟩
            have n0_ := Aside0.mk (Kd.R_below (by (with_reducible repeat (first | apply Kd.R_alloc | apply Kd.R_drewN | apply Kd.R_drew)); exact HO186.out) hb)
            have n1_ := Aside0.mk (blk_below (g := gb171) (o := .cells #[.int .i64 t167, .int .i64 t168, .int .i64 t169, .int .i64 t170] 58 (0, 0)) (by (with_reducible repeat (first | refine blk_drewN ?_ _ | refine blk_drew ?_ | refine blk_alloc ?_ _)); exact BK171.out) hb)
            have n2_ := Aside0.mk (below_step (by repeat (first | (with_reducible first | exact HB.out | apply below_alloc | apply pw_below_drewN | apply below_drew1 | refine below_set ?_ GE171.out) | exact HB.out)) hb)
            clear HO186
            clear BK171
            clear HB
            have HO186 := n0_
            have BK171 := n1_
            have HB := n2_
            clear n0_ n1_ n2_
            (try clear hb)
            (try clear hb2)
            (try clear hk)
            (try clear hi)
            refine hK.out _ _ ⟨(blk_cell BK171.out 0).trans rfl, (blk_cell BK171.out 1).trans rfl, (blk_cell BK171.out 2).trans rfl, (blk_cell BK171.out 3).trans rfl⟩ (fun hHeld => ?_)
            clear hK K
            refine norm_ (a' := ?_) ?_ ?_
            rotate_left
            ·show Act.put _ (some 54) _ = _
             simp only [Act.put, la_, lb_, lc_, i64_w, i32_w]
             rfl
            exact norm_ (by simp only [putAll, Act.put, la_, lb_, lc_]) (hCont (v185) _ ⟨hHeld, (by (with_reducible repeat (first | apply Kd.R_alloc | apply Kd.R_drewN | apply Kd.R_drew)); exact HO186.out), (by (with_reducible repeat (first | refine blk_drewN ?_ _ | refine blk_drew ?_ | refine blk_alloc ?_ _)); exact BK171.out), (by repeat (first | (with_reducible first | exact HB.out | apply below_alloc | apply pw_below_drewN | apply below_drew1 | refine below_set ?_ GE171.out) | exact HB.out))⟩)
           ·skip
            refine goes_ Tryd.func31 (by kernel_rfl) rfl #[.int .u64 (IntKind.u64.wrap (t170)), .int .i64 4] (by rfl) rfl rfl (by (try simp only [List.map_toArray, List.map_cons, List.map_nil]); first | done | rfl | (simp only [List.length_drop, List.length_take]; rfl)) ?_
            with_reducible refine (headgateref01_PutLittle.calls kj13 (IntKind.u64.wrap (t170)) 4 t187 _ A46.out).mono ?_
            rintro e w51 ⟨rfl, hb⟩
            refine ⟨_, rfl, ?_⟩
            have n0_ := Aside0.mk (Kd.R_below (by (with_reducible repeat (first | apply Kd.R_alloc | apply Kd.R_drewN | apply Kd.R_drew)); exact HO186.out) hb)
            have n1_ := Aside0.mk (blk_below (g := gb171) (o := .cells #[.int .i64 t167, .int .i64 t168, .int .i64 t169, .int .i64 t170] 58 (0, 0)) (by (with_reducible repeat (first | refine blk_drewN ?_ _ | refine blk_drew ?_ | refine blk_alloc ?_ _)); exact BK171.out) hb)
            have n2_ := Aside0.mk (below_step (by repeat (first | (with_reducible first | exact HB.out | apply below_alloc | apply pw_below_drewN | apply below_drew1 | refine below_set ?_ GE171.out) | exact HB.out)) hb)
            clear HO186
            clear BK171
            clear HB
            have HO186 := n0_
            have BK171 := n1_
            have HB := n2_
            clear n0_ n1_ n2_
            (try clear hb)
            (try clear hb2)
            (try clear hk)
            (try clear hi)
            refine hK.out _ _ ⟨(blk_cell BK171.out 0).trans rfl, (blk_cell BK171.out 1).trans rfl, (blk_cell BK171.out 2).trans rfl, (blk_cell BK171.out 3).trans rfl⟩ (fun hHeld => ?_)
            clear hK K
            refine norm_ (a' := ?_) ?_ ?_
            rotate_left
            ·show Act.put _ (some 54) _ = _
             simp only [Act.put, la_, lb_, lc_, i64_w, i32_w]
             rfl
            refine one_ (i := 10) (N := some 50) d25x17 rfl rfl (one_of HT_.out (by kernel_rfl)) (by decide) (fun K hK => ?_)
            have hcv52 := own_string (P := Tryd.prog) Tryd.underlying45 Tryd.underlying5 Tryd.underlying9 (Kd.own_of_R HO186.out)
            refine value_ (w1 := ?_) (v := ?_) (by rfl) rfl ?_ ?_
            rotate_left 2
            ·go_simp
             constructor
             ·rfl
             ·rfl
            clear hcv52
            refine hK.out _ _ ⟨(blk_cell BK171.out 0).trans rfl, (blk_cell BK171.out 1).trans rfl, (blk_cell BK171.out 2).trans rfl, (blk_cell BK171.out 3).trans rfl⟩ (fun hHeld => ?_)
            clear hK K
            refine norm_ (a' := ?_) ?_ ?_
            rotate_left
            ·show Act.put _ (some 50) _ = _
             simp only [Act.put, la_, lb_, lc_, i64_w, i32_w]
             rfl
            exact norm_ (by simp only [putAll, Act.put, la_, lb_, lc_]) (hCont (v185) _ ⟨hHeld, (by (with_reducible repeat (first | apply Kd.R_alloc | apply Kd.R_drewN | apply Kd.R_drew)); exact HO186.out), (by (with_reducible repeat (first | refine blk_drewN ?_ _ | refine blk_drew ?_ | refine blk_alloc ?_ _)); exact BK171.out), (by repeat (first | (with_reducible first | exact HB.out | apply below_alloc | apply pw_below_drewN | apply below_drew1 | refine below_set ?_ GE171.out) | exact HB.out))⟩)
          ·skip
           refine goes_ Tryd.func31 (by kernel_rfl) rfl #[.int .u64 (IntKind.u64.wrap (t170)), .int .i64 4] (by rfl) rfl rfl (by (try simp only [List.map_toArray, List.map_cons, List.map_nil]); first | done | rfl | (simp only [List.length_drop, List.length_take]; rfl)) ?_
           with_reducible refine (headgateref01_PutLittle.calls kj13 (IntKind.u64.wrap (t170)) 4 t187 _ A46.out).mono ?_
           rintro e w49 ⟨rfl, hb⟩
           refine ⟨_, rfl, ?_⟩
           have n0_ := Aside0.mk (blk_below (g := gb171) (o := .cells #[.int .i64 t167, .int .i64 t168, .int .i64 t169, .int .i64 t170] 58 (0, 0)) (by (with_reducible repeat (first | refine blk_drewN ?_ _ | refine blk_drew ?_ | refine blk_alloc ?_ _)); exact BK171.out) hb)
           have n1_ := Aside0.mk (below_step (by repeat (first | (with_reducible first | exact HB.out | apply below_alloc | apply pw_below_drewN | apply below_drew1 | refine below_set ?_ GE171.out) | exact HB.out)) hb)
           clear BK171
           clear HB
           have BK171 := n0_
           have HB := n1_
           clear n0_ n1_
           (try clear hb)
           (try clear hb2)
           (try clear hk)
           (try clear hi)
           refine hK.out _ _ ⟨(blk_cell BK171.out 0).trans rfl, (blk_cell BK171.out 1).trans rfl, (blk_cell BK171.out 2).trans rfl, (blk_cell BK171.out 3).trans rfl⟩ (fun hHeld => ?_)
           clear hK K
           refine norm_ (a' := ?_) ?_ ?_
           rotate_left
           ·show Act.put _ (some 54) _ = _
            simp only [Act.put, la_, lb_, lc_, i64_w, i32_w]
            rfl
           refine one_ (i := 9) (N := some 49) d25x15 rfl rfl (one_of HT_.out (by kernel_rfl)) (by decide) (fun K hK => ?_)
           refine Kd.R_lit_step (Kd.int .u8) _ 5 ?hg (N := 49) ?hd (xs := ([(a0) % 256, (x1_11) % 256, (t167) % 256, 0] : List Int)) (inner := [.int .u8 ((a0) % 256), .int .u8 ((x1_11) % 256), .int .u8 ((t167) % 256), .int .u8 0]) (ok := fun _ => True) (okp := fun _ => True) ?hr ?hp (fun _ hk => hk) trivial (Below.refl _ _) (Nat.le_refl _) (by simp) ?_; (case hd => rfl); (case hg => rfl); (case hr => first | (go_simp; done) | (go_simp; rfl)); (case hp => exact (Reps.one (show Kd.M (Kd.int .u8) _ _ _ ((a0) % 256) [.int .u8 ((a0) % 256)] from rfl) (Reps.one (show Kd.M (Kd.int .u8) _ _ _ ((x1_11) % 256) [.int .u8 ((x1_11) % 256)] from rfl) (Reps.one (show Kd.M (Kd.int .u8) _ _ _ ((t167) % 256) [.int .u8 ((t167) % 256)] from rfl) (Reps.one (show Kd.M (Kd.int .u8) _ _ _ 0 [.int .u8 0] from rfl) (Reps.none _ _))))))
           intro v185 w50 ho51 hb hg_ hnew_
           clear hg_ hnew_
           (first | rw [← Ny184.out] at ho51 | (simp only [Int.reduceToNat] at ho51; rw [← Ny184.out] at ho51))
           have n0_ := Aside0.mk (Kd.R_lower ho51 (below_size (by repeat (first | (with_reducible first | exact HB.out | apply below_alloc | apply pw_below_drewN | apply below_drew1 | refine below_set ?_ GE171.out) | exact HB.out))))
           have n1_ := Aside0.mk (blk_below (g := gb171) (o := .cells #[.int .i64 t167, .int .i64 t168, .int .i64 t169, .int .i64 t170] 58 (0, 0)) (by (with_reducible repeat (first | refine blk_drewN ?_ _ | refine blk_drew ?_ | refine blk_alloc ?_ _)); exact BK171.out) hb)
           have n2_ := Aside0.mk (below_step (by repeat (first | (with_reducible first | exact HB.out | apply below_alloc | apply pw_below_drewN | apply below_drew1 | refine below_set ?_ GE171.out) | exact HB.out)) hb)
           clear BK171
           clear HB
           have HO186 := n0_
           have BK171 := n1_
           have HB := n2_
           clear n0_ n1_ n2_
           clear hb ho51
           refine hK.out _ _ ⟨(blk_cell BK171.out 0).trans rfl, (blk_cell BK171.out 1).trans rfl, (blk_cell BK171.out 2).trans rfl, (blk_cell BK171.out 3).trans rfl⟩ (fun hHeld => ?_)
           clear hK K
           refine norm_ (a' := ?_) ?_ ?_
           rotate_left
           ·show Act.put _ (some 49) _ = _
            simp only [Act.put, la_, lb_, lc_, i64_w, i32_w]
            rfl
           refine one_ (i := 10) (N := some 50) d25x17 rfl rfl (one_of HT_.out (by kernel_rfl)) (by decide) (fun K hK => ?_)
           have hcv52 := own_string (P := Tryd.prog) Tryd.underlying45 Tryd.underlying5 Tryd.underlying9 (Kd.own_of_R HO186.out)
           refine value_ (w1 := ?_) (v := ?_) (by rfl) rfl ?_ ?_
           rotate_left 2
           ·go_simp
            constructor
            ·rfl
            ·rfl
           clear hcv52
           refine hK.out _ _ ⟨(blk_cell BK171.out 0).trans rfl, (blk_cell BK171.out 1).trans rfl, (blk_cell BK171.out 2).trans rfl, (blk_cell BK171.out 3).trans rfl⟩ (fun hHeld => ?_)
           clear hK K
           refine norm_ (a' := ?_) ?_ ?_
           rotate_left
           ·show Act.put _ (some 50) _ = _
            simp only [Act.put, la_, lb_, lc_, i64_w, i32_w]
            rfl
           exact norm_ (by simp only [putAll, Act.put, la_, lb_, lc_]) (hCont (v185) _ ⟨hHeld, (by (with_reducible repeat (first | apply Kd.R_alloc | apply Kd.R_drewN | apply Kd.R_drew)); exact HO186.out), (by (with_reducible repeat (first | refine blk_drewN ?_ _ | refine blk_drew ?_ | refine blk_alloc ?_ _)); exact BK171.out), (by repeat (first | (with_reducible first | exact HB.out | apply below_alloc | apply pw_below_drewN | apply below_drew1 | refine below_set ?_ GE171.out) | exact HB.out))⟩)
         rintro v185 w53 ⟨hS_, h0_, h1_, h2_⟩
         have n0_ : Aside0 (Kd.R (Kd.int .u8) 5 w53 w.heap.size (fun _ => True) v185 y184) := ⟨h0_⟩
         have n1_ : Aside0 (w53.heap[gb171]? = some (.cells #[.int .i64 t167, .int .i64 t168, .int .i64 t169, .int .i64 t170] 58 (0, 0))) := ⟨h1_⟩
         have n2_ : Aside0 (Below w.heap.size w w53) := ⟨h2_⟩
         clear BK171
         clear HB
         clear h0_ h1_ h2_
         have HO186 := n0_
         have BK171 := n1_
         have HB := n2_
         clear n0_ n1_ n2_
         have hHeld : w53.cell? ⟨gb171, 0, none⟩ = some (.int .i64 t167) ∧ w53.cell? ⟨gb171, 1, none⟩ = some (.int .i64 t168) ∧ w53.cell? ⟨gb171, 2, none⟩ = some (.int .i64 t169) ∧ w53.cell? ⟨gb171, 3, none⟩ = some (.int .i64 t170) := hS_
         refine norm_ (a' := ?_) ?_ ?_
         rotate_left
         ·simp only [putAll, Act.put, la_, lb_, lc_]
          rfl
         refine pon_ 15 (some 55) d25x18 HT_.out ?_
         refine pon_ 16 (some 10) d25x19 HT_.out ?_
         refine done_ (done_of HT_.out (by kernel_rfl)) ?_
         try go_wp2
         go_ret
         exact ⟨by first | rfl | (simp [errW_none, errW_some] <;> rfl) | (simp [*, errW_none, errW_some] <;> rfl) | (simp [bt, *]; done) | (unfold bt; simp [*]; done), by repeat (first | (with_reducible first | exact HB.out | apply below_alloc | apply pw_below_drewN | apply below_drew1 | refine below_set ?_ GE171.out) | exact HB.out)⟩
        rw [if_pos c36] at H
        have c36b0 : decide (0 < a2) = true := decide_eq_true c36
        clear c36
        obtain ⟨y180, hy180⟩ : ∃ y_ : List Int, y_ = (([(a0) % 256, (x1_11) % 256, (t167) % 256, (t168) % 256] : List Int)) := ⟨_, rfl⟩
        replace H : ((headgateref01_PutLittle.f kj13 (IntKind.u64.wrap (t170)) 4).bind fun t183 => (if (strOfNums y180).size + t183.size ≤ 9223372036854775807 then (some ((strOfNums y180) ++ t183)) else (none))) = some r := by first | (rw [hy180]; with_reducible exact H) | (have H2_ := (Option.bind_some _ _).symm.trans H; rw [hy180]; with_reducible exact H2_) | (have H2_ := (Option.bind_some _ _).symm.trans H; with_reducible exact H2_) | with_reducible exact H | (rw [hy180]; exact H) | exact H
        have Ny180 := Aside0.mk hy180
        clear hy180
        replace H := Option.bind_eq_some_iff.mp H
        obtain ⟨t183, A370, H⟩ := H
        try dsimp only at H
        have A37 := Aside0.mk A370
        clear A370
        refine neg_first (p := ((strOfNums y180).size + t183.size ≤ 9223372036854775807)) (fun c38 => ?_) (fun c38 => ?_)
        ·rw [if_neg c38] at H
         exact absurd H (by simp)
        rw [if_pos c38] at H
        have c38b0 := eq_true c38
        have c38b1 : decide ((strOfNums y180).size + t183.size ≤ 9223372036854775807) = true := decide_eq_true c38
        try have c38b2 : (9223372036854775807 < (strOfNums y180).size + t183.size) = False := eq_false (Nat.not_lt.2 c38)
        obtain rfl := Option.some.inj H
        have hcz39_0 : wc.cell? ⟨gb171, 0, none⟩ = some (.int .i64 t167) := (blk_cell BK171.out 0).trans rfl
        have hcz39_1 : wc.cell? ⟨gb171, 1, none⟩ = some (.int .i64 t168) := (blk_cell BK171.out 1).trans rfl
        have hcz39_2 : wc.cell? ⟨gb171, 2, none⟩ = some (.int .i64 t169) := (blk_cell BK171.out 2).trans rfl
        have hcz39_3 : wc.cell? ⟨gb171, 3, none⟩ = some (.int .i64 t170) := (blk_cell BK171.out 3).trans rfl
        have hfz39_0 := blk_frozen BK171.out 0
        have hfz39_1 := blk_frozen BK171.out 1
        have hfz39_2 := blk_frozen BK171.out 2
        have hfz39_3 := blk_frozen BK171.out 3
        try go_wp2
        have n0_ := Aside0.mk (blk_drew BK171.out)
        have n1_ := Aside0.mk (below_drew1 HB.out)
        clear BK171
        clear HB
        have BK171 := n0_
        have HB := n1_
        clear n0_ n1_
        refine start_ (n := 17) (S := fun w' => w'.cell? ⟨gb171, 0, none⟩ = some (.int .i64 t167) ∧ w'.cell? ⟨gb171, 1, none⟩ = some (.int .i64 t168) ∧ w'.cell? ⟨gb171, 2, none⟩ = some (.int .i64 t169) ∧ w'.cell? ⟨gb171, 3, none⟩ = some (.int .i64 t170)) (ds := []) d25x0 (by kernel_rfl) rfl rfl ⟨(blk_cell BK171.out 0).trans rfl, (blk_cell BK171.out 1).trans rfl, (blk_cell BK171.out 2).trans rfl, (blk_cell BK171.out 3).trans rfl⟩ (fun hHeld => ?_); refine with_tabW headgateref29_common.tab9 headgateref29_common.bits9 (fun HT_ HW_ => ?_)
        generalize wc.drew = w40 at BK171 HB hHeld ⊢
        refine pon_ 0 (some 40) d25x1 HT_.out ?_
        refine pon_ 1 (some 41) d25x2 HT_.out ?_
        refine pon_ 2 (some 42) d25x3 HT_.out ?_
        refine pon_ 3 (some 43) d25x4 HT_.out ?_
        refine pon_ 4 (some 44) d25x5 HT_.out ?_
        refine pon_ 7 (some 47) d25x6 HT_.out ?_
        refine pon_ 8 (some 48) d25x7 HT_.out ?_
        refine pon_ 11 (some 51) d25x8 HT_.out ?_
        refine ptk_ 5 (some 45) d25x9 HT_.out HW_.out hHeld ?_
        refine pon_ 6 (some 46) d25x10 HT_.out ?_
        refine ptk_ 12 (some 52) d25x11 HT_.out HW_.out hHeld ?_
        refine pon_ 13 (some 53) d25x12 HT_.out ?_
        refine join_ (σ := Value) 2 d25x17 (fun s_ => [(49, s_), (50, .string (strOfNums y180)), (54, .string t183)]) (fun s_ w' => (w'.cell? ⟨gb171, 0, none⟩ = some (.int .i64 t167) ∧ w'.cell? ⟨gb171, 1, none⟩ = some (.int .i64 t168) ∧ w'.cell? ⟨gb171, 2, none⟩ = some (.int .i64 t169) ∧ w'.cell? ⟨gb171, 3, none⟩ = some (.int .i64 t170)) ∧ (Kd.R (Kd.int .u8) 5 w' w.heap.size (fun _ => True) s_ y180) ∧ (w'.heap[gb171]? = some (.cells #[.int .i64 t167, .int .i64 t168, .int .i64 t169, .int .i64 t170] 58 (0, 0))) ∧ (Below w.heap.size w w')) ?_ ?_
        rotate_left
        ·intro hCont
         refine two_ (i := 9) (j := 14) (Ni := some 49) (Nj := some 54) d25x14 d25x13 rfl rfl rfl rfl (two_of HT_.out (by kernel_rfl)) (by decide) (by decide) (fun K hK => ?_) (fun K hK => ?_)
         ·skip
          refine Kd.R_lit_step (Kd.int .u8) _ 5 ?hg (N := 49) ?hd (xs := ([(a0) % 256, (x1_11) % 256, (t167) % 256, (t168) % 256] : List Int)) (inner := [.int .u8 ((a0) % 256), .int .u8 ((x1_11) % 256), .int .u8 ((t167) % 256), .int .u8 ((t168) % 256)]) (ok := fun _ => True) (okp := fun _ => True) ?hr ?hp (fun _ hk => hk) trivial (Below.refl _ _) (Nat.le_refl _) (by simp) ?_; (case hd => rfl); (case hg => rfl); (case hr => first | (go_simp; done) | (go_simp; rfl)); (case hp => exact (Reps.one (show Kd.M (Kd.int .u8) _ _ _ ((a0) % 256) [.int .u8 ((a0) % 256)] from rfl) (Reps.one (show Kd.M (Kd.int .u8) _ _ _ ((x1_11) % 256) [.int .u8 ((x1_11) % 256)] from rfl) (Reps.one (show Kd.M (Kd.int .u8) _ _ _ ((t167) % 256) [.int .u8 ((t167) % 256)] from rfl) (Reps.one (show Kd.M (Kd.int .u8) _ _ _ ((t168) % 256) [.int .u8 ((t168) % 256)] from rfl) (Reps.none _ _))))))
          intro v181 w41 ho42 hb hg_ hnew_
          clear hg_ hnew_
          (first | rw [← Ny180.out] at ho42 | (simp only [Int.reduceToNat] at ho42; rw [← Ny180.out] at ho42))
          have n0_ := Aside0.mk (Kd.R_lower ho42 (below_size (by repeat (first | (with_reducible first | exact HB.out | apply below_alloc | apply pw_below_drewN | apply below_drew1 | refine below_set ?_ GE171.out) | exact HB.out))))
          have n1_ := Aside0.mk (blk_below (g := gb171) (o := .cells #[.int .i64 t167, .int .i64 t168, .int .i64 t169, .int .i64 t170] 58 (0, 0)) (by (with_reducible repeat (first | refine blk_drewN ?_ _ | refine blk_drew ?_ | refine blk_alloc ?_ _)); exact BK171.out) hb)
          have n2_ := Aside0.mk (below_step (by repeat (first | (with_reducible first | exact HB.out | apply below_alloc | apply pw_below_drewN | apply below_drew1 | refine below_set ?_ GE171.out) | exact HB.out)) hb)
          clear BK171
          clear HB
          have HO182 := n0_
          have BK171 := n1_
          have HB := n2_
          clear n0_ n1_ n2_
          clear hb ho42
          refine hK.out _ _ ⟨(blk_cell BK171.out 0).trans rfl, (blk_cell BK171.out 1).trans rfl, (blk_cell BK171.out 2).trans rfl, (blk_cell BK171.out 3).trans rfl⟩ (fun hHeld => ?_)
          clear hK K
          refine norm_ (a' := ?_) ?_ ?_
          rotate_left
          ·show Act.put _ (some 49) _ = _
           simp only [Act.put, la_, lb_, lc_, i64_w, i32_w]
           rfl
          refine two_ (i := 10) (j := 14) (Ni := some 50) (Nj := some 54) d25x16 d25x15 rfl rfl rfl rfl (two_of HT_.out (by kernel_rfl)) (by decide) (by decide) (fun K hK => ?_) (fun K hK => ?_)
          ·skip
           have hcv43 := own_string (P := Tryd.prog) Tryd.underlying45 Tryd.underlying5 Tryd.underlying9 (Kd.own_of_R HO182.out)
           refine value_ (w1 := ?_) (v := ?_) (by rfl) rfl ?_ ?_
           rotate_left 2
           ·go_simp
            constructor
            ·rfl
            ·rfl
           clear hcv43
           refine hK.out _ _ ⟨(blk_cell BK171.out 0).trans rfl, (blk_cell BK171.out 1).trans rfl, (blk_cell BK171.out 2).trans rfl, (blk_cell BK171.out 3).trans rfl⟩ (fun hHeld => ?_)
           clear hK K
           refine norm_ (a' := ?_) ?_ ?_
           rotate_left
           ·show Act.put _ (some 50) _ = _
            simp only [Act.put, la_, lb_, lc_, i64_w, i32_w]
            rfl
           refine one_ (i := 14) (N := some 54) d25x17 rfl rfl (one_of HT_.out (by kernel_rfl)) (by decide) (fun K hK => ?_)
           refine goes_ Tryd.func31 (by kernel_rfl) rfl #[.int .u64 (IntKind.u64.wrap (t170)), .int .i64 4] (by rfl) rfl rfl (by (try simp only [List.map_toArray, List.map_cons, List.map_nil]); first | done | rfl | (simp only [List.length_drop, List.length_take]; rfl)) ?_
           with_reducible refine (headgateref01_PutLittle.calls kj13 (IntKind.u64.wrap (t170)) 4 t183 _ A37.out).mono ?_
           rintro e w44 ⟨rfl, hb⟩
           refine ⟨_, rfl, ?_⟩
           have n0_ := Aside0.mk (Kd.R_below (by (with_reducible repeat (first | apply Kd.R_alloc | apply Kd.R_drewN | apply Kd.R_drew)); exact HO182.out) hb)
           have n1_ := Aside0.mk (blk_below (g := gb171) (o := .cells #[.int .i64 t167, .int .i64 t168, .int .i64 t169, .int .i64 t170] 58 (0, 0)) (by (with_reducible repeat (first | refine blk_drewN ?_ _ | refine blk_drew ?_ | refine blk_alloc ?_ _)); exact BK171.out) hb)
           have n2_ := Aside0.mk (below_step (by repeat (first | (with_reducible first | exact HB.out | apply below_alloc | apply pw_below_drewN | apply below_drew1 | refine below_set ?_ GE171.out) | exact HB.out)) hb)
           clear HO182
           clear BK171
           clear HB
           have HO182 := n0_
           have BK171 := n1_
           have HB := n2_
           clear n0_ n1_ n2_
           (try clear hb)
           (try clear hb2)
           (try clear hk)
           (try clear hi)
           refine hK.out _ _ ⟨(blk_cell BK171.out 0).trans rfl, (blk_cell BK171.out 1).trans rfl, (blk_cell BK171.out 2).trans rfl, (blk_cell BK171.out 3).trans rfl⟩ (fun hHeld => ?_)
           clear hK K
           refine norm_ (a' := ?_) ?_ ?_
           rotate_left
           ·show Act.put _ (some 54) _ = _
            simp only [Act.put, la_, lb_, lc_, i64_w, i32_w]
            rfl
           exact norm_ (by simp only [putAll, Act.put, la_, lb_, lc_]) (hCont (v181) _ ⟨hHeld, (by (with_reducible repeat (first | apply Kd.R_alloc | apply Kd.R_drewN | apply Kd.R_drew)); exact HO182.out), (by (with_reducible repeat (first | refine blk_drewN ?_ _ | refine blk_drew ?_ | refine blk_alloc ?_ _)); exact BK171.out), (by repeat (first | (with_reducible first | exact HB.out | apply below_alloc | apply pw_below_drewN | apply below_drew1 | refine below_set ?_ GE171.out) | exact HB.out))⟩)
          ·skip
           refine goes_ Tryd.func31 (by kernel_rfl) rfl #[.int .u64 (IntKind.u64.wrap (t170)), .int .i64 4] (by rfl) rfl rfl (by (try simp only [List.map_toArray, List.map_cons, List.map_nil]); first | done | rfl | (simp only [List.length_drop, List.length_take]; rfl)) ?_
           with_reducible refine (headgateref01_PutLittle.calls kj13 (IntKind.u64.wrap (t170)) 4 t183 _ A37.out).mono ?_
           rintro e w43 ⟨rfl, hb⟩
           refine ⟨_, rfl, ?_⟩
           have n0_ := Aside0.mk (Kd.R_below (by (with_reducible repeat (first | apply Kd.R_alloc | apply Kd.R_drewN | apply Kd.R_drew)); exact HO182.out) hb)
           have n1_ := Aside0.mk (blk_below (g := gb171) (o := .cells #[.int .i64 t167, .int .i64 t168, .int .i64 t169, .int .i64 t170] 58 (0, 0)) (by (with_reducible repeat (first | refine blk_drewN ?_ _ | refine blk_drew ?_ | refine blk_alloc ?_ _)); exact BK171.out) hb)
           have n2_ := Aside0.mk (below_step (by repeat (first | (with_reducible first | exact HB.out | apply below_alloc | apply pw_below_drewN | apply below_drew1 | refine below_set ?_ GE171.out) | exact HB.out)) hb)
           clear HO182
           clear BK171
           clear HB
           have HO182 := n0_
           have BK171 := n1_
           have HB := n2_
           clear n0_ n1_ n2_
           (try clear hb)
           (try clear hb2)
           (try clear hk)
           (try clear hi)
           refine hK.out _ _ ⟨(blk_cell BK171.out 0).trans rfl, (blk_cell BK171.out 1).trans rfl, (blk_cell BK171.out 2).trans rfl, (blk_cell BK171.out 3).trans rfl⟩ (fun hHeld => ?_)
           clear hK K
           refine norm_ (a' := ?_) ?_ ?_
           rotate_left
           ·show Act.put _ (some 54) _ = _
            simp only [Act.put, la_, lb_, lc_, i64_w, i32_w]
            rfl
           refine one_ (i := 10) (N := some 50) d25x17 rfl rfl (one_of HT_.out (by kernel_rfl)) (by decide) (fun K hK => ?_)
           have hcv44 := own_string (P := Tryd.prog) Tryd.underlying45 Tryd.underlying5 Tryd.underlying9 (Kd.own_of_R HO182.out)
           refine value_ (w1 := ?_) (v := ?_) (by rfl) rfl ?_ ?_
           rotate_left 2
           ·go_simp
            constructor
            ·rfl
            ·rfl
           clear hcv44
           refine hK.out _ _ ⟨(blk_cell BK171.out 0).trans rfl, (blk_cell BK171.out 1).trans rfl, (blk_cell BK171.out 2).trans rfl, (blk_cell BK171.out 3).trans rfl⟩ (fun hHeld => ?_)
           clear hK K
           refine norm_ (a' := ?_) ?_ ?_
           rotate_left
           ·show Act.put _ (some 50) _ = _
            simp only [Act.put, la_, lb_, lc_, i64_w, i32_w]
            rfl
           exact norm_ (by simp only [putAll, Act.put, la_, lb_, lc_]) (hCont (v181) _ ⟨hHeld, (by (with_reducible repeat (first | apply Kd.R_alloc | apply Kd.R_drewN | apply Kd.R_drew)); exact HO182.out), (by (with_reducible repeat (first | refine blk_drewN ?_ _ | refine blk_drew ?_ | refine blk_alloc ?_ _)); exact BK171.out), (by repeat (first | (with_reducible first | exact HB.out | apply below_alloc | apply pw_below_drewN | apply below_drew1 | refine below_set ?_ GE171.out) | exact HB.out))⟩)
         ·skip
          refine goes_ Tryd.func31 (by kernel_rfl) rfl #[.int .u64 (IntKind.u64.wrap (t170)), .int .i64 4] (by rfl) rfl rfl (by (try simp only [List.map_toArray, List.map_cons, List.map_nil]); first | done | rfl | (simp only [List.length_drop, List.length_take]; rfl)) ?_
          with_reducible refine (headgateref01_PutLittle.calls kj13 (IntKind.u64.wrap (t170)) 4 t183 _ A37.out).mono ?_
          rintro e w41 ⟨rfl, hb⟩
          refine ⟨_, rfl, ?_⟩
          have n0_ := Aside0.mk (blk_below (g := gb171) (o := .cells #[.int .i64 t167, .int .i64 t168, .int .i64 t169, .int .i64 t170] 58 (0, 0)) (by (with_reducible repeat (first | refine blk_drewN ?_ _ | refine blk_drew ?_ | refine blk_alloc ?_ _)); exact BK171.out) hb)
          have n1_ := Aside0.mk (below_step (by repeat (first | (with_reducible first | exact HB.out | apply below_alloc | apply pw_below_drewN | apply below_drew1 | refine below_set ?_ GE171.out) | exact HB.out)) hb)
          clear BK171
          clear HB
          have BK171 := n0_
          have HB := n1_
          clear n0_ n1_
          (try clear hb)
          (try clear hb2)
          (try clear hk)
          (try clear hi)
          refine hK.out _ _ ⟨(blk_cell BK171.out 0).trans rfl, (blk_cell BK171.out 1).trans rfl, (blk_cell BK171.out 2).trans rfl, (blk_cell BK171.out 3).trans rfl⟩ (fun hHeld => ?_)
          clear hK K
          refine norm_ (a' := ?_) ?_ ?_
          rotate_left
          ·show Act.put _ (some 54) _ = _
           simp only [Act.put, la_, lb_, lc_, i64_w, i32_w]
           rfl
          refine one_ (i := 9) (N := some 49) d25x15 rfl rfl (one_of HT_.out (by kernel_rfl)) (by decide) (fun K hK => ?_)
          refine Kd.R_lit_step (Kd.int .u8) _ 5 ?hg (N := 49) ?hd (xs := ([(a0) % 256, (x1_11) % 256, (t167) % 256, (t168) % 256] : List Int)) (inner := [.int .u8 ((a0) % 256), .int .u8 ((x1_11) % 256), .int .u8 ((t167) % 256), .int .u8 ((t168) % 256)]) (ok := fun _ => True) (okp := fun _ => True) ?hr ?hp (fun _ hk => hk) trivial (Below.refl _ _) (Nat.le_refl _) (by simp) ?_; (case hd => rfl); (case hg => rfl); (case hr => first | (go_simp; done) | (go_simp; rfl)); (case hp => exact (Reps.one (show Kd.M (Kd.int .u8) _ _ _ ((a0) % 256) [.int .u8 ((a0) % 256)] from rfl) (Reps.one (show Kd.M (Kd.int .u8) _ _ _ ((x1_11) % 256) [.int .u8 ((x1_11) % 256)] from rfl) (Reps.one (show Kd.M (Kd.int .u8) _ _ _ ((t167) % 256) [.int .u8 ((t167) % 256)] from rfl) (Reps.one (show Kd.M (Kd.int .u8) _ _ _ ((t168) % 256) [.int .u8 ((t168) % 256)] from rfl) (Reps.none _ _))))))
          intro v181 w42 ho43 hb hg_ hnew_
          clear hg_ hnew_
          (first | rw [← Ny180.out] at ho43 | (simp only [Int.reduceToNat] at ho43; rw [← Ny180.out] at ho43))
          have n0_ := Aside0.mk (Kd.R_lower ho43 (below_size (by repeat (first | (with_reducible first | exact HB.out | apply below_alloc | apply pw_below_drewN | apply below_drew1 | refine below_set ?_ GE171.out) | exact HB.out))))
          have n1_ := Aside0.mk (blk_below (g := gb171) (o := .cells #[.int .i64 t167, .int .i64 t168, .int .i64 t169, .int .i64 t170] 58 (0, 0)) (by (with_reducible repeat (first | refine blk_drewN ?_ _ | refine blk_drew ?_ | refine blk_alloc ?_ _)); exact BK171.out) hb)
          have n2_ := Aside0.mk (below_step (by repeat (first | (with_reducible first | exact HB.out | apply below_alloc | apply pw_below_drewN | apply below_drew1 | refine below_set ?_ GE171.out) | exact HB.out)) hb)
          clear BK171
          clear HB
          have HO182 := n0_
          have BK171 := n1_
          have HB := n2_
          clear n0_ n1_ n2_
          clear hb ho43
          refine hK.out _ _ ⟨(blk_cell BK171.out 0).trans rfl, (blk_cell BK171.out 1).trans rfl, (blk_cell BK171.out 2).trans rfl, (blk_cell BK171.out 3).trans rfl⟩ (fun hHeld => ?_)
          clear hK K
          refine norm_ (a' := ?_) ?_ ?_
          rotate_left
          ·show Act.put _ (some 49) _ = _
           simp only [Act.put, la_, lb_, lc_, i64_w, i32_w]
           rfl
          refine one_ (i := 10) (N := some 50) d25x17 rfl rfl (one_of HT_.out (by kernel_rfl)) (by decide) (fun K hK => ?_)
          have hcv44 := own_string (P := Tryd.prog) Tryd.underlying45 Tryd.underlying5 Tryd.underlying9 (Kd.own_of_R HO182.out)
          refine value_ (w1 := ?_) (v := ?_) (by rfl) rfl ?_ ?_
          rotate_left 2
          ·go_simp
           constructor
           ·rfl
           ·rfl
          clear hcv44
          refine hK.out _ _ ⟨(blk_cell BK171.out 0).trans rfl, (blk_cell BK171.out 1).trans rfl, (blk_cell BK171.out 2).trans rfl, (blk_cell BK171.out 3).trans rfl⟩ (fun hHeld => ?_)
          clear hK K
          refine norm_ (a' := ?_) ?_ ?_
          rotate_left
          ·show Act.put _ (some 50) _ = _
           simp only [Act.put, la_, lb_, lc_, i64_w, i32_w]
           rfl
          exact norm_ (by simp only [putAll, Act.put, la_, lb_, lc_]) (hCont (v181) _ ⟨hHeld, (by (with_reducible repeat (first | apply Kd.R_alloc | apply Kd.R_drewN | apply Kd.R_drew)); exact HO182.out), (by (with_reducible repeat (first | refine blk_drewN ?_ _ | refine blk_drew ?_ | refine blk_alloc ?_ _)); exact BK171.out), (by repeat (first | (with_reducible first | exact HB.out | apply below_alloc | apply pw_below_drewN | apply below_drew1 | refine below_set ?_ GE171.out) | exact HB.out))⟩)
        rintro v181 w45 ⟨hS_, h0_, h1_, h2_⟩
        have n0_ : Aside0 (Kd.R (Kd.int .u8) 5 w45 w.heap.size (fun _ => True) v181 y180) := ⟨h0_⟩
        have n1_ : Aside0 (w45.heap[gb171]? = some (.cells #[.int .i64 t167, .int .i64 t168, .int .i64 t169, .int .i64 t170] 58 (0, 0))) := ⟨h1_⟩
        have n2_ : Aside0 (Below w.heap.size w w45) := ⟨h2_⟩
        clear BK171
        clear HB
        clear h0_ h1_ h2_
        have HO182 := n0_
        have BK171 := n1_
        have HB := n2_
        clear n0_ n1_ n2_
        have hHeld : w45.cell? ⟨gb171, 0, none⟩ = some (.int .i64 t167) ∧ w45.cell? ⟨gb171, 1, none⟩ = some (.int .i64 t168) ∧ w45.cell? ⟨gb171, 2, none⟩ = some (.int .i64 t169) ∧ w45.cell? ⟨gb171, 3, none⟩ = some (.int .i64 t170) := hS_
        refine norm_ (a' := ?_) ?_ ?_
        rotate_left
        ·simp only [putAll, Act.put, la_, lb_, lc_]
         rfl
        refine pon_ 15 (some 55) d25x18 HT_.out ?_
        refine pon_ 16 (some 10) d25x19 HT_.out ?_
        refine done_ (done_of HT_.out (by kernel_rfl)) ?_
        try go_wp2
        go_ret
        exact ⟨by first | rfl | (simp [errW_none, errW_some] <;> rfl) | (simp [*, errW_none, errW_some] <;> rfl) | (simp [bt, *]; done) | (unfold bt; simp [*]; done), by repeat (first | (with_reducible first | exact HB.out | apply below_alloc | apply pw_below_drewN | apply below_drew1 | refine below_set ?_ GE171.out) | exact HB.out)⟩
       subst c17
       have H1 := H
       rw [if_pos rfl] at H1
       clear H
       have H := H1
       clear H1
       refine neg_first (p := (a2 > 0)) (fun c18 => ?_) (fun c18 => ?_)
       ·rw [if_neg c18] at H
        have c18b0 : decide (0 < a2) = false := decide_eq_false c18
        clear c18
        obtain ⟨y176, hy176⟩ : ∃ y_ : List Int, y_ = (([(a0) % 256, (wrap64 (x1_11 + 2)) % 256, (t167) % 256, 0] : List Int)) := ⟨_, rfl⟩
        replace H : ((headgateref01_PutLittle.f kj13 (IntKind.u64.wrap (t170)) 4).bind fun t179 => (if (strOfNums y176).size + t179.size ≤ 9223372036854775807 then (some ((strOfNums y176) ++ t179)) else (none))) = some r := by first | (rw [hy176]; with_reducible exact H) | (have H2_ := (Option.bind_some _ _).symm.trans H; rw [hy176]; with_reducible exact H2_) | (have H2_ := (Option.bind_some _ _).symm.trans H; with_reducible exact H2_) | with_reducible exact H | (rw [hy176]; exact H) | exact H
        have Ny176 := Aside0.mk hy176
        clear hy176
        replace H := Option.bind_eq_some_iff.mp H
        obtain ⟨t179, A280, H⟩ := H
        try dsimp only at H
        have A28 := Aside0.mk A280
        clear A280
        refine neg_first (p := ((strOfNums y176).size + t179.size ≤ 9223372036854775807)) (fun c29 => ?_) (fun c29 => ?_)
        ·rw [if_neg c29] at H
         exact absurd H (by simp)
        rw [if_pos c29] at H
        have c29b0 := eq_true c29
        have c29b1 : decide ((strOfNums y176).size + t179.size ≤ 9223372036854775807) = true := decide_eq_true c29
        try have c29b2 : (9223372036854775807 < (strOfNums y176).size + t179.size) = False := eq_false (Nat.not_lt.2 c29)
        obtain rfl := Option.some.inj H
        try go_wp2
        have n0_ := Aside0.mk (blk_drew BK171.out)
        have n1_ := Aside0.mk (below_drew1 HB.out)
        clear BK171
        clear HB
        have BK171 := n0_
        have HB := n1_
        clear n0_ n1_
        refine start_ (n := 17) (S := fun w' => w'.cell? ⟨gb171, 0, none⟩ = some (.int .i64 t167) ∧ w'.cell? ⟨gb171, 1, none⟩ = some (.int .i64 t168) ∧ w'.cell? ⟨gb171, 2, none⟩ = some (.int .i64 t169) ∧ w'.cell? ⟨gb171, 3, none⟩ = some (.int .i64 t170)) (ds := []) d25x0 (by kernel_rfl) rfl rfl ⟨(blk_cell BK171.out 0).trans rfl, (blk_cell BK171.out 1).trans rfl, (blk_cell BK171.out 2).trans rfl, (blk_cell BK171.out 3).trans rfl⟩ (fun hHeld => ?_); refine with_tabW headgateref29_common.tab9 headgateref29_common.bits9 (fun HT_ HW_ => ?_)
        generalize wc.drew = w30 at BK171 HB hHeld ⊢
        refine pon_ 0 (some 40) d25x1 HT_.out ?_
        refine pon_ 1 (some 41) d25x2 HT_.out ?_
        refine pon_ 2 (some 42) d25x3 HT_.out ?_
        refine pon_ 3 (some 43) d25x4 HT_.out ?_
        refine pon_ 4 (some 44) d25x5 HT_.out ?_
        refine pon_ 7 (some 47) d25x6 HT_.out ?_
        refine pon_ 8 (some 48) d25x7 HT_.out ?_
        refine pon_ 11 (some 51) d25x8 HT_.out ?_
        refine ptk_ 5 (some 45) d25x9 HT_.out HW_.out hHeld ?_
        refine pon_ 6 (some 46) d25x10 HT_.out ?_
        refine ptk_ 12 (some 52) d25x11 HT_.out HW_.out hHeld ?_
        refine pon_ 13 (some 53) d25x12 HT_.out ?_
        refine join_ (σ := Value) 2 d25x17 (fun s_ => [(49, s_), (50, .string (strOfNums y176)), (54, .string t179)]) (fun s_ w' => (w'.cell? ⟨gb171, 0, none⟩ = some (.int .i64 t167) ∧ w'.cell? ⟨gb171, 1, none⟩ = some (.int .i64 t168) ∧ w'.cell? ⟨gb171, 2, none⟩ = some (.int .i64 t169) ∧ w'.cell? ⟨gb171, 3, none⟩ = some (.int .i64 t170)) ∧ (Kd.R (Kd.int .u8) 5 w' w.heap.size (fun _ => True) s_ y176) ∧ (w'.heap[gb171]? = some (.cells #[.int .i64 t167, .int .i64 t168, .int .i64 t169, .int .i64 t170] 58 (0, 0))) ∧ (Below w.heap.size w w')) ?_ ?_
        rotate_left
        ·intro hCont
         refine two_ (i := 9) (j := 14) (Ni := some 49) (Nj := some 54) d25x14 d25x13 rfl rfl rfl rfl (two_of HT_.out (by kernel_rfl)) (by decide) (by decide) (fun K hK => ?_) (fun K hK => ?_)
         ·skip
          refine Kd.R_lit_step (Kd.int .u8) _ 5 ?hg (N := 49) ?hd (xs := ([(a0) % 256, (wrap64 (x1_11 + 2)) % 256, (t167) % 256, 0] : List Int)) (inner := [.int .u8 ((a0) % 256), .int .u8 ((wrap64 (x1_11 + 2)) % 256), .int .u8 ((t167) % 256), .int .u8 0]) (ok := fun _ => True) (okp := fun _ => True) ?hr ?hp (fun _ hk => hk) trivial (Below.refl _ _) (Nat.le_refl _) (by simp) ?_; (case hd => rfl); (case hg => rfl); (case hr => first | (go_simp; done) | (go_simp; rfl)); (case hp => exact (Reps.one (show Kd.M (Kd.int .u8) _ _ _ ((a0) % 256) [.int .u8 ((a0) % 256)] from rfl) (Reps.one (show Kd.M (Kd.int .u8) _ _ _ ((wrap64 (x1_11 + 2)) % 256) [.int .u8 ((wrap64 (x1_11 + 2)) % 256)] from rfl) (Reps.one (show Kd.M (Kd.int .u8) _ _ _ ((t167) % 256) [.int .u8 ((t167) % 256)] from rfl) (Reps.one (show Kd.M (Kd.int .u8) _ _ _ 0 [.int .u8 0] from rfl) (Reps.none _ _))))))
          intro v177 w31 ho32 hb hg_ hnew_
          clear hg_ hnew_
          (first | rw [← Ny176.out] at ho32 | (simp only [Int.reduceToNat] at ho32; rw [← Ny176.out] at ho32))
          have n0_ := Aside0.mk (Kd.R_lower ho32 (below_size (by repeat (first | (with_reducible first | exact HB.out | apply below_alloc | apply pw_below_drewN | apply below_drew1 | refine below_set ?_ GE171.out) | exact HB.out))))
          have n1_ := Aside0.mk (blk_below (g := gb171) (o := .cells #[.int .i64 t167, .int .i64 t168, .int .i64 t169, .int .i64 t170] 58 (0, 0)) (by (with_reducible repeat (first | refine blk_drewN ?_ _ | refine blk_drew ?_ | refine blk_alloc ?_ _)); exact BK171.out) hb)
          have n2_ := Aside0.mk (below_step (by repeat (first | (with_reducible first | exact HB.out | apply below_alloc | apply pw_below_drewN | apply below_drew1 | refine below_set ?_ GE171.out) | exact HB.out)) hb)
          clear BK171
          clear HB
          have HO178 := n0_
          have BK171 := n1_
          have HB := n2_
          clear n0_ n1_ n2_
          clear hb ho32
          refine hK.out _ _ ⟨(blk_cell BK171.out 0).trans rfl, (blk_cell BK171.out 1).trans rfl, (blk_cell BK171.out 2).trans rfl, (blk_cell BK171.out 3).trans rfl⟩ (fun hHeld => ?_)
          clear hK K
          refine norm_ (a' := ?_) ?_ ?_
          rotate_left
          ·show Act.put _ (some 49) _ = _
           simp only [Act.put, la_, lb_, lc_, i64_w, i32_w]
           rfl
          refine two_ (i := 10) (j := 14) (Ni := some 50) (Nj := some 54) d25x16 d25x15 rfl rfl rfl rfl (two_of HT_.out (by kernel_rfl)) (by decide) (by decide) (fun K hK => ?_) (fun K hK => ?_)
          ·skip
           have hcv33 := own_string (P := Tryd.prog) Tryd.underlying45 Tryd.underlying5 Tryd.underlying9 (Kd.own_of_R HO178.out)
           refine value_ (w1 := ?_) (v := ?_) (by rfl) rfl ?_ ?_
           rotate_left 2
           ·go_simp
            constructor
            ·rfl
            ·rfl
           clear hcv33
           refine hK.out _ _ ⟨(blk_cell BK171.out 0).trans rfl, (blk_cell BK171.out 1).trans rfl, (blk_cell BK171.out 2).trans rfl, (blk_cell BK171.out 3).trans rfl⟩ (fun hHeld => ?_)
           clear hK K
           refine norm_ (a' := ?_) ?_ ?_
           rotate_left
           ·show Act.put _ (some 50) _ = _
            simp only [Act.put, la_, lb_, lc_, i64_w, i32_w]
            rfl
           refine one_ (i := 14) (N := some 54) d25x17 rfl rfl (one_of HT_.out (by kernel_rfl)) (by decide) (fun K hK => ?_)
           refine goes_ Tryd.func31 (by kernel_rfl) rfl #[.int .u64 (IntKind.u64.wrap (t170)), .int .i64 4] (by rfl) rfl rfl (by (try simp only [List.map_toArray, List.map_cons, List.map_nil]); first | done | rfl | (simp only [List.length_drop, List.length_take]; rfl)) ?_
           with_reducible refine (headgateref01_PutLittle.calls kj13 (IntKind.u64.wrap (t170)) 4 t179 _ A28.out).mono ?_
           rintro e w34 ⟨rfl, hb⟩
           refine ⟨_, rfl, ?_⟩
           have n0_ := Aside0.mk (Kd.R_below (by (with_reducible repeat (first | apply Kd.R_alloc | apply Kd.R_drewN | apply Kd.R_drew)); exact HO178.out) hb)
           have n1_ := Aside0.mk (blk_below (g := gb171) (o := .cells #[.int .i64 t167, .int .i64 t168, .int .i64 t169, .int .i64 t170] 58 (0, 0)) (by (with_reducible repeat (first | refine blk_drewN ?_ _ | refine blk_drew ?_ | refine blk_alloc ?_ _)); exact BK171.out) hb)
           have n2_ := Aside0.mk (below_step (by repeat (first | (with_reducible first | exact HB.out | apply below_alloc | apply pw_below_drewN | apply below_drew1 | refine below_set ?_ GE171.out) | exact HB.out)) hb)
           clear HO178
           clear BK171
           clear HB
           have HO178 := n0_
           have BK171 := n1_
           have HB := n2_
           clear n0_ n1_ n2_
           (try clear hb)
           (try clear hb2)
           (try clear hk)
           (try clear hi)
           refine hK.out _ _ ⟨(blk_cell BK171.out 0).trans rfl, (blk_cell BK171.out 1).trans rfl, (blk_cell BK171.out 2).trans rfl, (blk_cell BK171.out 3).trans rfl⟩ (fun hHeld => ?_)
           clear hK K
           refine norm_ (a' := ?_) ?_ ?_
           rotate_left
           ·show Act.put _ (some 54) _ = _
            simp only [Act.put, la_, lb_, lc_, i64_w, i32_w]
            rfl
           exact norm_ (by simp only [putAll, Act.put, la_, lb_, lc_]) (hCont (v177) _ ⟨hHeld, (by (with_reducible repeat (first | apply Kd.R_alloc | apply Kd.R_drewN | apply Kd.R_drew)); exact HO178.out), (by (with_reducible repeat (first | refine blk_drewN ?_ _ | refine blk_drew ?_ | refine blk_alloc ?_ _)); exact BK171.out), (by repeat (first | (with_reducible first | exact HB.out | apply below_alloc | apply pw_below_drewN | apply below_drew1 | refine below_set ?_ GE171.out) | exact HB.out))⟩)
          ·skip
           refine goes_ Tryd.func31 (by kernel_rfl) rfl #[.int .u64 (IntKind.u64.wrap (t170)), .int .i64 4] (by rfl) rfl rfl (by (try simp only [List.map_toArray, List.map_cons, List.map_nil]); first | done | rfl | (simp only [List.length_drop, List.length_take]; rfl)) ?_
           with_reducible refine (headgateref01_PutLittle.calls kj13 (IntKind.u64.wrap (t170)) 4 t179 _ A28.out).mono ?_
           rintro e w33 ⟨rfl, hb⟩
           refine ⟨_, rfl, ?_⟩
           have n0_ := Aside0.mk (Kd.R_below (by (with_reducible repeat (first | apply Kd.R_alloc | apply Kd.R_drewN | apply Kd.R_drew)); exact HO178.out) hb)
           have n1_ := Aside0.mk (blk_below (g := gb171) (o := .cells #[.int .i64 t167, .int .i64 t168, .int .i64 t169, .int .i64 t170] 58 (0, 0)) (by (with_reducible repeat (first | refine blk_drewN ?_ _ | refine blk_drew ?_ | refine blk_alloc ?_ _)); exact BK171.out) hb)
           have n2_ := Aside0.mk (below_step (by repeat (first | (with_reducible first | exact HB.out | apply below_alloc | apply pw_below_drewN | apply below_drew1 | refine below_set ?_ GE171.out) | exact HB.out)) hb)
           clear HO178
           clear BK171
           clear HB
           have HO178 := n0_
           have BK171 := n1_
           have HB := n2_
           clear n0_ n1_ n2_
           (try clear hb)
           (try clear hb2)
           (try clear hk)
           (try clear hi)
           refine hK.out _ _ ⟨(blk_cell BK171.out 0).trans rfl, (blk_cell BK171.out 1).trans rfl, (blk_cell BK171.out 2).trans rfl, (blk_cell BK171.out 3).trans rfl⟩ (fun hHeld => ?_)
           clear hK K
           refine norm_ (a' := ?_) ?_ ?_
           rotate_left
           ·show Act.put _ (some 54) _ = _
            simp only [Act.put, la_, lb_, lc_, i64_w, i32_w]
            rfl
           refine one_ (i := 10) (N := some 50) d25x17 rfl rfl (one_of HT_.out (by kernel_rfl)) (by decide) (fun K hK => ?_)
           have hcv34 := own_string (P := Tryd.prog) Tryd.underlying45 Tryd.underlying5 Tryd.underlying9 (Kd.own_of_R HO178.out)
           refine value_ (w1 := ?_) (v := ?_) (by rfl) rfl ?_ ?_
           rotate_left 2
           ·go_simp
            constructor
            ·rfl
            ·rfl
           clear hcv34
           refine hK.out _ _ ⟨(blk_cell BK171.out 0).trans rfl, (blk_cell BK171.out 1).trans rfl, (blk_cell BK171.out 2).trans rfl, (blk_cell BK171.out 3).trans rfl⟩ (fun hHeld => ?_)
           clear hK K
           refine norm_ (a' := ?_) ?_ ?_
           rotate_left
           ·show Act.put _ (some 50) _ = _
            simp only [Act.put, la_, lb_, lc_, i64_w, i32_w]
            rfl
           exact norm_ (by simp only [putAll, Act.put, la_, lb_, lc_]) (hCont (v177) _ ⟨hHeld, (by (with_reducible repeat (first | apply Kd.R_alloc | apply Kd.R_drewN | apply Kd.R_drew)); exact HO178.out), (by (with_reducible repeat (first | refine blk_drewN ?_ _ | refine blk_drew ?_ | refine blk_alloc ?_ _)); exact BK171.out), (by repeat (first | (with_reducible first | exact HB.out | apply below_alloc | apply pw_below_drewN | apply below_drew1 | refine below_set ?_ GE171.out) | exact HB.out))⟩)
         ·skip
          refine goes_ Tryd.func31 (by kernel_rfl) rfl #[.int .u64 (IntKind.u64.wrap (t170)), .int .i64 4] (by rfl) rfl rfl (by (try simp only [List.map_toArray, List.map_cons, List.map_nil]); first | done | rfl | (simp only [List.length_drop, List.length_take]; rfl)) ?_
          with_reducible refine (headgateref01_PutLittle.calls kj13 (IntKind.u64.wrap (t170)) 4 t179 _ A28.out).mono ?_
          rintro e w31 ⟨rfl, hb⟩
          refine ⟨_, rfl, ?_⟩
          have n0_ := Aside0.mk (blk_below (g := gb171) (o := .cells #[.int .i64 t167, .int .i64 t168, .int .i64 t169, .int .i64 t170] 58 (0, 0)) (by (with_reducible repeat (first | refine blk_drewN ?_ _ | refine blk_drew ?_ | refine blk_alloc ?_ _)); exact BK171.out) hb)
          have n1_ := Aside0.mk (below_step (by repeat (first | (with_reducible first | exact HB.out | apply below_alloc | apply pw_below_drewN | apply below_drew1 | refine below_set ?_ GE171.out) | exact HB.out)) hb)
          clear BK171
          clear HB
          have BK171 := n0_
          have HB := n1_
          clear n0_ n1_
          (try clear hb)
          (try clear hb2)
          (try clear hk)
          (try clear hi)
          refine hK.out _ _ ⟨(blk_cell BK171.out 0).trans rfl, (blk_cell BK171.out 1).trans rfl, (blk_cell BK171.out 2).trans rfl, (blk_cell BK171.out 3).trans rfl⟩ (fun hHeld => ?_)
          clear hK K
          refine norm_ (a' := ?_) ?_ ?_
          rotate_left
          ·show Act.put _ (some 54) _ = _
           simp only [Act.put, la_, lb_, lc_, i64_w, i32_w]
           rfl
          refine one_ (i := 9) (N := some 49) d25x15 rfl rfl (one_of HT_.out (by kernel_rfl)) (by decide) (fun K hK => ?_)
          refine Kd.R_lit_step (Kd.int .u8) _ 5 ?hg (N := 49) ?hd (xs := ([(a0) % 256, (wrap64 (x1_11 + 2)) % 256, (t167) % 256, 0] : List Int)) (inner := [.int .u8 ((a0) % 256), .int .u8 ((wrap64 (x1_11 + 2)) % 256), .int .u8 ((t167) % 256), .int .u8 0]) (ok := fun _ => True) (okp := fun _ => True) ?hr ?hp (fun _ hk => hk) trivial (Below.refl _ _) (Nat.le_refl _) (by simp) ?_; (case hd => rfl); (case hg => rfl); (case hr => first | (go_simp; done) | (go_simp; rfl)); (case hp => exact (Reps.one (show Kd.M (Kd.int .u8) _ _ _ ((a0) % 256) [.int .u8 ((a0) % 256)] from rfl) (Reps.one (show Kd.M (Kd.int .u8) _ _ _ ((wrap64 (x1_11 + 2)) % 256) [.int .u8 ((wrap64 (x1_11 + 2)) % 256)] from rfl) (Reps.one (show Kd.M (Kd.int .u8) _ _ _ ((t167) % 256) [.int .u8 ((t167) % 256)] from rfl) (Reps.one (show Kd.M (Kd.int .u8) _ _ _ 0 [.int .u8 0] from rfl) (Reps.none _ _))))))
          intro v177 w32 ho33 hb hg_ hnew_
          clear hg_ hnew_
          (first | rw [← Ny176.out] at ho33 | (simp only [Int.reduceToNat] at ho33; rw [← Ny176.out] at ho33))
          have n0_ := Aside0.mk (Kd.R_lower ho33 (below_size (by repeat (first | (with_reducible first | exact HB.out | apply below_alloc | apply pw_below_drewN | apply below_drew1 | refine below_set ?_ GE171.out) | exact HB.out))))
          have n1_ := Aside0.mk (blk_below (g := gb171) (o := .cells #[.int .i64 t167, .int .i64 t168, .int .i64 t169, .int .i64 t170] 58 (0, 0)) (by (with_reducible repeat (first | refine blk_drewN ?_ _ | refine blk_drew ?_ | refine blk_alloc ?_ _)); exact BK171.out) hb)
          have n2_ := Aside0.mk (below_step (by repeat (first | (with_reducible first | exact HB.out | apply below_alloc | apply pw_below_drewN | apply below_drew1 | refine below_set ?_ GE171.out) | exact HB.out)) hb)
          clear BK171
          clear HB
          have HO178 := n0_
          have BK171 := n1_
          have HB := n2_
          clear n0_ n1_ n2_
          clear hb ho33
          refine hK.out _ _ ⟨(blk_cell BK171.out 0).trans rfl, (blk_cell BK171.out 1).trans rfl, (blk_cell BK171.out 2).trans rfl, (blk_cell BK171.out 3).trans rfl⟩ (fun hHeld => ?_)
          clear hK K
          refine norm_ (a' := ?_) ?_ ?_
          rotate_left
          ·show Act.put _ (some 49) _ = _
           simp only [Act.put, la_, lb_, lc_, i64_w, i32_w]
           rfl
          refine one_ (i := 10) (N := some 50) d25x17 rfl rfl (one_of HT_.out (by kernel_rfl)) (by decide) (fun K hK => ?_)
          have hcv34 := own_string (P := Tryd.prog) Tryd.underlying45 Tryd.underlying5 Tryd.underlying9 (Kd.own_of_R HO178.out)
          refine value_ (w1 := ?_) (v := ?_) (by rfl) rfl ?_ ?_
          rotate_left 2
          ·go_simp
           constructor
           ·rfl
           ·rfl
          clear hcv34
          refine hK.out _ _ ⟨(blk_cell BK171.out 0).trans rfl, (blk_cell BK171.out 1).trans rfl, (blk_cell BK171.out 2).trans rfl, (blk_cell BK171.out 3).trans rfl⟩ (fun hHeld => ?_)
          clear hK K
          refine norm_ (a' := ?_) ?_ ?_
          rotate_left
          ·show Act.put _ (some 50) _ = _
           simp only [Act.put, la_, lb_, lc_, i64_w, i32_w]
           rfl
          exact norm_ (by simp only [putAll, Act.put, la_, lb_, lc_]) (hCont (v177) _ ⟨hHeld, (by (with_reducible repeat (first | apply Kd.R_alloc | apply Kd.R_drewN | apply Kd.R_drew)); exact HO178.out), (by (with_reducible repeat (first | refine blk_drewN ?_ _ | refine blk_drew ?_ | refine blk_alloc ?_ _)); exact BK171.out), (by repeat (first | (with_reducible first | exact HB.out | apply below_alloc | apply pw_below_drewN | apply below_drew1 | refine below_set ?_ GE171.out) | exact HB.out))⟩)
        rintro v177 w35 ⟨hS_, h0_, h1_, h2_⟩
        have n0_ : Aside0 (Kd.R (Kd.int .u8) 5 w35 w.heap.size (fun _ => True) v177 y176) := ⟨h0_⟩
        have n1_ : Aside0 (w35.heap[gb171]? = some (.cells #[.int .i64 t167, .int .i64 t168, .int .i64 t169, .int .i64 t170] 58 (0, 0))) := ⟨h1_⟩
        have n2_ : Aside0 (Below w.heap.size w w35) := ⟨h2_⟩
        clear BK171
        clear HB
        clear h0_ h1_ h2_
        have HO178 := n0_
        have BK171 := n1_
        have HB := n2_
        clear n0_ n1_ n2_
        have hHeld : w35.cell? ⟨gb171, 0, none⟩ = some (.int .i64 t167) ∧ w35.cell? ⟨gb171, 1, none⟩ = some (.int .i64 t168) ∧ w35.cell? ⟨gb171, 2, none⟩ = some (.int .i64 t169) ∧ w35.cell? ⟨gb171, 3, none⟩ = some (.int .i64 t170) := hS_
        refine norm_ (a' := ?_) ?_ ?_
        rotate_left
        ·simp only [putAll, Act.put, la_, lb_, lc_]
         rfl
        refine pon_ 15 (some 55) d25x18 HT_.out ?_
        refine pon_ 16 (some 10) d25x19 HT_.out ?_
        refine done_ (done_of HT_.out (by kernel_rfl)) ?_
        try go_wp2
        go_ret
        exact ⟨by first | rfl | (simp [errW_none, errW_some] <;> rfl) | (simp [*, errW_none, errW_some] <;> rfl) | (simp [bt, *]; done) | (unfold bt; simp [*]; done), by repeat (first | (with_reducible first | exact HB.out | apply below_alloc | apply pw_below_drewN | apply below_drew1 | refine below_set ?_ GE171.out) | exact HB.out)⟩
       rw [if_pos c18] at H
       have c18b0 : decide (0 < a2) = true := decide_eq_true c18
       clear c18
       obtain ⟨y172, hy172⟩ : ∃ y_ : List Int, y_ = (([(a0) % 256, (wrap64 (x1_11 + 2)) % 256, (t167) % 256, (t168) % 256] : List Int)) := ⟨_, rfl⟩
       replace H : ((headgateref01_PutLittle.f kj13 (IntKind.u64.wrap (t170)) 4).bind fun t175 => (if (strOfNums y172).size + t175.size ≤ 9223372036854775807 then (some ((strOfNums y172) ++ t175)) else (none))) = some r := by first | (rw [hy172]; with_reducible exact H) | (have H2_ := (Option.bind_some _ _).symm.trans H; rw [hy172]; with_reducible exact H2_) | (have H2_ := (Option.bind_some _ _).symm.trans H; with_reducible exact H2_) | with_reducible exact H | (rw [hy172]; exact H) | exact H
       have Ny172 := Aside0.mk hy172
       clear hy172
       replace H := Option.bind_eq_some_iff.mp H
       obtain ⟨t175, A190, H⟩ := H
       try dsimp only at H
       have A19 := Aside0.mk A190
       clear A190
       refine neg_first (p := ((strOfNums y172).size + t175.size ≤ 9223372036854775807)) (fun c20 => ?_) (fun c20 => ?_)
       ·rw [if_neg c20] at H
        exact absurd H (by simp)
       rw [if_pos c20] at H
       have c20b0 := eq_true c20
       have c20b1 : decide ((strOfNums y172).size + t175.size ≤ 9223372036854775807) = true := decide_eq_true c20
       try have c20b2 : (9223372036854775807 < (strOfNums y172).size + t175.size) = False := eq_false (Nat.not_lt.2 c20)
       obtain rfl := Option.some.inj H
       have hcz21_0 : wc.cell? ⟨gb171, 0, none⟩ = some (.int .i64 t167) := (blk_cell BK171.out 0).trans rfl
       have hcz21_1 : wc.cell? ⟨gb171, 1, none⟩ = some (.int .i64 t168) := (blk_cell BK171.out 1).trans rfl
       have hcz21_2 : wc.cell? ⟨gb171, 2, none⟩ = some (.int .i64 t169) := (blk_cell BK171.out 2).trans rfl
       have hcz21_3 : wc.cell? ⟨gb171, 3, none⟩ = some (.int .i64 t170) := (blk_cell BK171.out 3).trans rfl
       have hfz21_0 := blk_frozen BK171.out 0
       have hfz21_1 := blk_frozen BK171.out 1
       have hfz21_2 := blk_frozen BK171.out 2
       have hfz21_3 := blk_frozen BK171.out 3
       try go_wp2
       have n0_ := Aside0.mk (blk_drew BK171.out)
       have n1_ := Aside0.mk (below_drew1 HB.out)
       clear BK171
       clear HB
       have BK171 := n0_
       have HB := n1_
       clear n0_ n1_
       refine start_ (n := 17) (S := fun w' => w'.cell? ⟨gb171, 0, none⟩ = some (.int .i64 t167) ∧ w'.cell? ⟨gb171, 1, none⟩ = some (.int .i64 t168) ∧ w'.cell? ⟨gb171, 2, none⟩ = some (.int .i64 t169) ∧ w'.cell? ⟨gb171, 3, none⟩ = some (.int .i64 t170)) (ds := []) d25x0 (by kernel_rfl) rfl rfl ⟨(blk_cell BK171.out 0).trans rfl, (blk_cell BK171.out 1).trans rfl, (blk_cell BK171.out 2).trans rfl, (blk_cell BK171.out 3).trans rfl⟩ (fun hHeld => ?_); refine with_tabW headgateref29_common.tab9 headgateref29_common.bits9 (fun HT_ HW_ => ?_)
       generalize wc.drew = w22 at BK171 HB hHeld ⊢
       refine pon_ 0 (some 40) d25x1 HT_.out ?_
       refine pon_ 1 (some 41) d25x2 HT_.out ?_
       refine pon_ 2 (some 42) d25x3 HT_.out ?_
       refine pon_ 3 (some 43) d25x4 HT_.out ?_
       refine pon_ 4 (some 44) d25x5 HT_.out ?_
       refine pon_ 7 (some 47) d25x6 HT_.out ?_
       refine pon_ 8 (some 48) d25x7 HT_.out ?_
       refine pon_ 11 (some 51) d25x8 HT_.out ?_
       refine ptk_ 5 (some 45) d25x9 HT_.out HW_.out hHeld ?_
       refine pon_ 6 (some 46) d25x10 HT_.out ?_
       refine ptk_ 12 (some 52) d25x11 HT_.out HW_.out hHeld ?_
       refine pon_ 13 (some 53) d25x12 HT_.out ?_
       refine join_ (σ := Value) 2 d25x17 (fun s_ => [(49, s_), (50, .string (strOfNums y172)), (54, .string t175)]) (fun s_ w' => (w'.cell? ⟨gb171, 0, none⟩ = some (.int .i64 t167) ∧ w'.cell? ⟨gb171, 1, none⟩ = some (.int .i64 t168) ∧ w'.cell? ⟨gb171, 2, none⟩ = some (.int .i64 t169) ∧ w'.cell? ⟨gb171, 3, none⟩ = some (.int .i64 t170)) ∧ (Kd.R (Kd.int .u8) 5 w' w.heap.size (fun _ => True) s_ y172) ∧ (w'.heap[gb171]? = some (.cells #[.int .i64 t167, .int .i64 t168, .int .i64 t169, .int .i64 t170] 58 (0, 0))) ∧ (Below w.heap.size w w')) ?_ ?_
       rotate_left
       ·intro hCont
        refine two_ (i := 9) (j := 14) (Ni := some 49) (Nj := some 54) d25x14 d25x13 rfl rfl rfl rfl (two_of HT_.out (by kernel_rfl)) (by decide) (by decide) (fun K hK => ?_) (fun K hK => ?_)
        ·skip
         refine Kd.R_lit_step (Kd.int .u8) _ 5 ?hg (N := 49) ?hd (xs := ([(a0) % 256, (wrap64 (x1_11 + 2)) % 256, (t167) % 256, (t168) % 256] : List Int)) (inner := [.int .u8 ((a0) % 256), .int .u8 ((wrap64 (x1_11 + 2)) % 256), .int .u8 ((t167) % 256), .int .u8 ((t168) % 256)]) (ok := fun _ => True) (okp := fun _ => True) ?hr ?hp (fun _ hk => hk) trivial (Below.refl _ _) (Nat.le_refl _) (by simp) ?_; (case hd => rfl); (case hg => rfl); (case hr => first | (go_simp; done) | (go_simp; rfl)); (case hp => exact (Reps.one (show Kd.M (Kd.int .u8) _ _ _ ((a0) % 256) [.int .u8 ((a0) % 256)] from rfl) (Reps.one (show Kd.M (Kd.int .u8) _ _ _ ((wrap64 (x1_11 + 2)) % 256) [.int .u8 ((wrap64 (x1_11 + 2)) % 256)] from rfl) (Reps.one (show Kd.M (Kd.int .u8) _ _ _ ((t167) % 256) [.int .u8 ((t167) % 256)] from rfl) (Reps.one (show Kd.M (Kd.int .u8) _ _ _ ((t168) % 256) [.int .u8 ((t168) % 256)] from rfl) (Reps.none _ _))))))
         intro v173 w23 ho24 hb hg_ hnew_
         clear hg_ hnew_
         (first | rw [← Ny172.out] at ho24 | (simp only [Int.reduceToNat] at ho24; rw [← Ny172.out] at ho24))
         have n0_ := Aside0.mk (Kd.R_lower ho24 (below_size (by repeat (first | (with_reducible first | exact HB.out | apply below_alloc | apply pw_below_drewN | apply below_drew1 | refine below_set ?_ GE171.out) | exact HB.out))))
         have n1_ := Aside0.mk (blk_below (g := gb171) (o := .cells #[.int .i64 t167, .int .i64 t168, .int .i64 t169, .int .i64 t170] 58 (0, 0)) (by (with_reducible repeat (first | refine blk_drewN ?_ _ | refine blk_drew ?_ | refine blk_alloc ?_ _)); exact BK171.out) hb)
         have n2_ := Aside0.mk (below_step (by repeat (first | (with_reducible first | exact HB.out | apply below_alloc | apply pw_below_drewN | apply below_drew1 | refine below_set ?_ GE171.out) | exact HB.out)) hb)
         clear BK171
         clear HB
         have HO174 := n0_
         have BK171 := n1_
         have HB := n2_
         clear n0_ n1_ n2_
         clear hb ho24
         refine hK.out _ _ ⟨(blk_cell BK171.out 0).trans rfl, (blk_cell BK171.out 1).trans rfl, (blk_cell BK171.out 2).trans rfl, (blk_cell BK171.out 3).trans rfl⟩ (fun hHeld => ?_)
         clear hK K
         refine norm_ (a' := ?_) ?_ ?_
         rotate_left
         ·show Act.put _ (some 49) _ = _
          simp only [Act.put, la_, lb_, lc_, i64_w, i32_w]
          rfl
         refine two_ (i := 10) (j := 14) (Ni := some 50) (Nj := some 54) d25x16 d25x15 rfl rfl rfl rfl (two_of HT_.out (by kernel_rfl)) (by decide) (by decide) (fun K hK => ?_) (fun K hK => ?_)
         ·skip
          have hcv25 := own_string (P := Tryd.prog) Tryd.underlying45 Tryd.underlying5 Tryd.underlying9 (Kd.own_of_R HO174.out)
          refine value_ (w1 := ?_) (v := ?_) (by rfl) rfl ?_ ?_
          rotate_left 2
          ·go_simp
           constructor
           ·rfl
           ·rfl
          clear hcv25
          refine hK.out _ _ ⟨(blk_cell BK171.out 0).trans rfl, (blk_cell BK171.out 1).trans rfl, (blk_cell BK171.out 2).trans rfl, (blk_cell BK171.out 3).trans rfl⟩ (fun hHeld => ?_)
          clear hK K
          refine norm_ (a' := ?_) ?_ ?_
          rotate_left
          ·show Act.put _ (some 50) _ = _
           simp only [Act.put, la_, lb_, lc_, i64_w, i32_w]
           rfl
          refine one_ (i := 14) (N := some 54) d25x17 rfl rfl (one_of HT_.out (by kernel_rfl)) (by decide) (fun K hK => ?_)
          refine goes_ Tryd.func31 (by kernel_rfl) rfl #[.int .u64 (IntKind.u64.wrap (t170)), .int .i64 4] (by rfl) rfl rfl (by (try simp only [List.map_toArray, List.map_cons, List.map_nil]); first | done | rfl | (simp only [List.length_drop, List.length_take]; rfl)) ?_
          with_reducible refine (headgateref01_PutLittle.calls kj13 (IntKind.u64.wrap (t170)) 4 t175 _ A19.out).mono ?_
          rintro e w26 ⟨rfl, hb⟩
          refine ⟨_, rfl, ?_⟩
          have n0_ := Aside0.mk (Kd.R_below (by (with_reducible repeat (first | apply Kd.R_alloc | apply Kd.R_drewN | apply Kd.R_drew)); exact HO174.out) hb)
          have n1_ := Aside0.mk (blk_below (g := gb171) (o := .cells #[.int .i64 t167, .int .i64 t168, .int .i64 t169, .int .i64 t170] 58 (0, 0)) (by (with_reducible repeat (first | refine blk_drewN ?_ _ | refine blk_drew ?_ | refine blk_alloc ?_ _)); exact BK171.out) hb)
          have n2_ := Aside0.mk (below_step (by repeat (first | (with_reducible first | exact HB.out | apply below_alloc | apply pw_below_drewN | apply below_drew1 | refine below_set ?_ GE171.out) | exact HB.out)) hb)
          clear HO174
          clear BK171
          clear HB
          have HO174 := n0_
          have BK171 := n1_
          have HB := n2_
          clear n0_ n1_ n2_
          (try clear hb)
          (try clear hb2)
          (try clear hk)
          (try clear hi)
          refine hK.out _ _ ⟨(blk_cell BK171.out 0).trans rfl, (blk_cell BK171.out 1).trans rfl, (blk_cell BK171.out 2).trans rfl, (blk_cell BK171.out 3).trans rfl⟩ (fun hHeld => ?_)
          clear hK K
          refine norm_ (a' := ?_) ?_ ?_
          rotate_left
          ·show Act.put _ (some 54) _ = _
           simp only [Act.put, la_, lb_, lc_, i64_w, i32_w]
           rfl
          exact norm_ (by simp only [putAll, Act.put, la_, lb_, lc_]) (hCont (v173) _ ⟨hHeld, (by (with_reducible repeat (first | apply Kd.R_alloc | apply Kd.R_drewN | apply Kd.R_drew)); exact HO174.out), (by (with_reducible repeat (first | refine blk_drewN ?_ _ | refine blk_drew ?_ | refine blk_alloc ?_ _)); exact BK171.out), (by repeat (first | (with_reducible first | exact HB.out | apply below_alloc | apply pw_below_drewN | apply below_drew1 | refine below_set ?_ GE171.out) | exact HB.out))⟩)
         ·skip
          refine goes_ Tryd.func31 (by kernel_rfl) rfl #[.int .u64 (IntKind.u64.wrap (t170)), .int .i64 4] (by rfl) rfl rfl (by (try simp only [List.map_toArray, List.map_cons, List.map_nil]); first | done | rfl | (simp only [List.length_drop, List.length_take]; rfl)) ?_
          with_reducible refine (headgateref01_PutLittle.calls kj13 (IntKind.u64.wrap (t170)) 4 t175 _ A19.out).mono ?_
          rintro e w25 ⟨rfl, hb⟩
          refine ⟨_, rfl, ?_⟩
          have n0_ := Aside0.mk (Kd.R_below (by (with_reducible repeat (first | apply Kd.R_alloc | apply Kd.R_drewN | apply Kd.R_drew)); exact HO174.out) hb)
          have n1_ := Aside0.mk (blk_below (g := gb171) (o := .cells #[.int .i64 t167, .int .i64 t168, .int .i64 t169, .int .i64 t170] 58 (0, 0)) (by (with_reducible repeat (first | refine blk_drewN ?_ _ | refine blk_drew ?_ | refine blk_alloc ?_ _)); exact BK171.out) hb)
          have n2_ := Aside0.mk (below_step (by repeat (first | (with_reducible first | exact HB.out | apply below_alloc | apply pw_below_drewN | apply below_drew1 | refine below_set ?_ GE171.out) | exact HB.out)) hb)
          clear HO174
          clear BK171
          clear HB
          have HO174 := n0_
          have BK171 := n1_
          have HB := n2_
          clear n0_ n1_ n2_
          (try clear hb)
          (try clear hb2)
          (try clear hk)
          (try clear hi)
          refine hK.out _ _ ⟨(blk_cell BK171.out 0).trans rfl, (blk_cell BK171.out 1).trans rfl, (blk_cell BK171.out 2).trans rfl, (blk_cell BK171.out 3).trans rfl⟩ (fun hHeld => ?_)
          clear hK K
          refine norm_ (a' := ?_) ?_ ?_
          rotate_left
          ·show Act.put _ (some 54) _ = _
           simp only [Act.put, la_, lb_, lc_, i64_w, i32_w]
           rfl
          refine one_ (i := 10) (N := some 50) d25x17 rfl rfl (one_of HT_.out (by kernel_rfl)) (by decide) (fun K hK => ?_)
          have hcv26 := own_string (P := Tryd.prog) Tryd.underlying45 Tryd.underlying5 Tryd.underlying9 (Kd.own_of_R HO174.out)
          refine value_ (w1 := ?_) (v := ?_) (by rfl) rfl ?_ ?_
          rotate_left 2
          ·go_simp
           constructor
           ·rfl
           ·rfl
          clear hcv26
          refine hK.out _ _ ⟨(blk_cell BK171.out 0).trans rfl, (blk_cell BK171.out 1).trans rfl, (blk_cell BK171.out 2).trans rfl, (blk_cell BK171.out 3).trans rfl⟩ (fun hHeld => ?_)
          clear hK K
          refine norm_ (a' := ?_) ?_ ?_
          rotate_left
          ·show Act.put _ (some 50) _ = _
           simp only [Act.put, la_, lb_, lc_, i64_w, i32_w]
           rfl
          exact norm_ (by simp only [putAll, Act.put, la_, lb_, lc_]) (hCont (v173) _ ⟨hHeld, (by (with_reducible repeat (first | apply Kd.R_alloc | apply Kd.R_drewN | apply Kd.R_drew)); exact HO174.out), (by (with_reducible repeat (first | refine blk_drewN ?_ _ | refine blk_drew ?_ | refine blk_alloc ?_ _)); exact BK171.out), (by repeat (first | (with_reducible first | exact HB.out | apply below_alloc | apply pw_below_drewN | apply below_drew1 | refine below_set ?_ GE171.out) | exact HB.out))⟩)
        ·skip
         refine goes_ Tryd.func31 (by kernel_rfl) rfl #[.int .u64 (IntKind.u64.wrap (t170)), .int .i64 4] (by rfl) rfl rfl (by (try simp only [List.map_toArray, List.map_cons, List.map_nil]); first | done | rfl | (simp only [List.length_drop, List.length_take]; rfl)) ?_
         with_reducible refine (headgateref01_PutLittle.calls kj13 (IntKind.u64.wrap (t170)) 4 t175 _ A19.out).mono ?_
         rintro e w23 ⟨rfl, hb⟩
         refine ⟨_, rfl, ?_⟩
         have n0_ := Aside0.mk (blk_below (g := gb171) (o := .cells #[.int .i64 t167, .int .i64 t168, .int .i64 t169, .int .i64 t170] 58 (0, 0)) (by (with_reducible repeat (first | refine blk_drewN ?_ _ | refine blk_drew ?_ | refine blk_alloc ?_ _)); exact BK171.out) hb)
         have n1_ := Aside0.mk (below_step (by repeat (first | (with_reducible first | exact HB.out | apply below_alloc | apply pw_below_drewN | apply below_drew1 | refine below_set ?_ GE171.out) | exact HB.out)) hb)
         clear BK171
         clear HB
         have BK171 := n0_
         have HB := n1_
         clear n0_ n1_
         (try clear hb)
         (try clear hb2)
         (try clear hk)
         (try clear hi)
         refine hK.out _ _ ⟨(blk_cell BK171.out 0).trans rfl, (blk_cell BK171.out 1).trans rfl, (blk_cell BK171.out 2).trans rfl, (blk_cell BK171.out 3).trans rfl⟩ (fun hHeld => ?_)
         clear hK K
         refine norm_ (a' := ?_) ?_ ?_
         rotate_left
         ·show Act.put _ (some 54) _ = _
          simp only [Act.put, la_, lb_, lc_, i64_w, i32_w]
          rfl
         refine one_ (i := 9) (N := some 49) d25x15 rfl rfl (one_of HT_.out (by kernel_rfl)) (by decide) (fun K hK => ?_)
         refine Kd.R_lit_step (Kd.int .u8) _ 5 ?hg (N := 49) ?hd (xs := ([(a0) % 256, (wrap64 (x1_11 + 2)) % 256, (t167) % 256, (t168) % 256] : List Int)) (inner := [.int .u8 ((a0) % 256), .int .u8 ((wrap64 (x1_11 + 2)) % 256), .int .u8 ((t167) % 256), .int .u8 ((t168) % 256)]) (ok := fun _ => True) (okp := fun _ => True) ?hr ?hp (fun _ hk => hk) trivial (Below.refl _ _) (Nat.le_refl _) (by simp) ?_; (case hd => rfl); (case hg => rfl); (case hr => first | (go_simp; done) | (go_simp; rfl)); (case hp => exact (Reps.one (show Kd.M (Kd.int .u8) _ _ _ ((a0) % 256) [.int .u8 ((a0) % 256)] from rfl) (Reps.one (show Kd.M (Kd.int .u8) _ _ _ ((wrap64 (x1_11 + 2)) % 256) [.int .u8 ((wrap64 (x1_11 + 2)) % 256)] from rfl) (Reps.one (show Kd.M (Kd.int .u8) _ _ _ ((t167) % 256) [.int .u8 ((t167) % 256)] from rfl) (Reps.one (show Kd.M (Kd.int .u8) _ _ _ ((t168) % 256) [.int .u8 ((t168) % 256)] from rfl) (Reps.none _ _))))))
         intro v173 w24 ho25 hb hg_ hnew_
         clear hg_ hnew_
         (first | rw [← Ny172.out] at ho25 | (simp only [Int.reduceToNat] at ho25; rw [← Ny172.out] at ho25))
         have n0_ := Aside0.mk (Kd.R_lower ho25 (below_size (by repeat (first | (with_reducible first | exact HB.out | apply below_alloc | apply pw_below_drewN | apply below_drew1 | refine below_set ?_ GE171.out) | exact HB.out))))
         have n1_ := Aside0.mk (blk_below (g := gb171) (o := .cells #[.int .i64 t167, .int .i64 t168, .int .i64 t169, .int .i64 t170] 58 (0, 0)) (by (with_reducible repeat (first | refine blk_drewN ?_ _ | refine blk_drew ?_ | refine blk_alloc ?_ _)); exact BK171.out) hb)
         have n2_ := Aside0.mk (below_step (by repeat (first | (with_reducible first | exact HB.out | apply below_alloc | apply pw_below_drewN | apply below_drew1 | refine below_set ?_ GE171.out) | exact HB.out)) hb)
         clear BK171
         clear HB
         have HO174 := n0_
         have BK171 := n1_
         have HB := n2_
         clear n0_ n1_ n2_
         clear hb ho25
         refine hK.out _ _ ⟨(blk_cell BK171.out 0).trans rfl, (blk_cell BK171.out 1).trans rfl, (blk_cell BK171.out 2).trans rfl, (blk_cell BK171.out 3).trans rfl⟩ (fun hHeld => ?_)
         clear hK K
         refine norm_ (a' := ?_) ?_ ?_
         rotate_left
         ·show Act.put _ (some 49) _ = _
          simp only [Act.put, la_, lb_, lc_, i64_w, i32_w]
          rfl
         refine one_ (i := 10) (N := some 50) d25x17 rfl rfl (one_of HT_.out (by kernel_rfl)) (by decide) (fun K hK => ?_)
         have hcv26 := own_string (P := Tryd.prog) Tryd.underlying45 Tryd.underlying5 Tryd.underlying9 (Kd.own_of_R HO174.out)
         refine value_ (w1 := ?_) (v := ?_) (by rfl) rfl ?_ ?_
         rotate_left 2
         ·go_simp
          constructor
          ·rfl
          ·rfl
         clear hcv26
         refine hK.out _ _ ⟨(blk_cell BK171.out 0).trans rfl, (blk_cell BK171.out 1).trans rfl, (blk_cell BK171.out 2).trans rfl, (blk_cell BK171.out 3).trans rfl⟩ (fun hHeld => ?_)
         clear hK K
         refine norm_ (a' := ?_) ?_ ?_
         rotate_left
         ·show Act.put _ (some 50) _ = _
          simp only [Act.put, la_, lb_, lc_, i64_w, i32_w]
          rfl
         exact norm_ (by simp only [putAll, Act.put, la_, lb_, lc_]) (hCont (v173) _ ⟨hHeld, (by (with_reducible repeat (first | apply Kd.R_alloc | apply Kd.R_drewN | apply Kd.R_drew)); exact HO174.out), (by (with_reducible repeat (first | refine blk_drewN ?_ _ | refine blk_drew ?_ | refine blk_alloc ?_ _)); exact BK171.out), (by repeat (first | (with_reducible first | exact HB.out | apply below_alloc | apply pw_below_drewN | apply below_drew1 | refine below_set ?_ GE171.out) | exact HB.out))⟩)
       rintro v173 w27 ⟨hS_, h0_, h1_, h2_⟩
       have n0_ : Aside0 (Kd.R (Kd.int .u8) 5 w27 w.heap.size (fun _ => True) v173 y172) := ⟨h0_⟩
       have n1_ : Aside0 (w27.heap[gb171]? = some (.cells #[.int .i64 t167, .int .i64 t168, .int .i64 t169, .int .i64 t170] 58 (0, 0))) := ⟨h1_⟩
       have n2_ : Aside0 (Below w.heap.size w w27) := ⟨h2_⟩
       clear BK171
       clear HB
       clear h0_ h1_ h2_
       have HO174 := n0_
       have BK171 := n1_
       have HB := n2_
       clear n0_ n1_ n2_
       have hHeld : w27.cell? ⟨gb171, 0, none⟩ = some (.int .i64 t167) ∧ w27.cell? ⟨gb171, 1, none⟩ = some (.int .i64 t168) ∧ w27.cell? ⟨gb171, 2, none⟩ = some (.int .i64 t169) ∧ w27.cell? ⟨gb171, 3, none⟩ = some (.int .i64 t170) := hS_
       refine norm_ (a' := ?_) ?_ ?_
       rotate_left
       ·simp only [putAll, Act.put, la_, lb_, lc_]
        rfl
       refine pon_ 15 (some 55) d25x18 HT_.out ?_
       refine pon_ 16 (some 10) d25x19 HT_.out ?_
       refine done_ (done_of HT_.out (by kernel_rfl)) ?_
       try go_wp2
       go_ret
       exact ⟨by first | rfl | (simp [errW_none, errW_some] <;> rfl) | (simp [*, errW_none, errW_some] <;> rfl) | (simp [bt, *]; done) | (unfold bt; simp [*]; done), by repeat (first | (with_reducible first | exact HB.out | apply below_alloc | apply pw_below_drewN | apply below_drew1 | refine below_set ?_ GE171.out) | exact HB.out)⟩
end Go.Proofs.YtkbjhblffbcleaaDoor.P
