-- written by this session's patched copy of the printer (wip/tools/patch_print.py); Lean checks it
import Derived.Test.YtkbjhblffbcleaaDoorPx0
import Derived.Test.YtkbjhblffbcleaaDoorPx1
import Derived.Test.YtkbjhblffbcleaaDoorPx2
namespace Go.Proofs.YtkbjhblffbcleaaDoor.P
open Go.RowKit Go.Proofs.YtkbjhblffbcleaaDoorW.PrintWords Go.Proofs.YtkbjhblffbcleaaDoorW.PrintLast Go.Proofs.YtkbjhblffbcleaaDoorW.PrintMore
attribute [local go_sem] max2_int min2_int max_two min_two max_three min_three max_four min_four   -- for this text's walks alone
set_option linter.unusedVariables false
set_option linter.unusedSimpArgs false
set_option linter.unnecessarySimpa false

/-! ### tpdu_Put: function 13 -/
def tpdu_Put.j0 : Nat → Bool → Bool → Bool → Int → Int → ByteArray → ByteArray → Int → Int → Bool → Option (ByteArray × Int)
 | 0, _, _, _, _, _, _, _, _, _, _ => none
 | k + 1, x1, x2, x38, x127000, x127001, x127002, x127003, x131000, x131001, x131002 => if x38 = true then (some ((⟨#[]⟩ : ByteArray), 200)) else ((tpdu_form_measure.f x131000 x131001 x131002 (x127003.size : Int) x1 x2).bind fun bt131 => ((tpdu_measured_flags.f bt131.1 bt131.2.1 bt131.2.2.1 bt131.2.2.2.1 bt131.2.2.2.2 x127001).bind fun t137 => ((some (([(x127000) % 256, (t137) % 256, (bt131.1) % 256, (bt131.2.1) % 256] : List Int) : List Int)).bind fun y138 => ((fields_PutLittle.f k (IntKind.u64.wrap (bt131.2.2.1)) 4).bind fun t141 => (if (strOfNums y138).size + t141.size ≤ 9223372036854775807 then (if ((strOfNums y138) ++ t141).size + x127002.size ≤ 9223372036854775807 then (if bt131.2.2.2.1 = true then ((crc_Digest.f k (((strOfNums y138) ++ t141) ++ x127002)).bind fun t142 => (if (((strOfNums y138) ++ t141) ++ x127002).size + t142.size ≤ 9223372036854775807 then (if ((((strOfNums y138) ++ t141) ++ x127002) ++ t142).size + x127003.size ≤ 9223372036854775807 then (if bt131.2.2.2.2 = true then ((crc_Digest.f k x127003).bind fun t143 => (if (((((strOfNums y138) ++ t141) ++ x127002) ++ t142) ++ x127003).size + t143.size ≤ 9223372036854775807 then (some ((((((strOfNums y138) ++ t141) ++ x127002) ++ t142) ++ x127003) ++ t143, 0)) else (none))) else (some (((((strOfNums y138) ++ t141) ++ x127002) ++ t142) ++ x127003, 0))) else (none)) else (none))) else (if (((strOfNums y138) ++ t141) ++ x127002).size + x127003.size ≤ 9223372036854775807 then (if bt131.2.2.2.2 = true then ((crc_Digest.f k x127003).bind fun t144 => (if ((((strOfNums y138) ++ t141) ++ x127002) ++ x127003).size + t144.size ≤ 9223372036854775807 then (some (((((strOfNums y138) ++ t141) ++ x127002) ++ x127003) ++ t144, 0)) else (none))) else (some ((((strOfNums y138) ++ t141) ++ x127002) ++ x127003, 0))) else (none))) else (none)) else (none))))))
def tpdu_Put.f (k : Nat) (a0_0 : Int) (a0_1 : Int) (a0_2 : ByteArray) (a0_3 : ByteArray) (a1 : Bool) (a2 : Bool) : Option (ByteArray × Int) := (tpdu_formOf.f a0_0).bind fun bt127 => (if bt127.1 = 0 then (tpdu_Put.j0 k a1 a2 true a0_0 a0_1 a0_2 a0_3 bt127.1 bt127.2.1 bt127.2.2) else (if (a0_2.size : Int) = bt127.1 then (if (a0_3.size : Int) > bt127.2.1 then (tpdu_Put.j0 k a1 a2 true a0_0 a0_1 a0_2 a0_3 bt127.1 bt127.2.1 bt127.2.2) else (tpdu_Put.j0 k a1 a2 ((Go.bits .andNot .i64 a0_1 12) != 0) a0_0 a0_1 a0_2 a0_3 bt127.1 bt127.2.1 bt127.2.2)) else (tpdu_Put.j0 k a1 a2 true a0_0 a0_1 a0_2 a0_3 bt127.1 bt127.2.1 bt127.2.2)))
theorem tpdu_Put.mono_l : ∀ k, (∀ y0 y1 y2 y3 y4 y5 y6 y7 y8 y9, LeO (tpdu_Put.j0 k y0 y1 y2 y3 y4 y5 y6 y7 y8 y9) (tpdu_Put.j0 (k + 1) y0 y1 y2 y3 y4 y5 y6 y7 y8 y9))
 | 0 => fun _ _ _ _ _ _ _ _ _ _ r h => by simp [tpdu_Put.j0] at h
 | k + 1 => by
  have ih0 := tpdu_Put.mono_l k
  ·intro y0 y1 y2 y3 y4 y5 y6 y7 y8 y9
   unfold tpdu_Put.j0
   repeat' first
   | (with_reducible exact ih0 _ _ _ _ _ _ _ _ _ _)
   | (with_reducible exact crc_Digest.mono _ _)
   | (with_reducible exact fields_PutLittle.mono _ _ _)
   | (with_reducible exact LeO.refl _)
   | (with_reducible exact LeO.none _)
   | (with_reducible refine LeO.ite ?_ ?_)
   | (with_reducible refine LeO.bind ?_ (fun _ => ?_))
   | exact ih0 _ _ _ _ _ _ _ _ _ _
   | exact crc_Digest.mono _ _
   | exact fields_PutLittle.mono _ _ _
   | exact LeO.none _
   | refine LeO.ite ?_ ?_
   | refine LeO.bind ?_ (fun _ => ?_)
theorem tpdu_Put.mono : ∀ a0 a1 a2 a3 a4 a5 k, LeO (tpdu_Put.f k a0 a1 a2 a3 a4 a5) (tpdu_Put.f (k + 1) a0 a1 a2 a3 a4 a5) := by
 intro a0 a1 a2 a3 a4 a5 k
 have ih0 := tpdu_Put.mono_l k
 unfold tpdu_Put.f
 repeat' first
   | (with_reducible exact ih0 _ _ _ _ _ _ _ _ _ _)
   | (with_reducible exact crc_Digest.mono _ _)
   | (with_reducible exact fields_PutLittle.mono _ _ _)
   | (with_reducible exact LeO.refl _)
   | (with_reducible exact LeO.none _)
   | (with_reducible refine LeO.ite ?_ ?_)
   | (with_reducible refine LeO.bind ?_ (fun _ => ?_))
   | exact ih0 _ _ _ _ _ _ _ _ _ _
   | exact crc_Digest.mono _ _
   | exact fields_PutLittle.mono _ _ _
   | exact LeO.none _
   | refine LeO.ite ?_ ?_
   | refine LeO.bind ?_ (fun _ => ?_)
def tpdu_Put.T5 : Bool × List (List Nat × List Nat) := (true, [([], []), ([0], [0]), ([1], [1]), ([], []), ([], []), ([4], [4]), ([3, 5], [3, 5]), ([6], [6]), ([], []), ([8], [8]), ([9], [9]), ([], []), ([11], [11]), ([12], [12]), ([2, 7, 10, 13], [2, 7, 10, 13]), ([14], [14]), ([], []), ([16], [16]), ([17], [17]), ([18, 6], [18]), ([15, 19], [15, 19]), ([], []), ([21], [21]), ([20, 22], [20, 22]), ([23, 19, 0, 1, 2, 3, 4, 5, 6, 7, 8, 9, 10, 11, 12, 13, 14, 15, 16, 17, 18, 19, 20, 21, 22, 23], [23])])
def tpdu_Put.B5 : List Nat := [0, 1, 3, 0, 0, 16, 56, 120, 0, 256, 768, 0, 2048, 6144, 16383, 32767, 0, 65536, 196608, 458872, 1048575, 0, 2097152, 8388607, 16777215]
theorem tpdu_Put.tab5 : rtab .any (opsOf Tryd.f13 5) = tpdu_Put.T5 := by kernel_rfl
theorem tpdu_Put.bits5 : waitsOk tpdu_Put.T5.2 tpdu_Put.B5 = true := by kernel_rfl
abbrev d13x0 : Array Bool := #[false, false, false, false, false, false, false, false, false, false, false, false, false, false, false, false, false, false, false, false, false, false, false, false, false]
abbrev d13x1 : Array Bool := dB 25 1
abbrev d13x2 : Array Bool := dB 25 17
abbrev d13x3 : Array Bool := dB 25 273
abbrev d13x4 : Array Bool := dB 25 2321
abbrev d13x5 : Array Bool := dB 25 67857
abbrev d13x6 : Array Bool := dB 25 2165009
abbrev d13x7 : Array Bool := dB 25 2165011
abbrev d13x8 : Array Bool := dB 25 2165015
abbrev d13x9 : Array Bool := dB 25 2165023
abbrev d13x10 : Array Bool := dB 25 2165055
abbrev d13x11 : Array Bool := dB 25 2165567
abbrev d13x12 : Array Bool := dB 25 2166591
abbrev d13x13 : Array Bool := dB 25 2170687
abbrev d13x14 : Array Bool := dB 25 2178879
abbrev d13x15 : Array Bool := dB 25 2309951
abbrev d13x16 : Array Bool := dB 25 2572095
abbrev d13x17 : Array Bool := dB 25 6766399
abbrev d13x18 : Array Bool := dB 25 6766463
abbrev d13x19 : Array Bool := dB 25 6766591
abbrev d13x20 : Array Bool := dB 25 7290879
abbrev d13x21 : Array Bool := dB 25 6782975
abbrev d13x22 : Array Bool := dB 25 7307263
abbrev d13x23 : Array Bool := dB 25 6815743
abbrev d13x24 : Array Bool := dB 25 7340031
abbrev d13x25 : Array Bool := dB 25 8388607
abbrev d13x26 : Array Bool := dB 25 16777215
abbrev d13x27 : Array Bool := dB 25 33554431
set_option maxHeartbeats 8000000 in
set_option maxRecDepth 100000 in
theorem tpdu_Put.calls (k : Nat) (a0_0 : Int) (a0_1 : Int) (a0_2 : ByteArray) (a0_3 : ByteArray) (a1 : Bool) (a2 : Bool) (r1 : ByteArray) (r2 : Int) (w : World) (hG : Glob w) (h : tpdu_Put.f k a0_0 a0_1 a0_2 a0_3 a1 a2 = some (r1, r2)) :
  Calls Tryd.prog 13 #[.agg #[.int .i64 a0_0, .int .i64 a0_1, .string a0_2, .string a0_3], .bool a1, .bool a2] w fun e w' => e = .returned (.tuple #[.string r1, .int .i64 r2]) ∧ Below w.heap.size w w' := by
 have hu24 := Tryd.underlying24
 have hu48 := Tryd.underlying48
 have hu54 := Tryd.underlying54
 have HG := Aside0.mk hG
 clear hG
 have HB := Aside0.mk (Below.refl w.heap.size w)
 have H : ((tpdu_formOf.f a0_0).bind fun bt127 => (if bt127.1 = 0 then (tpdu_Put.j0 k a1 a2 true a0_0 a0_1 a0_2 a0_3 bt127.1 bt127.2.1 bt127.2.2) else (if (a0_2.size : Int) = bt127.1 then (if (a0_3.size : Int) > bt127.2.1 then (tpdu_Put.j0 k a1 a2 true a0_0 a0_1 a0_2 a0_3 bt127.1 bt127.2.1 bt127.2.2) else (tpdu_Put.j0 k a1 a2 ((Go.bits .andNot .i64 a0_1 12) != 0) a0_0 a0_1 a0_2 a0_3 bt127.1 bt127.2.1 bt127.2.2)) else (tpdu_Put.j0 k a1 a2 true a0_0 a0_1 a0_2 a0_3 bt127.1 bt127.2.1 bt127.2.2)))) = some (r1, r2) := h
 clear h
 replace H := Option.bind_eq_some_iff.mp H
 obtain ⟨⟨t127, t128, t129⟩, A40, H⟩ := H
 try dsimp only at H
 have A4 := Aside0.mk A40
 clear A40
 have HC5 := Aside0.mk H
 clear H
 go_enter Tryd.func13, Tryd.ntmps13
 go_upto_region 2 with (first | ((with_reducible refine gate_dst (N := 3) rfl ?_); (try (refine gate_guard (by rfl) ?_; dsimp only)); refine box_event ?hg (N := 3) ?hd (cs := #[.int .i64 a0_0, .int .i64 a0_1, .string a0_2, .string a0_3]) (t := 24) ?hr ?_; (case hd => rfl); (case hg => rfl); (case hr => first | (go_simp; done) | (go_simp; rfl)); intro gb126 hg w6 hbox hb; have n0_ := Aside0.mk (below_step (by repeat (first | (with_reducible first | exact HB.out | apply below_alloc | apply pw_below_drewN | apply below_drew1) | exact HB.out)) hb); have n1_ := Aside0.mk (hbox); have n2_ := Aside0.mk ((by rw [hg]; exact (below_size (by repeat (first | (with_reducible first | exact HB.out | apply below_alloc | apply pw_below_drewN | apply below_drew1) | exact HB.out))) : w.heap.size ≤ gb126)); have n3_ := Aside0.mk ((by rw [hg]; exact (below_size (by repeat (first | (with_reducible first | exact HB.out | apply below_alloc | apply pw_below_drewN | apply below_drew1) | exact HB.out))) : w.heap.size ≤ gb126)); clear HB; have HB := n0_; have BK126 := n1_; have GW126 := n2_; have GE126 := n3_; clear n0_ n1_ n2_ n3_; clear hb hbox hg; have hcz7_0 : w6.cell? ⟨gb126, 0, none⟩ = some (.int .i64 a0_0) := (blk_cell BK126.out 0).trans rfl; have hcz7_1 : w6.cell? ⟨gb126, 1, none⟩ = some (.int .i64 a0_1) := (blk_cell BK126.out 1).trans rfl; have hcz7_2 : w6.cell? ⟨gb126, 2, none⟩ = some (.string a0_2) := (blk_cell BK126.out 2).trans rfl; have hcz7_3 : w6.cell? ⟨gb126, 3, none⟩ = some (.string a0_3) := (blk_cell BK126.out 3).trans rfl; have hfz7_0 := blk_frozen BK126.out 0; have hfz7_1 := blk_frozen BK126.out 1; have hfz7_2 := blk_frozen BK126.out 2; have hfz7_3 := blk_frozen BK126.out 3) | ((with_reducible refine gate_callee (f := 17) rfl ?_); refine goesL_ (some 13) rfl rfl Tryd.func17 (by kernel_rfl) rfl #[.int .i64 a0_0] rfl (by (try simp only [List.map_toArray, List.map_cons, List.map_nil]); first | done | rfl | (simp only [List.length_drop, List.length_take]; rfl)) ?_; (with_reducible refine (tpdu_formOf.calls a0_0 t127 t128 t129 _ ?side1 A4.out).mono ?_); (case side1 => first | ((refine Glob.keep HG.out ?_); (repeat (first | (with_reducible first | exact HB.out | apply below_alloc | apply pw_below_drewN | apply below_drew1 | refine below_set ?_ GE126.out) | exact HB.out)); done) | exact HG.out); rintro e w8 ⟨rfl, hb⟩; refine ⟨_, rfl, ?_⟩; have n0_ := Aside0.mk (blk_below (g := gb126) (o := .cells #[.int .i64 a0_0, .int .i64 a0_1, .string a0_2, .string a0_3] 24 (0, 0)) (by (with_reducible repeat (first | refine blk_drewN ?_ _ | refine blk_drew ?_ | refine blk_alloc ?_ _)); exact BK126.out) hb); have n1_ := Aside0.mk (below_step (by repeat (first | (with_reducible first | exact HB.out | apply below_alloc | apply pw_below_drewN | apply below_drew1 | refine below_set ?_ GE126.out) | exact HB.out)) hb); clear BK126; clear HB; have BK126 := n0_; have HB := n1_; clear n0_ n1_; (try clear hb); (try clear hb2); (try clear hk); (try clear hi)) | ((with_reducible refine gate_dst (N := 8) rfl ?_); (try (refine gate_guard (by rfl) ?_; dsimp only)); refine box_event ?hg (N := 8) ?hd (cs := #[.int .i64 0, .int .i64 0, .bool false]) (t := 48) ?hr ?_; (case hd => rfl); (case hg => rfl); (case hr => first | (go_simp; done) | (go_simp; rfl)); intro gb130 hg w9 hbox hb; have n0_ := Aside0.mk (blk_below (g := gb126) (o := .cells #[.int .i64 a0_0, .int .i64 a0_1, .string a0_2, .string a0_3] 24 (0, 0)) (by (with_reducible repeat (first | refine blk_drewN ?_ _ | refine blk_drew ?_ | refine blk_alloc ?_ _)); exact BK126.out) hb); have n1_ := Aside0.mk (below_step (by repeat (first | (with_reducible first | exact HB.out | apply below_alloc | apply pw_below_drewN | apply below_drew1 | refine below_set ?_ GE126.out) | exact HB.out)) hb); have n2_ := Aside0.mk (hbox); have n3_ := Aside0.mk ((by rw [hg]; exact (below_size (by repeat (first | (with_reducible first | exact HB.out | apply below_alloc | apply pw_below_drewN | apply below_drew1 | refine below_set ?_ GE126.out) | exact HB.out))) : w.heap.size ≤ gb130)); have n4_ := Aside0.mk ((by rw [hg]; exact (below_size (by repeat (first | (with_reducible first | exact HB.out | apply below_alloc | apply pw_below_drewN | apply below_drew1 | refine below_set ?_ GE126.out) | exact HB.out))) : w.heap.size ≤ gb130)); have n5_ := Aside0.mk ((by rw [hg]; exact Nat.ne_of_lt (blk_lt (g := gb126) (o := .cells #[.int .i64 a0_0, .int .i64 a0_1, .string a0_2, .string a0_3] 24 (0, 0)) (by (with_reducible repeat (first | refine blk_drewN ?_ _ | refine blk_drew ?_ | refine blk_alloc ?_ _)); exact BK126.out)) : gb126 ≠ gb130)); have n6_ := Aside0.mk ((by rw [hg]; exact Nat.ne_of_gt (blk_lt (g := gb126) (o := .cells #[.int .i64 a0_0, .int .i64 a0_1, .string a0_2, .string a0_3] 24 (0, 0)) (by (with_reducible repeat (first | refine blk_drewN ?_ _ | refine blk_drew ?_ | refine blk_alloc ?_ _)); exact BK126.out)) : gb130 ≠ gb126)); clear BK126; clear HB; have BK126 := n0_; have HB := n1_; have BK130 := n2_; have GW130 := n3_; have GE130 := n4_; have NB126_130 := n5_; have NB130_126 := n6_; clear n0_ n1_ n2_ n3_ n4_ n5_ n6_; clear hb hbox hg; have hnb10 := NB130_126.out; have hnc10 := NB126_130.out; have hcz11_0 : w9.cell? ⟨gb130, 0, none⟩ = some (.int .i64 0) := (blk_cell BK130.out 0).trans rfl; have hcz11_1 : w9.cell? ⟨gb130, 1, none⟩ = some (.int .i64 0) := (blk_cell BK130.out 1).trans rfl; have hcz11_2 : w9.cell? ⟨gb130, 2, none⟩ = some (.bool false) := (blk_cell BK130.out 2).trans rfl; have hfz11_0 := blk_frozen BK130.out 0; have hfz11_1 := blk_frozen BK130.out 1; have hfz11_2 := blk_frozen BK130.out 2))
 (try simp only [Act.put, la_, lb_, lc_])
 go_cut [38] (fun v38 wc => ∃ (kq : Nat) (x38_4 : Bool), v38 = .bool x38_4 ∧ Aside0 (tpdu_Put.j0 kq a1 a2 x38_4 a0_0 a0_1 a0_2 a0_3 t127 t128 t129 = some (r1, r2)) ∧ Aside0 (kq ≤ k) ∧ Aside0 (wc.heap[gb126]? = some (.cells #[.int .i64 a0_0, .int .i64 a0_1, .string a0_2, .string a0_3] 24 (0, 0))) ∧ Aside0 (wc.heap[gb130]? = some (.cells #[.int .i64 t127, .int .i64 t128, .bool t129] 48 (0, 0))) ∧ Aside0 (Below w.heap.size w wc))
 case first =>
  have H := HC5.out
  clear HC5
  by_cases c12 : t127 = 0
  ·rw [if_pos c12] at H
   have c12b0 : (t127 == 0) = true := beq_iff_eq.mpr c12
   have c12b1 : (t127 != 0) = false := bne_eq_false_iff_eq.mpr c12
   clear c12
   (first | rw [c12b0] | (simp only [i64_w, i32_w]; rw [c12b0]) | skip)
   have H' := Aside0.mk H
   clear H
   have hnb13 := NB130_126.out
   have hnc13 := NB126_130.out
   have hcz14_0 : w9.cell? ⟨gb130, 0, none⟩ = some (.int .i64 0) := (blk_cell BK130.out 0).trans rfl
   have hcz14_1 : w9.cell? ⟨gb130, 1, none⟩ = some (.int .i64 0) := (blk_cell BK130.out 1).trans rfl
   have hcz14_2 : w9.cell? ⟨gb130, 2, none⟩ = some (.bool false) := (blk_cell BK130.out 2).trans rfl
   have hfz14_0 := blk_frozen BK130.out 0
   have hfz14_1 := blk_frozen BK130.out 1
   have hfz14_2 := blk_frozen BK130.out 2
   go_wp2
   go_meet
   case rel => exact ⟨_, (true), (by first | rfl | (simp; done) | (simp [*]; done)), H', ⟨by first | omega | exact Nat.le_refl _⟩, ⟨by (with_reducible repeat (first | refine blk_drewN ?_ _ | refine blk_drew ?_ | refine blk_alloc ?_ _ | refine blk_far ?_ NB126_130.out _)); exact BK126.out⟩, ⟨by (with_reducible repeat (first | refine blk_drewN ?_ _ | refine blk_drew ?_ | refine blk_alloc ?_ _)); refine blk_put (cs := #[.int .i64 t127, .int .i64 t128, .bool false]) ?_ 2 _ rfl; (with_reducible repeat (first | refine blk_drewN ?_ _ | refine blk_drew ?_ | refine blk_alloc ?_ _)); refine blk_put (cs := #[.int .i64 t127, .int .i64 0, .bool false]) ?_ 1 _ rfl; (with_reducible repeat (first | refine blk_drewN ?_ _ | refine blk_drew ?_ | refine blk_alloc ?_ _)); refine blk_put (cs := #[.int .i64 0, .int .i64 0, .bool false]) ?_ 0 _ rfl; (with_reducible repeat (first | refine blk_drewN ?_ _ | refine blk_drew ?_ | refine blk_alloc ?_ _)); exact BK130.out⟩, ⟨by repeat (first | (with_reducible first | exact HB.out | apply below_alloc | apply pw_below_drewN | apply below_drew1 | refine below_set ?_ GE126.out | refine below_set ?_ GE130.out) | exact HB.out)⟩⟩
  rw [if_neg c12] at H
  have c12b0 : (t127 == 0) = false := beq_eq_false_iff_ne.mpr c12
  have c12b1 : (t127 != 0) = true := bne_iff_ne.mpr c12
  (first | rw [c12b0] | (simp only [i64_w, i32_w]; rw [c12b0]) | skip)
  refine neg_first (p := ((a0_2.size : Int) = t127)) (fun c15 => ?_) (fun c15 => ?_)
  ·rw [if_neg c15] at H
   have c15b0 : ((a0_2.size : Int) == t127) = false := beq_eq_false_iff_ne.mpr c15
   have c15b1 : ((a0_2.size : Int) != t127) = true := bne_iff_ne.mpr c15
   have H' := Aside0.mk H
   clear H
   have hnb23 := NB130_126.out
   have hnc23 := NB126_130.out
   have hcz24_0 : w9.cell? ⟨gb130, 0, none⟩ = some (.int .i64 0) := (blk_cell BK130.out 0).trans rfl
   have hcz24_1 : w9.cell? ⟨gb130, 1, none⟩ = some (.int .i64 0) := (blk_cell BK130.out 1).trans rfl
   have hcz24_2 : w9.cell? ⟨gb130, 2, none⟩ = some (.bool false) := (blk_cell BK130.out 2).trans rfl
   have hfz24_0 := blk_frozen BK130.out 0
   have hfz24_1 := blk_frozen BK130.out 1
   have hfz24_2 := blk_frozen BK130.out 2
   have hcz25_0 : w9.cell? ⟨gb126, 0, none⟩ = some (.int .i64 a0_0) := (blk_cell BK126.out 0).trans rfl
   have hcz25_1 : w9.cell? ⟨gb126, 1, none⟩ = some (.int .i64 a0_1) := (blk_cell BK126.out 1).trans rfl
   have hcz25_2 : w9.cell? ⟨gb126, 2, none⟩ = some (.string a0_2) := (blk_cell BK126.out 2).trans rfl
   have hcz25_3 : w9.cell? ⟨gb126, 3, none⟩ = some (.string a0_3) := (blk_cell BK126.out 3).trans rfl
   have hfz25_0 := blk_frozen BK126.out 0
   have hfz25_1 := blk_frozen BK126.out 1
   have hfz25_2 := blk_frozen BK126.out 2
   have hfz25_3 := blk_frozen BK126.out 3
   go_wp2
   go_meet
   case rel => exact ⟨_, (true), (by first | rfl | (simp; done) | (simp [*]; done)), H', ⟨by first | omega | exact Nat.le_refl _⟩, ⟨by (with_reducible repeat (first | refine blk_drewN ?_ _ | refine blk_drew ?_ | refine blk_alloc ?_ _ | refine blk_far ?_ NB126_130.out _)); exact BK126.out⟩, ⟨by (with_reducible repeat (first | refine blk_drewN ?_ _ | refine blk_drew ?_ | refine blk_alloc ?_ _)); refine blk_put (cs := #[.int .i64 t127, .int .i64 t128, .bool false]) ?_ 2 _ rfl; (with_reducible repeat (first | refine blk_drewN ?_ _ | refine blk_drew ?_ | refine blk_alloc ?_ _)); refine blk_put (cs := #[.int .i64 t127, .int .i64 0, .bool false]) ?_ 1 _ rfl; (with_reducible repeat (first | refine blk_drewN ?_ _ | refine blk_drew ?_ | refine blk_alloc ?_ _)); refine blk_put (cs := #[.int .i64 0, .int .i64 0, .bool false]) ?_ 0 _ rfl; (with_reducible repeat (first | refine blk_drewN ?_ _ | refine blk_drew ?_ | refine blk_alloc ?_ _)); exact BK130.out⟩, ⟨by repeat (first | (with_reducible first | exact HB.out | apply below_alloc | apply pw_below_drewN | apply below_drew1 | refine below_set ?_ GE126.out | refine below_set ?_ GE130.out) | exact HB.out)⟩⟩
  rw [if_pos c15] at H
  have c15b0 : ((a0_2.size : Int) == t127) = true := beq_iff_eq.mpr c15
  have c15b1 : ((a0_2.size : Int) != t127) = false := bne_eq_false_iff_eq.mpr c15
  clear c15
  by_cases c16 : (a0_3.size : Int) > t128
  ·rw [if_pos c16] at H
   have c16b0 : decide (t128 < (a0_3.size : Int)) = true := decide_eq_true c16
   clear c16
   have H' := Aside0.mk H
   clear H
   have hnb17 := NB130_126.out
   have hnc17 := NB126_130.out
   have hcz18_0 : w9.cell? ⟨gb130, 0, none⟩ = some (.int .i64 0) := (blk_cell BK130.out 0).trans rfl
   have hcz18_1 : w9.cell? ⟨gb130, 1, none⟩ = some (.int .i64 0) := (blk_cell BK130.out 1).trans rfl
   have hcz18_2 : w9.cell? ⟨gb130, 2, none⟩ = some (.bool false) := (blk_cell BK130.out 2).trans rfl
   have hfz18_0 := blk_frozen BK130.out 0
   have hfz18_1 := blk_frozen BK130.out 1
   have hfz18_2 := blk_frozen BK130.out 2
   have hcz19_0 : w9.cell? ⟨gb126, 0, none⟩ = some (.int .i64 a0_0) := (blk_cell BK126.out 0).trans rfl
   have hcz19_1 : w9.cell? ⟨gb126, 1, none⟩ = some (.int .i64 a0_1) := (blk_cell BK126.out 1).trans rfl
   have hcz19_2 : w9.cell? ⟨gb126, 2, none⟩ = some (.string a0_2) := (blk_cell BK126.out 2).trans rfl
   have hcz19_3 : w9.cell? ⟨gb126, 3, none⟩ = some (.string a0_3) := (blk_cell BK126.out 3).trans rfl
   have hfz19_0 := blk_frozen BK126.out 0
   have hfz19_1 := blk_frozen BK126.out 1
   have hfz19_2 := blk_frozen BK126.out 2
   have hfz19_3 := blk_frozen BK126.out 3
   go_wp2
   go_meet
   case rel => exact ⟨_, (true), (by first | rfl | (simp; done) | (simp [*]; done)), H', ⟨by first | omega | exact Nat.le_refl _⟩, ⟨by (with_reducible repeat (first | refine blk_drewN ?_ _ | refine blk_drew ?_ | refine blk_alloc ?_ _ | refine blk_far ?_ NB126_130.out _)); exact BK126.out⟩, ⟨by (with_reducible repeat (first | refine blk_drewN ?_ _ | refine blk_drew ?_ | refine blk_alloc ?_ _)); refine blk_put (cs := #[.int .i64 t127, .int .i64 t128, .bool false]) ?_ 2 _ rfl; (with_reducible repeat (first | refine blk_drewN ?_ _ | refine blk_drew ?_ | refine blk_alloc ?_ _)); refine blk_put (cs := #[.int .i64 t127, .int .i64 0, .bool false]) ?_ 1 _ rfl; (with_reducible repeat (first | refine blk_drewN ?_ _ | refine blk_drew ?_ | refine blk_alloc ?_ _)); refine blk_put (cs := #[.int .i64 0, .int .i64 0, .bool false]) ?_ 0 _ rfl; (with_reducible repeat (first | refine blk_drewN ?_ _ | refine blk_drew ?_ | refine blk_alloc ?_ _)); exact BK130.out⟩, ⟨by repeat (first | (with_reducible first | exact HB.out | apply below_alloc | apply pw_below_drewN | apply below_drew1 | refine below_set ?_ GE126.out | refine below_set ?_ GE130.out) | exact HB.out)⟩⟩
  rw [if_neg c16] at H
  have c16b0 : decide (t128 < (a0_3.size : Int)) = false := decide_eq_false c16
  clear c16
  have H' := Aside0.mk H
  clear H
  have hnb20 := NB130_126.out
  have hnc20 := NB126_130.out
  have hcz21_0 : w9.cell? ⟨gb130, 0, none⟩ = some (.int .i64 0) := (blk_cell BK130.out 0).trans rfl
  have hcz21_1 : w9.cell? ⟨gb130, 1, none⟩ = some (.int .i64 0) := (blk_cell BK130.out 1).trans rfl
  have hcz21_2 : w9.cell? ⟨gb130, 2, none⟩ = some (.bool false) := (blk_cell BK130.out 2).trans rfl
  have hfz21_0 := blk_frozen BK130.out 0
  have hfz21_1 := blk_frozen BK130.out 1
  have hfz21_2 := blk_frozen BK130.out 2
  have hcz22_0 : w9.cell? ⟨gb126, 0, none⟩ = some (.int .i64 a0_0) := (blk_cell BK126.out 0).trans rfl
  have hcz22_1 : w9.cell? ⟨gb126, 1, none⟩ = some (.int .i64 a0_1) := (blk_cell BK126.out 1).trans rfl
  have hcz22_2 : w9.cell? ⟨gb126, 2, none⟩ = some (.string a0_2) := (blk_cell BK126.out 2).trans rfl
  have hcz22_3 : w9.cell? ⟨gb126, 3, none⟩ = some (.string a0_3) := (blk_cell BK126.out 3).trans rfl
  have hfz22_0 := blk_frozen BK126.out 0
  have hfz22_1 := blk_frozen BK126.out 1
  have hfz22_2 := blk_frozen BK126.out 2
  have hfz22_3 := blk_frozen BK126.out 3
  go_wp2
  go_meet
  case rel => exact ⟨_, (((Go.bits .andNot .i64 a0_1 12) != 0)), (by first | rfl | (simp; done) | (simp [*]; done)), H', ⟨by first | omega | exact Nat.le_refl _⟩, ⟨by (with_reducible repeat (first | refine blk_drewN ?_ _ | refine blk_drew ?_ | refine blk_alloc ?_ _ | refine blk_far ?_ NB126_130.out _)); exact BK126.out⟩, ⟨by (with_reducible repeat (first | refine blk_drewN ?_ _ | refine blk_drew ?_ | refine blk_alloc ?_ _)); refine blk_put (cs := #[.int .i64 t127, .int .i64 t128, .bool false]) ?_ 2 _ rfl; (with_reducible repeat (first | refine blk_drewN ?_ _ | refine blk_drew ?_ | refine blk_alloc ?_ _)); refine blk_put (cs := #[.int .i64 t127, .int .i64 0, .bool false]) ?_ 1 _ rfl; (with_reducible repeat (first | refine blk_drewN ?_ _ | refine blk_drew ?_ | refine blk_alloc ?_ _)); refine blk_put (cs := #[.int .i64 0, .int .i64 0, .bool false]) ?_ 0 _ rfl; (with_reducible repeat (first | refine blk_drewN ?_ _ | refine blk_drew ?_ | refine blk_alloc ?_ _)); exact BK130.out⟩, ⟨by repeat (first | (with_reducible first | exact HB.out | apply below_alloc | apply pw_below_drewN | apply below_drew1 | refine below_set ?_ GE126.out | refine below_set ?_ GE130.out) | exact HB.out)⟩⟩
 case rest =>
  clear HC5
  try clear c1
  try clear c2
  try clear p2
  try clear c10
  try clear c12
  try clear c12b0
  try clear c12b1
  try clear c13
  try clear c15
  try clear c15b0
  try clear c15b1
  try clear c16
  try clear c16b0
  try clear c17
  try clear c20
  try clear c23
  try clear hcz11_0
  try clear hcz11_1
  try clear hcz11_2
  try clear hcz14_0
  try clear hcz14_1
  try clear hcz14_2
  try clear hcz18_0
  try clear hcz18_1
  try clear hcz18_2
  try clear hcz19_0
  try clear hcz19_1
  try clear hcz19_2
  try clear hcz19_3
  try clear hcz21_0
  try clear hcz21_1
  try clear hcz21_2
  try clear hcz22_0
  try clear hcz22_1
  try clear hcz22_2
  try clear hcz22_3
  try clear hcz24_0
  try clear hcz24_1
  try clear hcz24_2
  try clear hcz25_0
  try clear hcz25_1
  try clear hcz25_2
  try clear hcz25_3
  try clear hcz7_0
  try clear hcz7_1
  try clear hcz7_2
  try clear hcz7_3
  try clear hfz11_0
  try clear hfz11_1
  try clear hfz11_2
  try clear hfz14_0
  try clear hfz14_1
  try clear hfz14_2
  try clear hfz18_0
  try clear hfz18_1
  try clear hfz18_2
  try clear hfz19_0
  try clear hfz19_1
  try clear hfz19_2
  try clear hfz19_3
  try clear hfz21_0
  try clear hfz21_1
  try clear hfz21_2
  try clear hfz22_0
  try clear hfz22_1
  try clear hfz22_2
  try clear hfz22_3
  try clear hfz24_0
  try clear hfz24_1
  try clear hfz24_2
  try clear hfz25_0
  try clear hfz25_1
  try clear hfz25_2
  try clear hfz25_3
  try clear hfz7_0
  try clear hfz7_1
  try clear hfz7_2
  try clear hfz7_3
  obtain ⟨kq, x38_4, rfl, HA, HJ4, BK126, BK130, HB⟩ := hcut
  cases kq with
  | zero => exact absurd HA.out (by simp [tpdu_Put.j0])
  | succ kj4 =>
   have H := HA.out
   clear HA
   simp only [tpdu_Put.j0] at H
   by_cases c26 : x38_4 = true
   ·subst c26
    have H1 := H
    rw [if_pos rfl] at H1
    clear H
    have H := H1
    clear H1
    simp only [Option.some.injEq, Prod.mk.injEq] at H
    obtain ⟨rfl, rfl⟩ := H
    go_wp2
    go_ret2
    exact ⟨by first | rfl | (simp [errW_none, errW_some] <;> rfl) | (simp [*, errW_none, errW_some] <;> rfl) | (simp [bt, *]; done) | (unfold bt; simp [*]; done), by repeat (first | (with_reducible first | exact HB.out | apply below_alloc | apply pw_below_drewN | apply below_drew1 | refine below_set ?_ GE126.out | refine below_set ?_ GE130.out) | exact HB.out)⟩
   replace c26 := Bool.eq_false_iff.mpr c26
   subst c26
   have H1 := H
   rw [if_neg (show ¬ (false = true) by decide)] at H1
   clear H
   have H := H1
   clear H1
   replace H := Option.bind_eq_some_iff.mp H
   obtain ⟨⟨t131, t132, t133, t134, t135⟩, A270, H⟩ := H
   try dsimp only at H
   have A27 := Aside0.mk A270
   clear A270
   replace H := Option.bind_eq_some_iff.mp H
   obtain ⟨t137, A280, H⟩ := H
   try dsimp only at H
   have A28 := Aside0.mk A280
   clear A280
   obtain ⟨y138, hy138⟩ : ∃ y_ : List Int, y_ = (([(a0_0) % 256, (t137) % 256, (t131) % 256, (t132) % 256] : List Int)) := ⟨_, rfl⟩
   replace H : ((fields_PutLittle.f kj4 (IntKind.u64.wrap (t133)) 4).bind fun t141 => (if (strOfNums y138).size + t141.size ≤ 9223372036854775807 then (if ((strOfNums y138) ++ t141).size + a0_2.size ≤ 9223372036854775807 then (if t134 = true then ((crc_Digest.f kj4 (((strOfNums y138) ++ t141) ++ a0_2)).bind fun t142 => (if (((strOfNums y138) ++ t141) ++ a0_2).size + t142.size ≤ 9223372036854775807 then (if ((((strOfNums y138) ++ t141) ++ a0_2) ++ t142).size + a0_3.size ≤ 9223372036854775807 then (if t135 = true then ((crc_Digest.f kj4 a0_3).bind fun t143 => (if (((((strOfNums y138) ++ t141) ++ a0_2) ++ t142) ++ a0_3).size + t143.size ≤ 9223372036854775807 then (some ((((((strOfNums y138) ++ t141) ++ a0_2) ++ t142) ++ a0_3) ++ t143, 0)) else (none))) else (some (((((strOfNums y138) ++ t141) ++ a0_2) ++ t142) ++ a0_3, 0))) else (none)) else (none))) else (if (((strOfNums y138) ++ t141) ++ a0_2).size + a0_3.size ≤ 9223372036854775807 then (if t135 = true then ((crc_Digest.f kj4 a0_3).bind fun t144 => (if ((((strOfNums y138) ++ t141) ++ a0_2) ++ a0_3).size + t144.size ≤ 9223372036854775807 then (some (((((strOfNums y138) ++ t141) ++ a0_2) ++ a0_3) ++ t144, 0)) else (none))) else (some ((((strOfNums y138) ++ t141) ++ a0_2) ++ a0_3, 0))) else (none))) else (none)) else (none))) = some (r1, r2) := by first | (rw [hy138]; with_reducible exact H) | (have H2_ := (Option.bind_some _ _).symm.trans H; rw [hy138]; with_reducible exact H2_) | (have H2_ := (Option.bind_some _ _).symm.trans H; with_reducible exact H2_) | with_reducible exact H | (rw [hy138]; exact H) | exact H
   have Ny138 := Aside0.mk hy138
   clear hy138
   replace H := Option.bind_eq_some_iff.mp H
   obtain ⟨t141, A290, H⟩ := H
   try dsimp only at H
   have A29 := Aside0.mk A290
   clear A290
   refine neg_first (p := ((strOfNums y138).size + t141.size ≤ 9223372036854775807)) (fun c30 => ?_) (fun c30 => ?_)
   ·rw [if_neg c30] at H
    exact absurd H (by simp)

   rw [if_pos c30] at H
   have c30b0 := eq_true c30
   have c30b1 : decide ((strOfNums y138).size + t141.size ≤ 9223372036854775807) = true := decide_eq_true c30
   try have c30b2 : (9223372036854775807 < (strOfNums y138).size + t141.size) = False := eq_false (Nat.not_lt.2 c30)
   refine neg_first (p := (((strOfNums y138) ++ t141).size + a0_2.size ≤ 9223372036854775807)) (fun c31 => ?_) (fun c31 => ?_)
   ·rw [if_neg c31] at H
    exact absurd H (by simp)
   rw [if_pos c31] at H
   have c31b0 := eq_true c31
   have c31b1 : decide (((strOfNums y138) ++ t141).size + a0_2.size ≤ 9223372036854775807) = true := decide_eq_true c31
   try have c31b2 : (9223372036854775807 < ((strOfNums y138) ++ t141).size + a0_2.size) = False := eq_false (Nat.not_lt.2 c31)
   (try have c31b4 : (9223372036854775807 < (strOfNums y138).size + t141.size + a0_2.size) = False := eq_false (by have h_ := c31; simp only [ByteArray.size_append, ByteArray.size_extract] at h_; omega))
   refine neg_first (p := (t134 = true)) (fun c32 => ?_) (fun c32 => ?_)
   ·replace c32 := Bool.eq_false_iff.mpr c32
    subst c32
    have H1 := H
    rw [if_neg (show ¬ (false = true) by decide)] at H1
    clear H
    have H := H1
    clear H1
    refine neg_first (p := ((((strOfNums y138) ++ t141) ++ a0_2).size + a0_3.size ≤ 9223372036854775807)) (fun c80 => ?_) (fun c80 => ?_)
    ·rw [if_neg c80] at H
     exact absurd H (by simp)
    rw [if_pos c80] at H
    have c80b0 := eq_true c80
    have c80b1 : decide ((((strOfNums y138) ++ t141) ++ a0_2).size + a0_3.size ≤ 9223372036854775807) = true := decide_eq_true c80
    try have c80b2 : (9223372036854775807 < (((strOfNums y138) ++ t141) ++ a0_2).size + a0_3.size) = False := eq_false (Nat.not_lt.2 c80)
    (try have c80b4 : (9223372036854775807 < (strOfNums y138).size + t141.size + a0_2.size + a0_3.size) = False := eq_false (by have h_ := c80; simp only [ByteArray.size_append, ByteArray.size_extract] at h_; omega))
    refine neg_first (p := (t135 = true)) (fun c81 => ?_) (fun c81 => ?_)
    ·replace c81 := Bool.eq_false_iff.mpr c81
     subst c81
     have H1 := H
     rw [if_neg (show ¬ (false = true) by decide)] at H1
     clear H
     have H := H1
     clear H1
     simp only [Option.some.injEq, Prod.mk.injEq] at H
     obtain ⟨rfl, rfl⟩ := H
     have hnb103 := NB130_126.out
     have hnc103 := NB126_130.out
     have hcz104_0 : wc.cell? ⟨gb130, 0, none⟩ = some (.int .i64 t127) := (blk_cell BK130.out 0).trans rfl
     have hcz104_1 : wc.cell? ⟨gb130, 1, none⟩ = some (.int .i64 t128) := (blk_cell BK130.out 1).trans rfl
     have hcz104_2 : wc.cell? ⟨gb130, 2, none⟩ = some (.bool t129) := (blk_cell BK130.out 2).trans rfl
     have hfz104_0 := blk_frozen BK130.out 0
     have hfz104_1 := blk_frozen BK130.out 1
     have hfz104_2 := blk_frozen BK130.out 2
     have hcz105_0 : wc.cell? ⟨gb126, 0, none⟩ = some (.int .i64 a0_0) := (blk_cell BK126.out 0).trans rfl
     have hcz105_1 : wc.cell? ⟨gb126, 1, none⟩ = some (.int .i64 a0_1) := (blk_cell BK126.out 1).trans rfl
     have hcz105_2 : wc.cell? ⟨gb126, 2, none⟩ = some (.string a0_2) := (blk_cell BK126.out 2).trans rfl
     have hcz105_3 : wc.cell? ⟨gb126, 3, none⟩ = some (.string a0_3) := (blk_cell BK126.out 3).trans rfl
     have hfz105_0 := blk_frozen BK126.out 0
     have hfz105_1 := blk_frozen BK126.out 1
     have hfz105_2 := blk_frozen BK126.out 2
     have hfz105_3 := blk_frozen BK126.out 3
     try go_wp2_with (first | ((with_reducible refine gate_callee (f := 19) rfl ?_); refine goesL_ (some 45) rfl rfl Tryd.func19 (by kernel_rfl) rfl #[.agg #[.int .i64 t127, .int .i64 t128, .bool t129], .int .i64 (a0_3.size : Int), .bool a1, .bool a2] rfl (by (try simp only [List.map_toArray, List.map_cons, List.map_nil]); first | done | rfl | (simp only [List.length_drop, List.length_take]; rfl)) ?_; (with_reducible refine (tpdu_form_measure.calls t127 t128 t129 (a0_3.size : Int) a1 a2 t131 t132 t133 false false _ A27.out).mono ?_); rintro e w106 ⟨rfl, hb⟩; refine ⟨_, rfl, ?_⟩; have n0_ := Aside0.mk (blk_below (g := gb126) (o := .cells #[.int .i64 a0_0, .int .i64 a0_1, .string a0_2, .string a0_3] 24 (0, 0)) (by (with_reducible repeat (first | refine blk_drewN ?_ _ | refine blk_drew ?_ | refine blk_alloc ?_ _)); exact BK126.out) hb); have n1_ := Aside0.mk (blk_below (g := gb130) (o := .cells #[.int .i64 t127, .int .i64 t128, .bool t129] 48 (0, 0)) (by (with_reducible repeat (first | refine blk_drewN ?_ _ | refine blk_drew ?_ | refine blk_alloc ?_ _)); exact BK130.out) hb); have n2_ := Aside0.mk (below_step (by repeat (first | (with_reducible first | exact HB.out | apply below_alloc | apply pw_below_drewN | apply below_drew1 | refine below_set ?_ GE126.out | refine below_set ?_ GE130.out) | exact HB.out)) hb); clear BK126; clear BK130; clear HB; have BK126 := n0_; have BK130 := n1_; have HB := n2_; clear n0_ n1_ n2_; (try clear hb); (try clear hb2); (try clear hk); (try clear hi)) | ((with_reducible refine gate_dst (N := 9) rfl ?_); (try (refine gate_guard (by rfl) ?_; dsimp only)); refine box_event ?hg (N := 9) ?hd (cs := #[.int .i64 0, .int .i64 0, .int .i64 0, .bool false, .bool false]) (t := 54) ?hr ?_; (case hd => rfl); (case hg => rfl); (case hr => first | (go_simp; done) | (go_simp; rfl)); intro gb136 hg w107 hbox hb; have n0_ := Aside0.mk (blk_below (g := gb126) (o := .cells #[.int .i64 a0_0, .int .i64 a0_1, .string a0_2, .string a0_3] 24 (0, 0)) (by (with_reducible repeat (first | refine blk_drewN ?_ _ | refine blk_drew ?_ | refine blk_alloc ?_ _)); exact BK126.out) hb); have n1_ := Aside0.mk (blk_below (g := gb130) (o := .cells #[.int .i64 t127, .int .i64 t128, .bool t129] 48 (0, 0)) (by (with_reducible repeat (first | refine blk_drewN ?_ _ | refine blk_drew ?_ | refine blk_alloc ?_ _)); exact BK130.out) hb); have n2_ := Aside0.mk (below_step (by repeat (first | (with_reducible first | exact HB.out | apply below_alloc | apply pw_below_drewN | apply below_drew1 | refine below_set ?_ GE126.out | refine below_set ?_ GE130.out) | exact HB.out)) hb); have n3_ := Aside0.mk (hbox); have n4_ := Aside0.mk ((by rw [hg]; exact (below_size (by repeat (first | (with_reducible first | exact HB.out | apply below_alloc | apply pw_below_drewN | apply below_drew1 | refine below_set ?_ GE126.out | refine below_set ?_ GE130.out) | exact HB.out))) : w.heap.size ≤ gb136)); have n5_ := Aside0.mk ((by rw [hg]; exact (below_size (by repeat (first | (with_reducible first | exact HB.out | apply below_alloc | apply pw_below_drewN | apply below_drew1 | refine below_set ?_ GE126.out | refine below_set ?_ GE130.out) | exact HB.out))) : w.heap.size ≤ gb136)); have n6_ := Aside0.mk ((by rw [hg]; exact Nat.ne_of_lt (blk_lt (g := gb126) (o := .cells #[.int .i64 a0_0, .int .i64 a0_1, .string a0_2, .string a0_3] 24 (0, 0)) (by (with_reducible repeat (first | refine blk_drewN ?_ _ | refine blk_drew ?_ | refine blk_alloc ?_ _)); exact BK126.out)) : gb126 ≠ gb136)); have n7_ := Aside0.mk ((by rw [hg]; exact Nat.ne_of_gt (blk_lt (g := gb126) (o := .cells #[.int .i64 a0_0, .int .i64 a0_1, .string a0_2, .string a0_3] 24 (0, 0)) (by (with_reducible repeat (first | refine blk_drewN ?_ _ | refine blk_drew ?_ | refine blk_alloc ?_ _)); exact BK126.out)) : gb136 ≠ gb126)); have n8_ := Aside0.mk ((by rw [hg]; exact Nat.ne_of_lt (blk_lt (g := gb130) (o := .cells #[.int .i64 t127, .int .i64 t128, .bool t129] 48 (0, 0)) (by (with_reducible repeat (first | refine blk_drewN ?_ _ | refine blk_drew ?_ | refine blk_alloc ?_ _)); exact BK130.out)) : gb130 ≠ gb136)); have n9_ := Aside0.mk ((by rw [hg]; exact Nat.ne_of_gt (blk_lt (g := gb130) (o := .cells #[.int .i64 t127, .int .i64 t128, .bool t129] 48 (0, 0)) (by (with_reducible repeat (first | refine blk_drewN ?_ _ | refine blk_drew ?_ | refine blk_alloc ?_ _)); exact BK130.out)) : gb136 ≠ gb130)); clear BK126; clear BK130; clear HB; have BK126 := n0_; have BK130 := n1_; have HB := n2_; have BK136 := n3_; have GW136 := n4_; have GE136 := n5_; have NB126_136 := n6_; have NB136_126 := n7_; have NB130_136 := n8_; have NB136_130 := n9_; clear n0_ n1_ n2_ n3_ n4_ n5_ n6_ n7_ n8_ n9_; clear hb hbox hg; have hnb108 := NB136_126.out; have hnc108 := NB126_136.out; have hnb109 := NB136_130.out; have hnc109 := NB130_136.out; have hcz110_0 : w107.cell? ⟨gb136, 0, none⟩ = some (.int .i64 0) := (blk_cell BK136.out 0).trans rfl; have hcz110_1 : w107.cell? ⟨gb136, 1, none⟩ = some (.int .i64 0) := (blk_cell BK136.out 1).trans rfl; have hcz110_2 : w107.cell? ⟨gb136, 2, none⟩ = some (.int .i64 0) := (blk_cell BK136.out 2).trans rfl; have hcz110_3 : w107.cell? ⟨gb136, 3, none⟩ = some (.bool false) := (blk_cell BK136.out 3).trans rfl; have hcz110_4 : w107.cell? ⟨gb136, 4, none⟩ = some (.bool false) := (blk_cell BK136.out 4).trans rfl; have hfz110_0 := blk_frozen BK136.out 0; have hfz110_1 := blk_frozen BK136.out 1; have hfz110_2 := blk_frozen BK136.out 2; have hfz110_3 := blk_frozen BK136.out 3; have hfz110_4 := blk_frozen BK136.out 4))
     have n0_ : Aside0 ((((((w107.setCell ⟨gb136, 0, none⟩ (.int .i64 t131)).setCell ⟨gb136, 1, none⟩ (.int .i64 t132)).setCell ⟨gb136, 2, none⟩ (.int .i64 t133)).setCell ⟨gb136, 3, none⟩ (.bool false)).setCell ⟨gb136, 4, none⟩ (.bool false)).heap[gb126]? = some (.cells #[.int .i64 a0_0, .int .i64 a0_1, .string a0_2, .string a0_3] 24 (0, 0))) := ⟨by (with_reducible repeat (first | refine blk_drewN ?_ _ | refine blk_drew ?_ | refine blk_alloc ?_ _ | refine blk_far ?_ NB126_136.out _)); exact BK126.out⟩
     have n1_ : Aside0 ((((((w107.setCell ⟨gb136, 0, none⟩ (.int .i64 t131)).setCell ⟨gb136, 1, none⟩ (.int .i64 t132)).setCell ⟨gb136, 2, none⟩ (.int .i64 t133)).setCell ⟨gb136, 3, none⟩ (.bool false)).setCell ⟨gb136, 4, none⟩ (.bool false)).heap[gb130]? = some (.cells #[.int .i64 t127, .int .i64 t128, .bool t129] 48 (0, 0))) := ⟨by (with_reducible repeat (first | refine blk_drewN ?_ _ | refine blk_drew ?_ | refine blk_alloc ?_ _ | refine blk_far ?_ NB130_136.out _)); exact BK130.out⟩
     have n2_ : Aside0 ((((((w107.setCell ⟨gb136, 0, none⟩ (.int .i64 t131)).setCell ⟨gb136, 1, none⟩ (.int .i64 t132)).setCell ⟨gb136, 2, none⟩ (.int .i64 t133)).setCell ⟨gb136, 3, none⟩ (.bool false)).setCell ⟨gb136, 4, none⟩ (.bool false)).heap[gb136]? = some (.cells #[.int .i64 t131, .int .i64 t132, .int .i64 t133, .bool false, .bool false] 54 (0, 0))) := ⟨by (with_reducible repeat (first | refine blk_drewN ?_ _ | refine blk_drew ?_ | refine blk_alloc ?_ _)); refine blk_put (cs := #[.int .i64 t131, .int .i64 t132, .int .i64 t133, .bool false, .bool false]) ?_ 4 _ rfl; (with_reducible repeat (first | refine blk_drewN ?_ _ | refine blk_drew ?_ | refine blk_alloc ?_ _)); refine blk_put (cs := #[.int .i64 t131, .int .i64 t132, .int .i64 t133, .bool false, .bool false]) ?_ 3 _ rfl; (with_reducible repeat (first | refine blk_drewN ?_ _ | refine blk_drew ?_ | refine blk_alloc ?_ _)); refine blk_put (cs := #[.int .i64 t131, .int .i64 t132, .int .i64 0, .bool false, .bool false]) ?_ 2 _ rfl; (with_reducible repeat (first | refine blk_drewN ?_ _ | refine blk_drew ?_ | refine blk_alloc ?_ _)); refine blk_put (cs := #[.int .i64 t131, .int .i64 0, .int .i64 0, .bool false, .bool false]) ?_ 1 _ rfl; (with_reducible repeat (first | refine blk_drewN ?_ _ | refine blk_drew ?_ | refine blk_alloc ?_ _)); refine blk_put (cs := #[.int .i64 0, .int .i64 0, .int .i64 0, .bool false, .bool false]) ?_ 0 _ rfl; (with_reducible repeat (first | refine blk_drewN ?_ _ | refine blk_drew ?_ | refine blk_alloc ?_ _)); exact BK136.out⟩
     have n3_ : Aside0 (Below w.heap.size w (((((w107.setCell ⟨gb136, 0, none⟩ (.int .i64 t131)).setCell ⟨gb136, 1, none⟩ (.int .i64 t132)).setCell ⟨gb136, 2, none⟩ (.int .i64 t133)).setCell ⟨gb136, 3, none⟩ (.bool false)).setCell ⟨gb136, 4, none⟩ (.bool false))) := ⟨by repeat (first | (with_reducible first | exact HB.out | apply below_alloc | apply pw_below_drewN | apply below_drew1 | refine below_set ?_ GE126.out | refine below_set ?_ GE130.out | refine below_set ?_ GE136.out) | exact HB.out)⟩
     (try clear BK126)
     (try clear BK130)
     (try clear BK136)
     (try clear HB)
     generalize (((((w107.setCell ⟨gb136, 0, none⟩ (.int .i64 t131)).setCell ⟨gb136, 1, none⟩ (.int .i64 t132)).setCell ⟨gb136, 2, none⟩ (.int .i64 t133)).setCell ⟨gb136, 3, none⟩ (.bool false)).setCell ⟨gb136, 4, none⟩ (.bool false)) = w111 at n0_ n1_ n2_ n3_ ⊢
     have BK126 := n0_
     have BK130 := n1_
     have BK136 := n2_
     have HB := n3_
     clear n0_ n1_ n2_ n3_
     have n0_ := Aside0.mk (blk_drew BK126.out)
     have n1_ := Aside0.mk (blk_drew BK130.out)
     have n2_ := Aside0.mk (blk_drew BK136.out)
     have n3_ := Aside0.mk (below_drew1 HB.out)
     clear BK126
     clear BK130
     clear BK136
     clear HB
     have BK126 := n0_
     have BK130 := n1_
     have BK136 := n2_
     have HB := n3_
     clear n0_ n1_ n2_ n3_
     refine start_ (n := 25) (S := fun w' => w'.cell? ⟨gb126, 0, none⟩ = some (.int .i64 a0_0) ∧ w'.cell? ⟨gb126, 1, none⟩ = some (.int .i64 a0_1) ∧ w'.cell? ⟨gb126, 2, none⟩ = some (.string a0_2) ∧ w'.cell? ⟨gb126, 3, none⟩ = some (.string a0_3) ∧ w'.cell? ⟨gb136, 0, none⟩ = some (.int .i64 t131) ∧ w'.cell? ⟨gb136, 1, none⟩ = some (.int .i64 t132) ∧ w'.cell? ⟨gb136, 2, none⟩ = some (.int .i64 t133) ∧ w'.cell? ⟨gb136, 3, none⟩ = some (.bool false) ∧ w'.cell? ⟨gb136, 4, none⟩ = some (.bool false)) (ds := []) d13x0 (by kernel_rfl) rfl rfl ⟨(blk_cell BK126.out 0).trans rfl, (blk_cell BK126.out 1).trans rfl, (blk_cell BK126.out 2).trans rfl, (blk_cell BK126.out 3).trans rfl, (blk_cell BK136.out 0).trans rfl, (blk_cell BK136.out 1).trans rfl, (blk_cell BK136.out 2).trans rfl, (blk_cell BK136.out 3).trans rfl, (blk_cell BK136.out 4).trans rfl⟩ (fun hHeld => ?_); refine with_tabW tpdu_Put.tab5 tpdu_Put.bits5 (fun HT_ HW_ => ?_)
     generalize w111.drew = w112 at BK126 BK130 BK136 HB hHeld ⊢
     refine pon_ 0 (some 46) d13x1 HT_.out ?_
     refine pon_ 4 (some 50) d13x2 HT_.out ?_
     refine pon_ 8 (some 54) d13x3 HT_.out ?_
     refine pon_ 11 (some 57) d13x4 HT_.out ?_
     refine pon_ 16 (some 62) d13x5 HT_.out ?_
     refine pon_ 21 (some 67) d13x6 HT_.out ?_
     refine ptk_ 1 (some 47) d13x7 HT_.out HW_.out hHeld ?_
     refine pon_ 2 (some 48) d13x8 HT_.out ?_
     refine ptk_ 3 (some 49) d13x9 HT_.out HW_.out hHeld ?_
     refine ptk_ 5 (some 51) d13x10 HT_.out HW_.out hHeld ?_
     refine ptk_ 9 (some 55) d13x11 HT_.out HW_.out hHeld ?_
     refine pon_ 10 (some 56) d13x12 HT_.out ?_
     refine ptk_ 12 (some 58) d13x13 HT_.out HW_.out hHeld ?_
     refine pon_ 13 (some 59) d13x14 HT_.out ?_
     refine ptk_ 17 (some 63) d13x15 HT_.out HW_.out hHeld ?_
     refine pon_ 18 (some 64) d13x16 HT_.out ?_
     refine ptk_ 22 (some 68) d13x17 HT_.out HW_.out hHeld ?_
     refine one_ (i := 6) (N := some 52) d13x18 rfl rfl (one_of HT_.out (by kernel_rfl)) (by decide) (fun K hK => ?_)
     refine goes_ Tryd.func20 (by kernel_rfl) rfl #[.agg #[.int .i64 t131, .int .i64 t132, .int .i64 t133, .bool false, .bool false], .int .i64 a0_1] (by rfl) rfl rfl (by (try simp only [List.map_toArray, List.map_cons, List.map_nil]); first | done | rfl | (simp only [List.length_drop, List.length_take]; rfl)) ?_
     with_reducible refine (tpdu_measured_flags.calls t131 t132 t133 false false a0_1 t137 _ A28.out).mono ?_
     rintro e w113 ⟨rfl, hb⟩
     refine ⟨_, rfl, ?_⟩
     have n0_ := Aside0.mk (blk_below (g := gb126) (o := .cells #[.int .i64 a0_0, .int .i64 a0_1, .string a0_2, .string a0_3] 24 (0, 0)) (by (with_reducible repeat (first | refine blk_drewN ?_ _ | refine blk_drew ?_ | refine blk_alloc ?_ _)); exact BK126.out) hb)
     have n1_ := Aside0.mk (blk_below (g := gb130) (o := .cells #[.int .i64 t127, .int .i64 t128, .bool t129] 48 (0, 0)) (by (with_reducible repeat (first | refine blk_drewN ?_ _ | refine blk_drew ?_ | refine blk_alloc ?_ _)); exact BK130.out) hb)
     have n2_ := Aside0.mk (blk_below (g := gb136) (o := .cells #[.int .i64 t131, .int .i64 t132, .int .i64 t133, .bool false, .bool false] 54 (0, 0)) (by (with_reducible repeat (first | refine blk_drewN ?_ _ | refine blk_drew ?_ | refine blk_alloc ?_ _)); exact BK136.out) hb)
     have n3_ := Aside0.mk (below_step (by repeat (first | (with_reducible first | exact HB.out | apply below_alloc | apply pw_below_drewN | apply below_drew1 | refine below_set ?_ GE126.out | refine below_set ?_ GE130.out | refine below_set ?_ GE136.out) | exact HB.out)) hb)
     clear BK126
     clear BK130
     clear BK136
     clear HB
     have BK126 := n0_
     have BK130 := n1_
     have BK136 := n2_
     have HB := n3_
     clear n0_ n1_ n2_ n3_
     (try clear hb)
     (try clear hb2)
     (try clear hk)
     (try clear hi)
     refine hK.out _ _ ⟨(blk_cell BK126.out 0).trans rfl, (blk_cell BK126.out 1).trans rfl, (blk_cell BK126.out 2).trans rfl, (blk_cell BK126.out 3).trans rfl, (blk_cell BK136.out 0).trans rfl, (blk_cell BK136.out 1).trans rfl, (blk_cell BK136.out 2).trans rfl, (blk_cell BK136.out 3).trans rfl, (blk_cell BK136.out 4).trans rfl⟩ (fun hHeld => ?_)
     clear hK K
     refine norm_ (a' := ?_) ?_ ?_
     rotate_left
     ·show Act.put _ (some 52) _ = _
      simp only [Act.put, la_, lb_, lc_, i64_w, i32_w]
      rfl
     refine pon_ 7 (some 53) d13x19 HT_.out ?_
     refine join_ (σ := Value) 3 d13x24 (fun s_ => [(60, s_), (61, .string (strOfNums y138)), (65, .string t141)]) (fun s_ w' => (w'.cell? ⟨gb126, 0, none⟩ = some (.int .i64 a0_0) ∧ w'.cell? ⟨gb126, 1, none⟩ = some (.int .i64 a0_1) ∧ w'.cell? ⟨gb126, 2, none⟩ = some (.string a0_2) ∧ w'.cell? ⟨gb126, 3, none⟩ = some (.string a0_3) ∧ w'.cell? ⟨gb136, 0, none⟩ = some (.int .i64 t131) ∧ w'.cell? ⟨gb136, 1, none⟩ = some (.int .i64 t132) ∧ w'.cell? ⟨gb136, 2, none⟩ = some (.int .i64 t133) ∧ w'.cell? ⟨gb136, 3, none⟩ = some (.bool false) ∧ w'.cell? ⟨gb136, 4, none⟩ = some (.bool false)) ∧ (Kd.R (Kd.int .u8) 5 w' w.heap.size (fun _ => True) s_ y138) ∧ (w'.heap[gb126]? = some (.cells #[.int .i64 a0_0, .int .i64 a0_1, .string a0_2, .string a0_3] 24 (0, 0))) ∧ (w'.heap[gb130]? = some (.cells #[.int .i64 t127, .int .i64 t128, .bool t129] 48 (0, 0))) ∧ (w'.heap[gb136]? = some (.cells #[.int .i64 t131, .int .i64 t132, .int .i64 t133, .bool false, .bool false] 54 (0, 0))) ∧ (Below w.heap.size w w')) ?_ ?_
     rotate_left
     ·intro hCont
      refine two_ (i := 14) (j := 19) (Ni := some 60) (Nj := some 65) d13x21 d13x20 rfl rfl rfl rfl (two_of HT_.out (by kernel_rfl)) (by decide) (by decide) (fun K hK => ?_) (fun K hK => ?_)
      ·skip
       refine Kd.R_lit_step (Kd.int .u8) _ 5 ?hg (N := 60) ?hd (xs := ([(a0_0) % 256, (t137) % 256, (t131) % 256, (t132) % 256] : List Int)) (inner := [.int .u8 ((a0_0) % 256), .int .u8 ((t137) % 256), .int .u8 ((t131) % 256), .int .u8 ((t132) % 256)]) (ok := fun _ => True) (okp := fun _ => True) ?hr ?hp (fun _ hk => hk) trivial (Below.refl _ _) (Nat.le_refl _) (by simp) ?_; (case hd => rfl); (case hg => rfl); (case hr => first | (go_simp; done) | (go_simp; rfl)); (case hp => exact (Reps.one (show Kd.M (Kd.int .u8) _ _ _ ((a0_0) % 256) [.int .u8 ((a0_0) % 256)] from rfl) (Reps.one (show Kd.M (Kd.int .u8) _ _ _ ((t137) % 256) [.int .u8 ((t137) % 256)] from rfl) (Reps.one (show Kd.M (Kd.int .u8) _ _ _ ((t131) % 256) [.int .u8 ((t131) % 256)] from rfl) (Reps.one (show Kd.M (Kd.int .u8) _ _ _ ((t132) % 256) [.int .u8 ((t132) % 256)] from rfl) (Reps.none _ _))))))
       intro v139 w114 ho115 hb hg_ hnew_
       clear hg_ hnew_
       (first | rw [← Ny138.out] at ho115 | (simp only [Int.reduceToNat] at ho115; rw [← Ny138.out] at ho115))
       have n0_ := Aside0.mk (Kd.R_lower ho115 (below_size (by repeat (first | (with_reducible first | exact HB.out | apply below_alloc | apply pw_below_drewN | apply below_drew1 | refine below_set ?_ GE126.out | refine below_set ?_ GE130.out | refine below_set ?_ GE136.out) | exact HB.out))))
       have n1_ := Aside0.mk (blk_below (g := gb126) (o := .cells #[.int .i64 a0_0, .int .i64 a0_1, .string a0_2, .string a0_3] 24 (0, 0)) (by (with_reducible repeat (first | refine blk_drewN ?_ _ | refine blk_drew ?_ | refine blk_alloc ?_ _)); exact BK126.out) hb)
       have n2_ := Aside0.mk (blk_below (g := gb130) (o := .cells #[.int .i64 t127, .int .i64 t128, .bool t129] 48 (0, 0)) (by (with_reducible repeat (first | refine blk_drewN ?_ _ | refine blk_drew ?_ | refine blk_alloc ?_ _)); exact BK130.out) hb)
       have n3_ := Aside0.mk (blk_below (g := gb136) (o := .cells #[.int .i64 t131, .int .i64 t132, .int .i64 t133, .bool false, .bool false] 54 (0, 0)) (by (with_reducible repeat (first | refine blk_drewN ?_ _ | refine blk_drew ?_ | refine blk_alloc ?_ _)); exact BK136.out) hb)
       have n4_ := Aside0.mk (below_step (by repeat (first | (with_reducible first | exact HB.out | apply below_alloc | apply pw_below_drewN | apply below_drew1 | refine below_set ?_ GE126.out | refine below_set ?_ GE130.out | refine below_set ?_ GE136.out) | exact HB.out)) hb)
       clear BK126
       clear BK130
       clear BK136
       clear HB
       have HO140 := n0_
       have BK126 := n1_
       have BK130 := n2_
       have BK136 := n3_
       have HB := n4_
       clear n0_ n1_ n2_ n3_ n4_
       clear hb ho115
       refine hK.out _ _ ⟨(blk_cell BK126.out 0).trans rfl, (blk_cell BK126.out 1).trans rfl, (blk_cell BK126.out 2).trans rfl, (blk_cell BK126.out 3).trans rfl, (blk_cell BK136.out 0).trans rfl, (blk_cell BK136.out 1).trans rfl, (blk_cell BK136.out 2).trans rfl, (blk_cell BK136.out 3).trans rfl, (blk_cell BK136.out 4).trans rfl⟩ (fun hHeld => ?_)
       clear hK K
       refine norm_ (a' := ?_) ?_ ?_
       rotate_left
       ·show Act.put _ (some 60) _ = _
        simp only [Act.put, la_, lb_, lc_, i64_w, i32_w]
        rfl
       refine two_ (i := 15) (j := 19) (Ni := some 61) (Nj := some 65) d13x23 d13x22 rfl rfl rfl rfl (two_of HT_.out (by kernel_rfl)) (by decide) (by decide) (fun K hK => ?_) (fun K hK => ?_)
       ·skip
        have hcv116 := own_string (P := Tryd.prog) Tryd.underlying45 Tryd.underlying5 Tryd.underlying9 (Kd.own_of_R HO140.out)
        refine value_ (w1 := ?_) (v := ?_) (by rfl) rfl ?_ ?_
        rotate_left 2
        ·go_simp
         constructor
         ·rfl
         ·rfl
        clear hcv116
        refine hK.out _ _ ⟨(blk_cell BK126.out 0).trans rfl, (blk_cell BK126.out 1).trans rfl, (blk_cell BK126.out 2).trans rfl, (blk_cell BK126.out 3).trans rfl, (blk_cell BK136.out 0).trans rfl, (blk_cell BK136.out 1).trans rfl, (blk_cell BK136.out 2).trans rfl, (blk_cell BK136.out 3).trans rfl, (blk_cell BK136.out 4).trans rfl⟩ (fun hHeld => ?_)
        clear hK K
        refine norm_ (a' := ?_) ?_ ?_
        rotate_left
        ·show Act.put _ (some 61) _ = _
         simp only [Act.put, la_, lb_, lc_, i64_w, i32_w]
         rfl
        refine one_ (i := 19) (N := some 65) d13x24 rfl rfl (one_of HT_.out (by kernel_rfl)) (by decide) (fun K hK => ?_)
        refine goes_ Tryd.func27 (by kernel_rfl) rfl #[.int .u64 (IntKind.u64.wrap (t133)), .int .i64 4] (by rfl) rfl rfl (by (try simp only [List.map_toArray, List.map_cons, List.map_nil]); first | done | rfl | (simp only [List.length_drop, List.length_take]; rfl)) ?_
        with_reducible refine (fields_PutLittle.calls kj4 (IntKind.u64.wrap (t133)) 4 t141 _ A29.out).mono ?_
        rintro e w117 ⟨rfl, hb⟩
        refine ⟨_, rfl, ?_⟩
        have n0_ := Aside0.mk (Kd.R_below (by (with_reducible repeat (first | apply Kd.R_alloc | apply Kd.R_drewN | apply Kd.R_drew)); exact HO140.out) hb)
        have n1_ := Aside0.mk (blk_below (g := gb126) (o := .cells #[.int .i64 a0_0, .int .i64 a0_1, .string a0_2, .string a0_3] 24 (0, 0)) (by (with_reducible repeat (first | refine blk_drewN ?_ _ | refine blk_drew ?_ | refine blk_alloc ?_ _)); exact BK126.out) hb)
        have n2_ := Aside0.mk (blk_below (g := gb130) (o := .cells #[.int .i64 t127, .int .i64 t128, .bool t129] 48 (0, 0)) (by (with_reducible repeat (first | refine blk_drewN ?_ _ | refine blk_drew ?_ | refine blk_alloc ?_ _)); exact BK130.out) hb)
        have n3_ := Aside0.mk (blk_below (g := gb136) (o := .cells #[.int .i64 t131, .int .i64 t132, .int .i64 t133, .bool false, .bool false] 54 (0, 0)) (by (with_reducible repeat (first | refine blk_drewN ?_ _ | refine blk_drew ?_ | refine blk_alloc ?_ _)); exact BK136.out) hb)
        have n4_ := Aside0.mk (below_step (by repeat (first | (with_reducible first | exact HB.out | apply below_alloc | apply pw_below_drewN | apply below_drew1 | refine below_set ?_ GE126.out | refine below_set ?_ GE130.out | refine below_set ?_ GE136.out) | exact HB.out)) hb)
        clear HO140
        clear BK126
        clear BK130
        clear BK136
        clear HB
        have HO140 := n0_
        have BK126 := n1_
        have BK130 := n2_
        have BK136 := n3_
        have HB := n4_
        clear n0_ n1_ n2_ n3_ n4_
        (try clear hb)
        (try clear hb2)
        (try clear hk)
        (try clear hi)
        refine hK.out _ _ ⟨(blk_cell BK126.out 0).trans rfl, (blk_cell BK126.out 1).trans rfl, (blk_cell BK126.out 2).trans rfl, (blk_cell BK126.out 3).trans rfl, (blk_cell BK136.out 0).trans rfl, (blk_cell BK136.out 1).trans rfl, (blk_cell BK136.out 2).trans rfl, (blk_cell BK136.out 3).trans rfl, (blk_cell BK136.out 4).trans rfl⟩ (fun hHeld => ?_)
        clear hK K
        refine norm_ (a' := ?_) ?_ ?_
        rotate_left
        ·show Act.put _ (some 65) _ = _
         simp only [Act.put, la_, lb_, lc_, i64_w, i32_w]
         rfl
        exact norm_ (by simp only [putAll, Act.put, la_, lb_, lc_]) (hCont (v139) _ ⟨hHeld, (by (with_reducible repeat (first | apply Kd.R_alloc | apply Kd.R_drewN | apply Kd.R_drew)); exact HO140.out), (by (with_reducible repeat (first | refine blk_drewN ?_ _ | refine blk_drew ?_ | refine blk_alloc ?_ _)); exact BK126.out), (by (with_reducible repeat (first | refine blk_drewN ?_ _ | refine blk_drew ?_ | refine blk_alloc ?_ _)); exact BK130.out), (by (with_reducible repeat (first | refine blk_drewN ?_ _ | refine blk_drew ?_ | refine blk_alloc ?_ _)); exact BK136.out), (by repeat (first | (with_reducible first | exact HB.out | apply below_alloc | apply pw_below_drewN | apply below_drew1 | refine below_set ?_ GE126.out | refine below_set ?_ GE130.out | refine below_set ?_ GE136.out) | exact HB.out))⟩)
       ·skip
        refine goes_ Tryd.func27 (by kernel_rfl) rfl #[.int .u64 (IntKind.u64.wrap (t133)), .int .i64 4] (by rfl) rfl rfl (by (try simp only [List.map_toArray, List.map_cons, List.map_nil]); first | done | rfl | (simp only [List.length_drop, List.length_take]; rfl)) ?_
        with_reducible refine (fields_PutLittle.calls kj4 (IntKind.u64.wrap (t133)) 4 t141 _ A29.out).mono ?_
        rintro e w116 ⟨rfl, hb⟩
        refine ⟨_, rfl, ?_⟩
        have n0_ := Aside0.mk (Kd.R_below (by (with_reducible repeat (first | apply Kd.R_alloc | apply Kd.R_drewN | apply Kd.R_drew)); exact HO140.out) hb)
        have n1_ := Aside0.mk (blk_below (g := gb126) (o := .cells #[.int .i64 a0_0, .int .i64 a0_1, .string a0_2, .string a0_3] 24 (0, 0)) (by (with_reducible repeat (first | refine blk_drewN ?_ _ | refine blk_drew ?_ | refine blk_alloc ?_ _)); exact BK126.out) hb)
        have n2_ := Aside0.mk (blk_below (g := gb130) (o := .cells #[.int .i64 t127, .int .i64 t128, .bool t129] 48 (0, 0)) (by (with_reducible repeat (first | refine blk_drewN ?_ _ | refine blk_drew ?_ | refine blk_alloc ?_ _)); exact BK130.out) hb)
        have n3_ := Aside0.mk (blk_below (g := gb136) (o := .cells #[.int .i64 t131, .int .i64 t132, .int .i64 t133, .bool false, .bool false] 54 (0, 0)) (by (with_reducible repeat (first | refine blk_drewN ?_ _ | refine blk_drew ?_ | refine blk_alloc ?_ _)); exact BK136.out) hb)
        have n4_ := Aside0.mk (below_step (by repeat (first | (with_reducible first | exact HB.out | apply below_alloc | apply pw_below_drewN | apply below_drew1 | refine below_set ?_ GE126.out | refine below_set ?_ GE130.out | refine below_set ?_ GE136.out) | exact HB.out)) hb)
        clear HO140
        clear BK126
        clear BK130
        clear BK136
        clear HB
        have HO140 := n0_
        have BK126 := n1_
        have BK130 := n2_
        have BK136 := n3_
        have HB := n4_
        clear n0_ n1_ n2_ n3_ n4_
        (try clear hb)
        (try clear hb2)
        (try clear hk)
        (try clear hi)
        refine hK.out _ _ ⟨(blk_cell BK126.out 0).trans rfl, (blk_cell BK126.out 1).trans rfl, (blk_cell BK126.out 2).trans rfl, (blk_cell BK126.out 3).trans rfl, (blk_cell BK136.out 0).trans rfl, (blk_cell BK136.out 1).trans rfl, (blk_cell BK136.out 2).trans rfl, (blk_cell BK136.out 3).trans rfl, (blk_cell BK136.out 4).trans rfl⟩ (fun hHeld => ?_)
        clear hK K
        refine norm_ (a' := ?_) ?_ ?_
        rotate_left
        ·show Act.put _ (some 65) _ = _
         simp only [Act.put, la_, lb_, lc_, i64_w, i32_w]
         rfl
        refine one_ (i := 15) (N := some 61) d13x24 rfl rfl (one_of HT_.out (by kernel_rfl)) (by decide) (fun K hK => ?_)
        have hcv117 := own_string (P := Tryd.prog) Tryd.underlying45 Tryd.underlying5 Tryd.underlying9 (Kd.own_of_R HO140.out)
        refine value_ (w1 := ?_) (v := ?_) (by rfl) rfl ?_ ?_
        rotate_left 2
        ·go_simp
         constructor
         ·rfl
         ·rfl
        clear hcv117
        refine hK.out _ _ ⟨(blk_cell BK126.out 0).trans rfl, (blk_cell BK126.out 1).trans rfl, (blk_cell BK126.out 2).trans rfl, (blk_cell BK126.out 3).trans rfl, (blk_cell BK136.out 0).trans rfl, (blk_cell BK136.out 1).trans rfl, (blk_cell BK136.out 2).trans rfl, (blk_cell BK136.out 3).trans rfl, (blk_cell BK136.out 4).trans rfl⟩ (fun hHeld => ?_)
        clear hK K
        refine norm_ (a' := ?_) ?_ ?_
        rotate_left
        ·show Act.put _ (some 61) _ = _
         simp only [Act.put, la_, lb_, lc_, i64_w, i32_w]
         rfl
        exact norm_ (by simp only [putAll, Act.put, la_, lb_, lc_]) (hCont (v139) _ ⟨hHeld, (by (with_reducible repeat (first | apply Kd.R_alloc | apply Kd.R_drewN | apply Kd.R_drew)); exact HO140.out), (by (with_reducible repeat (first | refine blk_drewN ?_ _ | refine blk_drew ?_ | refine blk_alloc ?_ _)); exact BK126.out), (by (with_reducible repeat (first | refine blk_drewN ?_ _ | refine blk_drew ?_ | refine blk_alloc ?_ _)); exact BK130.out), (by (with_reducible repeat (first | refine blk_drewN ?_ _ | refine blk_drew ?_ | refine blk_alloc ?_ _)); exact BK136.out), (by repeat (first | (with_reducible first | exact HB.out | apply below_alloc | apply pw_below_drewN | apply below_drew1 | refine below_set ?_ GE126.out | refine below_set ?_ GE130.out | refine below_set ?_ GE136.out) | exact HB.out))⟩)
      ·skip
       refine goes_ Tryd.func27 (by kernel_rfl) rfl #[.int .u64 (IntKind.u64.wrap (t133)), .int .i64 4] (by rfl) rfl rfl (by (try simp only [List.map_toArray, List.map_cons, List.map_nil]); first | done | rfl | (simp only [List.length_drop, List.length_take]; rfl)) ?_
       with_reducible refine (fields_PutLittle.calls kj4 (IntKind.u64.wrap (t133)) 4 t141 _ A29.out).mono ?_
       rintro e w114 ⟨rfl, hb⟩
       refine ⟨_, rfl, ?_⟩
       have n0_ := Aside0.mk (blk_below (g := gb126) (o := .cells #[.int .i64 a0_0, .int .i64 a0_1, .string a0_2, .string a0_3] 24 (0, 0)) (by (with_reducible repeat (first | refine blk_drewN ?_ _ | refine blk_drew ?_ | refine blk_alloc ?_ _)); exact BK126.out) hb)
       have n1_ := Aside0.mk (blk_below (g := gb130) (o := .cells #[.int .i64 t127, .int .i64 t128, .bool t129] 48 (0, 0)) (by (with_reducible repeat (first | refine blk_drewN ?_ _ | refine blk_drew ?_ | refine blk_alloc ?_ _)); exact BK130.out) hb)
       have n2_ := Aside0.mk (blk_below (g := gb136) (o := .cells #[.int .i64 t131, .int .i64 t132, .int .i64 t133, .bool false, .bool false] 54 (0, 0)) (by (with_reducible repeat (first | refine blk_drewN ?_ _ | refine blk_drew ?_ | refine blk_alloc ?_ _)); exact BK136.out) hb)
       have n3_ := Aside0.mk (below_step (by repeat (first | (with_reducible first | exact HB.out | apply below_alloc | apply pw_below_drewN | apply below_drew1 | refine below_set ?_ GE126.out | refine below_set ?_ GE130.out | refine below_set ?_ GE136.out) | exact HB.out)) hb)
       clear BK126
       clear BK130
       clear BK136
       clear HB
       have BK126 := n0_
       have BK130 := n1_
       have BK136 := n2_
       have HB := n3_
       clear n0_ n1_ n2_ n3_
       (try clear hb)
       (try clear hb2)
       (try clear hk)
       (try clear hi)
       refine hK.out _ _ ⟨(blk_cell BK126.out 0).trans rfl, (blk_cell BK126.out 1).trans rfl, (blk_cell BK126.out 2).trans rfl, (blk_cell BK126.out 3).trans rfl, (blk_cell BK136.out 0).trans rfl, (blk_cell BK136.out 1).trans rfl, (blk_cell BK136.out 2).trans rfl, (blk_cell BK136.out 3).trans rfl, (blk_cell BK136.out 4).trans rfl⟩ (fun hHeld => ?_)
       clear hK K
       refine norm_ (a' := ?_) ?_ ?_
       rotate_left
       ·show Act.put _ (some 65) _ = _
        simp only [Act.put, la_, lb_, lc_, i64_w, i32_w]
        rfl
       refine one_ (i := 14) (N := some 60) d13x22 rfl rfl (one_of HT_.out (by kernel_rfl)) (by decide) (fun K hK => ?_)
       refine Kd.R_lit_step (Kd.int .u8) _ 5 ?hg (N := 60) ?hd (xs := ([(a0_0) % 256, (t137) % 256, (t131) % 256, (t132) % 256] : List Int)) (inner := [.int .u8 ((a0_0) % 256), .int .u8 ((t137) % 256), .int .u8 ((t131) % 256), .int .u8 ((t132) % 256)]) (ok := fun _ => True) (okp := fun _ => True) ?hr ?hp (fun _ hk => hk) trivial (Below.refl _ _) (Nat.le_refl _) (by simp) ?_; (case hd => rfl); (case hg => rfl); (case hr => first | (go_simp; done) | (go_simp; rfl)); (case hp => exact (Reps.one (show Kd.M (Kd.int .u8) _ _ _ ((a0_0) % 256) [.int .u8 ((a0_0) % 256)] from rfl) (Reps.one (show Kd.M (Kd.int .u8) _ _ _ ((t137) % 256) [.int .u8 ((t137) % 256)] from rfl) (Reps.one (show Kd.M (Kd.int .u8) _ _ _ ((t131) % 256) [.int .u8 ((t131) % 256)] from rfl) (Reps.one (show Kd.M (Kd.int .u8) _ _ _ ((t132) % 256) [.int .u8 ((t132) % 256)] from rfl) (Reps.none _ _))))))
       intro v139 w115 ho116 hb hg_ hnew_
       clear hg_ hnew_
       (first | rw [← Ny138.out] at ho116 | (simp only [Int.reduceToNat] at ho116; rw [← Ny138.out] at ho116))
       have n0_ := Aside0.mk (Kd.R_lower ho116 (below_size (by repeat (first | (with_reducible first | exact HB.out | apply below_alloc | apply pw_below_drewN | apply below_drew1 | refine below_set ?_ GE126.out | refine below_set ?_ GE130.out | refine below_set ?_ GE136.out) | exact HB.out))))
       have n1_ := Aside0.mk (blk_below (g := gb126) (o := .cells #[.int .i64 a0_0, .int .i64 a0_1, .string a0_2, .string a0_3] 24 (0, 0)) (by (with_reducible repeat (first | refine blk_drewN ?_ _ | refine blk_drew ?_ | refine blk_alloc ?_ _)); exact BK126.out) hb)
       have n2_ := Aside0.mk (blk_below (g := gb130) (o := .cells #[.int .i64 t127, .int .i64 t128, .bool t129] 48 (0, 0)) (by (with_reducible repeat (first | refine blk_drewN ?_ _ | refine blk_drew ?_ | refine blk_alloc ?_ _)); exact BK130.out) hb)
       have n3_ := Aside0.mk (blk_below (g := gb136) (o := .cells #[.int .i64 t131, .int .i64 t132, .int .i64 t133, .bool false, .bool false] 54 (0, 0)) (by (with_reducible repeat (first | refine blk_drewN ?_ _ | refine blk_drew ?_ | refine blk_alloc ?_ _)); exact BK136.out) hb)
       have n4_ := Aside0.mk (below_step (by repeat (first | (with_reducible first | exact HB.out | apply below_alloc | apply pw_below_drewN | apply below_drew1 | refine below_set ?_ GE126.out | refine below_set ?_ GE130.out | refine below_set ?_ GE136.out) | exact HB.out)) hb)
       clear BK126
       clear BK130
       clear BK136
       clear HB
       have HO140 := n0_
       have BK126 := n1_
       have BK130 := n2_
       have BK136 := n3_
       have HB := n4_
       clear n0_ n1_ n2_ n3_ n4_
       clear hb ho116
       refine hK.out _ _ ⟨(blk_cell BK126.out 0).trans rfl, (blk_cell BK126.out 1).trans rfl, (blk_cell BK126.out 2).trans rfl, (blk_cell BK126.out 3).trans rfl, (blk_cell BK136.out 0).trans rfl, (blk_cell BK136.out 1).trans rfl, (blk_cell BK136.out 2).trans rfl, (blk_cell BK136.out 3).trans rfl, (blk_cell BK136.out 4).trans rfl⟩ (fun hHeld => ?_)
       clear hK K
       refine norm_ (a' := ?_) ?_ ?_
       rotate_left
       ·show Act.put _ (some 60) _ = _
        simp only [Act.put, la_, lb_, lc_, i64_w, i32_w]
        rfl
       refine one_ (i := 15) (N := some 61) d13x24 rfl rfl (one_of HT_.out (by kernel_rfl)) (by decide) (fun K hK => ?_)
       have hcv117 := own_string (P := Tryd.prog) Tryd.underlying45 Tryd.underlying5 Tryd.underlying9 (Kd.own_of_R HO140.out)
       refine value_ (w1 := ?_) (v := ?_) (by rfl) rfl ?_ ?_
       rotate_left 2
       ·go_simp
        constructor
        ·rfl
        ·rfl
       clear hcv117
       refine hK.out _ _ ⟨(blk_cell BK126.out 0).trans rfl, (blk_cell BK126.out 1).trans rfl, (blk_cell BK126.out 2).trans rfl, (blk_cell BK126.out 3).trans rfl, (blk_cell BK136.out 0).trans rfl, (blk_cell BK136.out 1).trans rfl, (blk_cell BK136.out 2).trans rfl, (blk_cell BK136.out 3).trans rfl, (blk_cell BK136.out 4).trans rfl⟩ (fun hHeld => ?_)
       clear hK K
       refine norm_ (a' := ?_) ?_ ?_
       rotate_left
       ·show Act.put _ (some 61) _ = _
        simp only [Act.put, la_, lb_, lc_, i64_w, i32_w]
        rfl
       exact norm_ (by simp only [putAll, Act.put, la_, lb_, lc_]) (hCont (v139) _ ⟨hHeld, (by (with_reducible repeat (first | apply Kd.R_alloc | apply Kd.R_drewN | apply Kd.R_drew)); exact HO140.out), (by (with_reducible repeat (first | refine blk_drewN ?_ _ | refine blk_drew ?_ | refine blk_alloc ?_ _)); exact BK126.out), (by (with_reducible repeat (first | refine blk_drewN ?_ _ | refine blk_drew ?_ | refine blk_alloc ?_ _)); exact BK130.out), (by (with_reducible repeat (first | refine blk_drewN ?_ _ | refine blk_drew ?_ | refine blk_alloc ?_ _)); exact BK136.out), (by repeat (first | (with_reducible first | exact HB.out | apply below_alloc | apply pw_below_drewN | apply below_drew1 | refine below_set ?_ GE126.out | refine below_set ?_ GE130.out | refine below_set ?_ GE136.out) | exact HB.out))⟩)
     rintro v139 w118 ⟨hS_, h0_, h1_, h2_, h3_, h4_⟩
     have n0_ : Aside0 (Kd.R (Kd.int .u8) 5 w118 w.heap.size (fun _ => True) v139 y138) := ⟨h0_⟩
     have n1_ : Aside0 (w118.heap[gb126]? = some (.cells #[.int .i64 a0_0, .int .i64 a0_1, .string a0_2, .string a0_3] 24 (0, 0))) := ⟨h1_⟩
     have n2_ : Aside0 (w118.heap[gb130]? = some (.cells #[.int .i64 t127, .int .i64 t128, .bool t129] 48 (0, 0))) := ⟨h2_⟩
     have n3_ : Aside0 (w118.heap[gb136]? = some (.cells #[.int .i64 t131, .int .i64 t132, .int .i64 t133, .bool false, .bool false] 54 (0, 0))) := ⟨h3_⟩
     have n4_ : Aside0 (Below w.heap.size w w118) := ⟨h4_⟩
     clear BK126
     clear BK130
     clear BK136
     clear HB
     clear h0_ h1_ h2_ h3_ h4_
     have HO140 := n0_
     have BK126 := n1_
     have BK130 := n2_
     have BK136 := n3_
     have HB := n4_
     clear n0_ n1_ n2_ n3_ n4_
     have hHeld : w118.cell? ⟨gb126, 0, none⟩ = some (.int .i64 a0_0) ∧ w118.cell? ⟨gb126, 1, none⟩ = some (.int .i64 a0_1) ∧ w118.cell? ⟨gb126, 2, none⟩ = some (.string a0_2) ∧ w118.cell? ⟨gb126, 3, none⟩ = some (.string a0_3) ∧ w118.cell? ⟨gb136, 0, none⟩ = some (.int .i64 t131) ∧ w118.cell? ⟨gb136, 1, none⟩ = some (.int .i64 t132) ∧ w118.cell? ⟨gb136, 2, none⟩ = some (.int .i64 t133) ∧ w118.cell? ⟨gb136, 3, none⟩ = some (.bool false) ∧ w118.cell? ⟨gb136, 4, none⟩ = some (.bool false) := hS_
     refine norm_ (a' := ?_) ?_ ?_
     rotate_left
     ·simp only [putAll, Act.put, la_, lb_, lc_]
      rfl
     refine pon_ 20 (some 66) d13x25 HT_.out ?_
     refine pon_ 23 (some 69) d13x26 HT_.out ?_
     refine pon_ 24 (some 10) d13x27 HT_.out ?_
     refine done_ (done_of HT_.out (by kernel_rfl)) ?_
     have hcz119_0 : w118.cell? ⟨gb136, 0, none⟩ = some (.int .i64 t131) := (blk_cell BK136.out 0).trans rfl
     have hcz119_1 : w118.cell? ⟨gb136, 1, none⟩ = some (.int .i64 t132) := (blk_cell BK136.out 1).trans rfl
     have hcz119_2 : w118.cell? ⟨gb136, 2, none⟩ = some (.int .i64 t133) := (blk_cell BK136.out 2).trans rfl
     have hcz119_3 : w118.cell? ⟨gb136, 3, none⟩ = some (.bool false) := (blk_cell BK136.out 3).trans rfl
     have hcz119_4 : w118.cell? ⟨gb136, 4, none⟩ = some (.bool false) := (blk_cell BK136.out 4).trans rfl
     have hfz119_0 := blk_frozen BK136.out 0
     have hfz119_1 := blk_frozen BK136.out 1
     have hfz119_2 := blk_frozen BK136.out 2
     have hfz119_3 := blk_frozen BK136.out 3
     have hfz119_4 := blk_frozen BK136.out 4
     have hcz120_0 : w118.cell? ⟨gb126, 0, none⟩ = some (.int .i64 a0_0) := (blk_cell BK126.out 0).trans rfl
     have hcz120_1 : w118.cell? ⟨gb126, 1, none⟩ = some (.int .i64 a0_1) := (blk_cell BK126.out 1).trans rfl
     have hcz120_2 : w118.cell? ⟨gb126, 2, none⟩ = some (.string a0_2) := (blk_cell BK126.out 2).trans rfl
     have hcz120_3 : w118.cell? ⟨gb126, 3, none⟩ = some (.string a0_3) := (blk_cell BK126.out 3).trans rfl
     have hfz120_0 := blk_frozen BK126.out 0
     have hfz120_1 := blk_frozen BK126.out 1
     have hfz120_2 := blk_frozen BK126.out 2
     have hfz120_3 := blk_frozen BK126.out 3
     try go_wp2
     go_ret2
     exact ⟨by first | rfl | (simp [errW_none, errW_some] <;> rfl) | (simp [*, errW_none, errW_some] <;> rfl) | (simp [bt, *]; done) | (unfold bt; simp [*]; done), by repeat (first | (with_reducible first | exact HB.out | apply below_alloc | apply pw_below_drewN | apply below_drew1 | refine below_set ?_ GE126.out | refine below_set ?_ GE130.out | refine below_set ?_ GE136.out) | exact HB.out)⟩
    subst c81
    have H1 := H
    rw [if_pos rfl] at H1
    clear H
    have H := H1
    clear H1
    replace H := Option.bind_eq_some_iff.mp H
    obtain ⟨t144, A820, H⟩ := H
    try dsimp only at H
    have A82 := Aside0.mk A820
    clear A820
    refine neg_first (p := (((((strOfNums y138) ++ t141) ++ a0_2) ++ a0_3).size + t144.size ≤ 9223372036854775807)) (fun c83 => ?_) (fun c83 => ?_)
    ·rw [if_neg c83] at H
     exact absurd H (by simp)
    rw [if_pos c83] at H
    have c83b0 := eq_true c83
    have c83b1 : decide (((((strOfNums y138) ++ t141) ++ a0_2) ++ a0_3).size + t144.size ≤ 9223372036854775807) = true := decide_eq_true c83
    try have c83b2 : (9223372036854775807 < ((((strOfNums y138) ++ t141) ++ a0_2) ++ a0_3).size + t144.size) = False := eq_false (Nat.not_lt.2 c83)
    (try have c83b4 : (9223372036854775807 < (strOfNums y138).size + t141.size + a0_2.size + a0_3.size + t144.size) = False := eq_false (by have h_ := c83; simp only [ByteArray.size_append, ByteArray.size_extract] at h_; omega))
    simp only [Option.some.injEq, Prod.mk.injEq] at H
    obtain ⟨rfl, rfl⟩ := H
    have hnb84 := NB130_126.out
    have hnc84 := NB126_130.out
    have hcz85_0 : wc.cell? ⟨gb130, 0, none⟩ = some (.int .i64 t127) := (blk_cell BK130.out 0).trans rfl
    have hcz85_1 : wc.cell? ⟨gb130, 1, none⟩ = some (.int .i64 t128) := (blk_cell BK130.out 1).trans rfl
    have hcz85_2 : wc.cell? ⟨gb130, 2, none⟩ = some (.bool t129) := (blk_cell BK130.out 2).trans rfl
    have hfz85_0 := blk_frozen BK130.out 0
    have hfz85_1 := blk_frozen BK130.out 1
    have hfz85_2 := blk_frozen BK130.out 2
    have hcz86_0 : wc.cell? ⟨gb126, 0, none⟩ = some (.int .i64 a0_0) := (blk_cell BK126.out 0).trans rfl
    have hcz86_1 : wc.cell? ⟨gb126, 1, none⟩ = some (.int .i64 a0_1) := (blk_cell BK126.out 1).trans rfl
    have hcz86_2 : wc.cell? ⟨gb126, 2, none⟩ = some (.string a0_2) := (blk_cell BK126.out 2).trans rfl
    have hcz86_3 : wc.cell? ⟨gb126, 3, none⟩ = some (.string a0_3) := (blk_cell BK126.out 3).trans rfl
    have hfz86_0 := blk_frozen BK126.out 0
    have hfz86_1 := blk_frozen BK126.out 1
    have hfz86_2 := blk_frozen BK126.out 2
    have hfz86_3 := blk_frozen BK126.out 3
    try go_wp2_with (first | ((with_reducible refine gate_callee (f := 19) rfl ?_); refine goesL_ (some 45) rfl rfl Tryd.func19 (by kernel_rfl) rfl #[.agg #[.int .i64 t127, .int .i64 t128, .bool t129], .int .i64 (a0_3.size : Int), .bool a1, .bool a2] rfl (by (try simp only [List.map_toArray, List.map_cons, List.map_nil]); first | done | rfl | (simp only [List.length_drop, List.length_take]; rfl)) ?_; (with_reducible refine (tpdu_form_measure.calls t127 t128 t129 (a0_3.size : Int) a1 a2 t131 t132 t133 false true _ A27.out).mono ?_); rintro e w87 ⟨rfl, hb⟩; refine ⟨_, rfl, ?_⟩; have n0_ := Aside0.mk (blk_below (g := gb126) (o := .cells #[.int .i64 a0_0, .int .i64 a0_1, .string a0_2, .string a0_3] 24 (0, 0)) (by (with_reducible repeat (first | refine blk_drewN ?_ _ | refine blk_drew ?_ | refine blk_alloc ?_ _)); exact BK126.out) hb); have n1_ := Aside0.mk (blk_below (g := gb130) (o := .cells #[.int .i64 t127, .int .i64 t128, .bool t129] 48 (0, 0)) (by (with_reducible repeat (first | refine blk_drewN ?_ _ | refine blk_drew ?_ | refine blk_alloc ?_ _)); exact BK130.out) hb); have n2_ := Aside0.mk (below_step (by repeat (first | (with_reducible first | exact HB.out | apply below_alloc | apply pw_below_drewN | apply below_drew1 | refine below_set ?_ GE126.out | refine below_set ?_ GE130.out) | exact HB.out)) hb); clear BK126; clear BK130; clear HB; have BK126 := n0_; have BK130 := n1_; have HB := n2_; clear n0_ n1_ n2_; (try clear hb); (try clear hb2); (try clear hk); (try clear hi)) | ((with_reducible refine gate_dst (N := 9) rfl ?_); (try (refine gate_guard (by rfl) ?_; dsimp only)); refine box_event ?hg (N := 9) ?hd (cs := #[.int .i64 0, .int .i64 0, .int .i64 0, .bool false, .bool false]) (t := 54) ?hr ?_; (case hd => rfl); (case hg => rfl); (case hr => first | (go_simp; done) | (go_simp; rfl)); intro gb136 hg w88 hbox hb; have n0_ := Aside0.mk (blk_below (g := gb126) (o := .cells #[.int .i64 a0_0, .int .i64 a0_1, .string a0_2, .string a0_3] 24 (0, 0)) (by (with_reducible repeat (first | refine blk_drewN ?_ _ | refine blk_drew ?_ | refine blk_alloc ?_ _)); exact BK126.out) hb); have n1_ := Aside0.mk (blk_below (g := gb130) (o := .cells #[.int .i64 t127, .int .i64 t128, .bool t129] 48 (0, 0)) (by (with_reducible repeat (first | refine blk_drewN ?_ _ | refine blk_drew ?_ | refine blk_alloc ?_ _)); exact BK130.out) hb); have n2_ := Aside0.mk (below_step (by repeat (first | (with_reducible first | exact HB.out | apply below_alloc | apply pw_below_drewN | apply below_drew1 | refine below_set ?_ GE126.out | refine below_set ?_ GE130.out) | exact HB.out)) hb); have n3_ := Aside0.mk (hbox); have n4_ := Aside0.mk ((by rw [hg]; exact (below_size (by repeat (first | (with_reducible first | exact HB.out | apply below_alloc | apply pw_below_drewN | apply below_drew1 | refine below_set ?_ GE126.out | refine below_set ?_ GE130.out) | exact HB.out))) : w.heap.size ≤ gb136)); have n5_ := Aside0.mk ((by rw [hg]; exact (below_size (by repeat (first | (with_reducible first | exact HB.out | apply below_alloc | apply pw_below_drewN | apply below_drew1 | refine below_set ?_ GE126.out | refine below_set ?_ GE130.out) | exact HB.out))) : w.heap.size ≤ gb136)); have n6_ := Aside0.mk ((by rw [hg]; exact Nat.ne_of_lt (blk_lt (g := gb126) (o := .cells #[.int .i64 a0_0, .int .i64 a0_1, .string a0_2, .string a0_3] 24 (0, 0)) (by (with_reducible repeat (first | refine blk_drewN ?_ _ | refine blk_drew ?_ | refine blk_alloc ?_ _)); exact BK126.out)) : gb126 ≠ gb136)); have n7_ := Aside0.mk ((by rw [hg]; exact Nat.ne_of_gt (blk_lt (g := gb126) (o := .cells #[.int .i64 a0_0, .int .i64 a0_1, .string a0_2, .string a0_3] 24 (0, 0)) (by (with_reducible repeat (first | refine blk_drewN ?_ _ | refine blk_drew ?_ | refine blk_alloc ?_ _)); exact BK126.out)) : gb136 ≠ gb126)); have n8_ := Aside0.mk ((by rw [hg]; exact Nat.ne_of_lt (blk_lt (g := gb130) (o := .cells #[.int .i64 t127, .int .i64 t128, .bool t129] 48 (0, 0)) (by (with_reducible repeat (first | refine blk_drewN ?_ _ | refine blk_drew ?_ | refine blk_alloc ?_ _)); exact BK130.out)) : gb130 ≠ gb136)); have n9_ := Aside0.mk ((by rw [hg]; exact Nat.ne_of_gt (blk_lt (g := gb130) (o := .cells #[.int .i64 t127, .int .i64 t128, .bool t129] 48 (0, 0)) (by (with_reducible repeat (first | refine blk_drewN ?_ _ | refine blk_drew ?_ | refine blk_alloc ?_ _)); exact BK130.out)) : gb136 ≠ gb130)); clear BK126; clear BK130; clear HB; have BK126 := n0_; have BK130 := n1_; have HB := n2_; have BK136 := n3_; have GW136 := n4_; have GE136 := n5_; have NB126_136 := n6_; have NB136_126 := n7_; have NB130_136 := n8_; have NB136_130 := n9_; clear n0_ n1_ n2_ n3_ n4_ n5_ n6_ n7_ n8_ n9_; clear hb hbox hg; have hnb89 := NB136_126.out; have hnc89 := NB126_136.out; have hnb90 := NB136_130.out; have hnc90 := NB130_136.out; have hcz91_0 : w88.cell? ⟨gb136, 0, none⟩ = some (.int .i64 0) := (blk_cell BK136.out 0).trans rfl; have hcz91_1 : w88.cell? ⟨gb136, 1, none⟩ = some (.int .i64 0) := (blk_cell BK136.out 1).trans rfl; have hcz91_2 : w88.cell? ⟨gb136, 2, none⟩ = some (.int .i64 0) := (blk_cell BK136.out 2).trans rfl; have hcz91_3 : w88.cell? ⟨gb136, 3, none⟩ = some (.bool false) := (blk_cell BK136.out 3).trans rfl; have hcz91_4 : w88.cell? ⟨gb136, 4, none⟩ = some (.bool false) := (blk_cell BK136.out 4).trans rfl; have hfz91_0 := blk_frozen BK136.out 0; have hfz91_1 := blk_frozen BK136.out 1; have hfz91_2 := blk_frozen BK136.out 2; have hfz91_3 := blk_frozen BK136.out 3; have hfz91_4 := blk_frozen BK136.out 4))
    have n0_ : Aside0 ((((((w88.setCell ⟨gb136, 0, none⟩ (.int .i64 t131)).setCell ⟨gb136, 1, none⟩ (.int .i64 t132)).setCell ⟨gb136, 2, none⟩ (.int .i64 t133)).setCell ⟨gb136, 3, none⟩ (.bool false)).setCell ⟨gb136, 4, none⟩ (.bool true)).heap[gb126]? = some (.cells #[.int .i64 a0_0, .int .i64 a0_1, .string a0_2, .string a0_3] 24 (0, 0))) := ⟨by (with_reducible repeat (first | refine blk_drewN ?_ _ | refine blk_drew ?_ | refine blk_alloc ?_ _ | refine blk_far ?_ NB126_136.out _)); exact BK126.out⟩
    have n1_ : Aside0 ((((((w88.setCell ⟨gb136, 0, none⟩ (.int .i64 t131)).setCell ⟨gb136, 1, none⟩ (.int .i64 t132)).setCell ⟨gb136, 2, none⟩ (.int .i64 t133)).setCell ⟨gb136, 3, none⟩ (.bool false)).setCell ⟨gb136, 4, none⟩ (.bool true)).heap[gb130]? = some (.cells #[.int .i64 t127, .int .i64 t128, .bool t129] 48 (0, 0))) := ⟨by (with_reducible repeat (first | refine blk_drewN ?_ _ | refine blk_drew ?_ | refine blk_alloc ?_ _ | refine blk_far ?_ NB130_136.out _)); exact BK130.out⟩
    have n2_ : Aside0 ((((((w88.setCell ⟨gb136, 0, none⟩ (.int .i64 t131)).setCell ⟨gb136, 1, none⟩ (.int .i64 t132)).setCell ⟨gb136, 2, none⟩ (.int .i64 t133)).setCell ⟨gb136, 3, none⟩ (.bool false)).setCell ⟨gb136, 4, none⟩ (.bool true)).heap[gb136]? = some (.cells #[.int .i64 t131, .int .i64 t132, .int .i64 t133, .bool false, .bool true] 54 (0, 0))) := ⟨by (with_reducible repeat (first | refine blk_drewN ?_ _ | refine blk_drew ?_ | refine blk_alloc ?_ _)); refine blk_put (cs := #[.int .i64 t131, .int .i64 t132, .int .i64 t133, .bool false, .bool false]) ?_ 4 _ rfl; (with_reducible repeat (first | refine blk_drewN ?_ _ | refine blk_drew ?_ | refine blk_alloc ?_ _)); refine blk_put (cs := #[.int .i64 t131, .int .i64 t132, .int .i64 t133, .bool false, .bool false]) ?_ 3 _ rfl; (with_reducible repeat (first | refine blk_drewN ?_ _ | refine blk_drew ?_ | refine blk_alloc ?_ _)); refine blk_put (cs := #[.int .i64 t131, .int .i64 t132, .int .i64 0, .bool false, .bool false]) ?_ 2 _ rfl; (with_reducible repeat (first | refine blk_drewN ?_ _ | refine blk_drew ?_ | refine blk_alloc ?_ _)); refine blk_put (cs := #[.int .i64 t131, .int .i64 0, .int .i64 0, .bool false, .bool false]) ?_ 1 _ rfl; (with_reducible repeat (first | refine blk_drewN ?_ _ | refine blk_drew ?_ | refine blk_alloc ?_ _)); refine blk_put (cs := #[.int .i64 0, .int .i64 0, .int .i64 0, .bool false, .bool false]) ?_ 0 _ rfl; (with_reducible repeat (first | refine blk_drewN ?_ _ | refine blk_drew ?_ | refine blk_alloc ?_ _)); exact BK136.out⟩
    have n3_ : Aside0 (Below w.heap.size w (((((w88.setCell ⟨gb136, 0, none⟩ (.int .i64 t131)).setCell ⟨gb136, 1, none⟩ (.int .i64 t132)).setCell ⟨gb136, 2, none⟩ (.int .i64 t133)).setCell ⟨gb136, 3, none⟩ (.bool false)).setCell ⟨gb136, 4, none⟩ (.bool true))) := ⟨by repeat (first | (with_reducible first | exact HB.out | apply below_alloc | apply pw_below_drewN | apply below_drew1 | refine below_set ?_ GE126.out | refine below_set ?_ GE130.out | refine below_set ?_ GE136.out) | exact HB.out)⟩
    (try clear BK126)
    (try clear BK130)
    (try clear BK136)
    (try clear HB)
    generalize (((((w88.setCell ⟨gb136, 0, none⟩ (.int .i64 t131)).setCell ⟨gb136, 1, none⟩ (.int .i64 t132)).setCell ⟨gb136, 2, none⟩ (.int .i64 t133)).setCell ⟨gb136, 3, none⟩ (.bool false)).setCell ⟨gb136, 4, none⟩ (.bool true)) = w92 at n0_ n1_ n2_ n3_ ⊢
    have BK126 := n0_
    have BK130 := n1_
    have BK136 := n2_
    have HB := n3_
    clear n0_ n1_ n2_ n3_
    have n0_ := Aside0.mk (blk_drew BK126.out)
    have n1_ := Aside0.mk (blk_drew BK130.out)
    have n2_ := Aside0.mk (blk_drew BK136.out)
    have n3_ := Aside0.mk (below_drew1 HB.out)
    clear BK126
    clear BK130
    clear BK136
    clear HB
    have BK126 := n0_
    have BK130 := n1_
    have BK136 := n2_
    have HB := n3_
    clear n0_ n1_ n2_ n3_
    refine start_ (n := 25) (S := fun w' => w'.cell? ⟨gb126, 0, none⟩ = some (.int .i64 a0_0) ∧ w'.cell? ⟨gb126, 1, none⟩ = some (.int .i64 a0_1) ∧ w'.cell? ⟨gb126, 2, none⟩ = some (.string a0_2) ∧ w'.cell? ⟨gb126, 3, none⟩ = some (.string a0_3) ∧ w'.cell? ⟨gb136, 0, none⟩ = some (.int .i64 t131) ∧ w'.cell? ⟨gb136, 1, none⟩ = some (.int .i64 t132) ∧ w'.cell? ⟨gb136, 2, none⟩ = some (.int .i64 t133) ∧ w'.cell? ⟨gb136, 3, none⟩ = some (.bool false) ∧ w'.cell? ⟨gb136, 4, none⟩ = some (.bool true)) (ds := []) d13x0 (by kernel_rfl) rfl rfl ⟨(blk_cell BK126.out 0).trans rfl, (blk_cell BK126.out 1).trans rfl, (blk_cell BK126.out 2).trans rfl, (blk_cell BK126.out 3).trans rfl, (blk_cell BK136.out 0).trans rfl, (blk_cell BK136.out 1).trans rfl, (blk_cell BK136.out 2).trans rfl, (blk_cell BK136.out 3).trans rfl, (blk_cell BK136.out 4).trans rfl⟩ (fun hHeld => ?_); refine with_tabW tpdu_Put.tab5 tpdu_Put.bits5 (fun HT_ HW_ => ?_)
    generalize w92.drew = w93 at BK126 BK130 BK136 HB hHeld ⊢
    refine pon_ 0 (some 46) d13x1 HT_.out ?_
    refine pon_ 4 (some 50) d13x2 HT_.out ?_
    refine pon_ 8 (some 54) d13x3 HT_.out ?_
    refine pon_ 11 (some 57) d13x4 HT_.out ?_
    refine pon_ 16 (some 62) d13x5 HT_.out ?_
    refine pon_ 21 (some 67) d13x6 HT_.out ?_
    refine ptk_ 1 (some 47) d13x7 HT_.out HW_.out hHeld ?_
    refine pon_ 2 (some 48) d13x8 HT_.out ?_
    refine ptk_ 3 (some 49) d13x9 HT_.out HW_.out hHeld ?_
    refine ptk_ 5 (some 51) d13x10 HT_.out HW_.out hHeld ?_
    refine ptk_ 9 (some 55) d13x11 HT_.out HW_.out hHeld ?_
    refine pon_ 10 (some 56) d13x12 HT_.out ?_
    refine ptk_ 12 (some 58) d13x13 HT_.out HW_.out hHeld ?_
    refine pon_ 13 (some 59) d13x14 HT_.out ?_
    refine ptk_ 17 (some 63) d13x15 HT_.out HW_.out hHeld ?_
    refine pon_ 18 (some 64) d13x16 HT_.out ?_
    refine ptk_ 22 (some 68) d13x17 HT_.out HW_.out hHeld ?_
    refine one_ (i := 6) (N := some 52) d13x18 rfl rfl (one_of HT_.out (by kernel_rfl)) (by decide) (fun K hK => ?_)
    refine goes_ Tryd.func20 (by kernel_rfl) rfl #[.agg #[.int .i64 t131, .int .i64 t132, .int .i64 t133, .bool false, .bool true], .int .i64 a0_1] (by rfl) rfl rfl (by (try simp only [List.map_toArray, List.map_cons, List.map_nil]); first | done | rfl | (simp only [List.length_drop, List.length_take]; rfl)) ?_
    with_reducible refine (tpdu_measured_flags.calls t131 t132 t133 false true a0_1 t137 _ A28.out).mono ?_
    rintro e w94 ⟨rfl, hb⟩
    refine ⟨_, rfl, ?_⟩
    have n0_ := Aside0.mk (blk_below (g := gb126) (o := .cells #[.int .i64 a0_0, .int .i64 a0_1, .string a0_2, .string a0_3] 24 (0, 0)) (by (with_reducible repeat (first | refine blk_drewN ?_ _ | refine blk_drew ?_ | refine blk_alloc ?_ _)); exact BK126.out) hb)
    have n1_ := Aside0.mk (blk_below (g := gb130) (o := .cells #[.int .i64 t127, .int .i64 t128, .bool t129] 48 (0, 0)) (by (with_reducible repeat (first | refine blk_drewN ?_ _ | refine blk_drew ?_ | refine blk_alloc ?_ _)); exact BK130.out) hb)
    have n2_ := Aside0.mk (blk_below (g := gb136) (o := .cells #[.int .i64 t131, .int .i64 t132, .int .i64 t133, .bool false, .bool true] 54 (0, 0)) (by (with_reducible repeat (first | refine blk_drewN ?_ _ | refine blk_drew ?_ | refine blk_alloc ?_ _)); exact BK136.out) hb)
    have n3_ := Aside0.mk (below_step (by repeat (first | (with_reducible first | exact HB.out | apply below_alloc | apply pw_below_drewN | apply below_drew1 | refine below_set ?_ GE126.out | refine below_set ?_ GE130.out | refine below_set ?_ GE136.out) | exact HB.out)) hb)
    clear BK126
    clear BK130
    clear BK136
    clear HB
    have BK126 := n0_
    have BK130 := n1_
    have BK136 := n2_
    have HB := n3_
    clear n0_ n1_ n2_ n3_
    (try clear hb)
    (try clear hb2)
    (try clear hk)
    (try clear hi)
    refine hK.out _ _ ⟨(blk_cell BK126.out 0).trans rfl, (blk_cell BK126.out 1).trans rfl, (blk_cell BK126.out 2).trans rfl, (blk_cell BK126.out 3).trans rfl, (blk_cell BK136.out 0).trans rfl, (blk_cell BK136.out 1).trans rfl, (blk_cell BK136.out 2).trans rfl, (blk_cell BK136.out 3).trans rfl, (blk_cell BK136.out 4).trans rfl⟩ (fun hHeld => ?_)
    clear hK K
    refine norm_ (a' := ?_) ?_ ?_
    rotate_left
    ·show Act.put _ (some 52) _ = _
     simp only [Act.put, la_, lb_, lc_, i64_w, i32_w]
     rfl
    refine pon_ 7 (some 53) d13x19 HT_.out ?_
    refine join_ (σ := Value) 3 d13x24 (fun s_ => [(60, s_), (61, .string (strOfNums y138)), (65, .string t141)]) (fun s_ w' => (w'.cell? ⟨gb126, 0, none⟩ = some (.int .i64 a0_0) ∧ w'.cell? ⟨gb126, 1, none⟩ = some (.int .i64 a0_1) ∧ w'.cell? ⟨gb126, 2, none⟩ = some (.string a0_2) ∧ w'.cell? ⟨gb126, 3, none⟩ = some (.string a0_3) ∧ w'.cell? ⟨gb136, 0, none⟩ = some (.int .i64 t131) ∧ w'.cell? ⟨gb136, 1, none⟩ = some (.int .i64 t132) ∧ w'.cell? ⟨gb136, 2, none⟩ = some (.int .i64 t133) ∧ w'.cell? ⟨gb136, 3, none⟩ = some (.bool false) ∧ w'.cell? ⟨gb136, 4, none⟩ = some (.bool true)) ∧ (Kd.R (Kd.int .u8) 5 w' w.heap.size (fun _ => True) s_ y138) ∧ (w'.heap[gb126]? = some (.cells #[.int .i64 a0_0, .int .i64 a0_1, .string a0_2, .string a0_3] 24 (0, 0))) ∧ (w'.heap[gb130]? = some (.cells #[.int .i64 t127, .int .i64 t128, .bool t129] 48 (0, 0))) ∧ (w'.heap[gb136]? = some (.cells #[.int .i64 t131, .int .i64 t132, .int .i64 t133, .bool false, .bool true] 54 (0, 0))) ∧ (Below w.heap.size w w')) ?_ ?_
    rotate_left
    ·intro hCont
     refine two_ (i := 14) (j := 19) (Ni := some 60) (Nj := some 65) d13x21 d13x20 rfl rfl rfl rfl (two_of HT_.out (by kernel_rfl)) (by decide) (by decide) (fun K hK => ?_) (fun K hK => ?_)
     ·skip
      refine Kd.R_lit_step (Kd.int .u8) _ 5 ?hg (N := 60) ?hd (xs := ([(a0_0) % 256, (t137) % 256, (t131) % 256, (t132) % 256] : List Int)) (inner := [.int .u8 ((a0_0) % 256), .int .u8 ((t137) % 256), .int .u8 ((t131) % 256), .int .u8 ((t132) % 256)]) (ok := fun _ => True) (okp := fun _ => True) ?hr ?hp (fun _ hk => hk) trivial (Below.refl _ _) (Nat.le_refl _) (by simp) ?_; (case hd => rfl); (case hg => rfl); (case hr => first | (go_simp; done) | (go_simp; rfl)); (case hp => exact (Reps.one (show Kd.M (Kd.int .u8) _ _ _ ((a0_0) % 256) [.int .u8 ((a0_0) % 256)] from rfl) (Reps.one (show Kd.M (Kd.int .u8) _ _ _ ((t137) % 256) [.int .u8 ((t137) % 256)] from rfl) (Reps.one (show Kd.M (Kd.int .u8) _ _ _ ((t131) % 256) [.int .u8 ((t131) % 256)] from rfl) (Reps.one (show Kd.M (Kd.int .u8) _ _ _ ((t132) % 256) [.int .u8 ((t132) % 256)] from rfl) (Reps.none _ _))))))
      intro v139 w95 ho96 hb hg_ hnew_
      clear hg_ hnew_
      (first | rw [← Ny138.out] at ho96 | (simp only [Int.reduceToNat] at ho96; rw [← Ny138.out] at ho96))
      have n0_ := Aside0.mk (Kd.R_lower ho96 (below_size (by repeat (first | (with_reducible first | exact HB.out | apply below_alloc | apply pw_below_drewN | apply below_drew1 | refine below_set ?_ GE126.out | refine below_set ?_ GE130.out | refine below_set ?_ GE136.out) | exact HB.out))))
      have n1_ := Aside0.mk (blk_below (g := gb126) (o := .cells #[.int .i64 a0_0, .int .i64 a0_1, .string a0_2, .string a0_3] 24 (0, 0)) (by (with_reducible repeat (first | refine blk_drewN ?_ _ | refine blk_drew ?_ | refine blk_alloc ?_ _)); exact BK126.out) hb)
      have n2_ := Aside0.mk (blk_below (g := gb130) (o := .cells #[.int .i64 t127, .int .i64 t128, .bool t129] 48 (0, 0)) (by (with_reducible repeat (first | refine blk_drewN ?_ _ | refine blk_drew ?_ | refine blk_alloc ?_ _)); exact BK130.out) hb)
      have n3_ := Aside0.mk (blk_below (g := gb136) (o := .cells #[.int .i64 t131, .int .i64 t132, .int .i64 t133, .bool false, .bool true] 54 (0, 0)) (by (with_reducible repeat (first | refine blk_drewN ?_ _ | refine blk_drew ?_ | refine blk_alloc ?_ _)); exact BK136.out) hb)
      have n4_ := Aside0.mk (below_step (by repeat (first | (with_reducible first | exact HB.out | apply below_alloc | apply pw_below_drewN | apply below_drew1 | refine below_set ?_ GE126.out | refine below_set ?_ GE130.out | refine below_set ?_ GE136.out) | exact HB.out)) hb)
      clear BK126
      clear BK130
      clear BK136
      clear HB
      have HO140 := n0_
      have BK126 := n1_
      have BK130 := n2_
      have BK136 := n3_
      have HB := n4_
      clear n0_ n1_ n2_ n3_ n4_
      clear hb ho96
      refine hK.out _ _ ⟨(blk_cell BK126.out 0).trans rfl, (blk_cell BK126.out 1).trans rfl, (blk_cell BK126.out 2).trans rfl, (blk_cell BK126.out 3).trans rfl, (blk_cell BK136.out 0).trans rfl, (blk_cell BK136.out 1).trans rfl, (blk_cell BK136.out 2).trans rfl, (blk_cell BK136.out 3).trans rfl, (blk_cell BK136.out 4).trans rfl⟩ (fun hHeld => ?_)
      clear hK K
      refine norm_ (a' := ?_) ?_ ?_
      rotate_left
      ·show Act.put _ (some 60) _ = _
       simp only [Act.put, la_, lb_, lc_, i64_w, i32_w]
       rfl
      refine two_ (i := 15) (j := 19) (Ni := some 61) (Nj := some 65) d13x23 d13x22 rfl rfl rfl rfl (two_of HT_.out (by kernel_rfl)) (by decide) (by decide) (fun K hK => ?_) (fun K hK => ?_)
      ·skip
       have hcv97 := own_string (P := Tryd.prog) Tryd.underlying45 Tryd.underlying5 Tryd.underlying9 (Kd.own_of_R HO140.out)
       refine value_ (w1 := ?_) (v := ?_) (by rfl) rfl ?_ ?_
       rotate_left 2
       ·go_simp
        constructor
        ·rfl
        ·rfl
       clear hcv97
       refine hK.out _ _ ⟨(blk_cell BK126.out 0).trans rfl, (blk_cell BK126.out 1).trans rfl, (blk_cell BK126.out 2).trans rfl, (blk_cell BK126.out 3).trans rfl, (blk_cell BK136.out 0).trans rfl, (blk_cell BK136.out 1).trans rfl, (blk_cell BK136.out 2).trans rfl, (blk_cell BK136.out 3).trans rfl, (blk_cell BK136.out 4).trans rfl⟩ (fun hHeld => ?_)
       clear hK K
       refine norm_ (a' := ?_) ?_ ?_
       rotate_left
       ·show Act.put _ (some 61) _ = _
        simp only [Act.put, la_, lb_, lc_, i64_w, i32_w]
        rfl
       refine one_ (i := 19) (N := some 65) d13x24 rfl rfl (one_of HT_.out (by kernel_rfl)) (by decide) (fun K hK => ?_)
       refine goes_ Tryd.func27 (by kernel_rfl) rfl #[.int .u64 (IntKind.u64.wrap (t133)), .int .i64 4] (by rfl) rfl rfl (by (try simp only [List.map_toArray, List.map_cons, List.map_nil]); first | done | rfl | (simp only [List.length_drop, List.length_take]; rfl)) ?_
       with_reducible refine (fields_PutLittle.calls kj4 (IntKind.u64.wrap (t133)) 4 t141 _ A29.out).mono ?_
       rintro e w98 ⟨rfl, hb⟩
       refine ⟨_, rfl, ?_⟩
       have n0_ := Aside0.mk (Kd.R_below (by (with_reducible repeat (first | apply Kd.R_alloc | apply Kd.R_drewN | apply Kd.R_drew)); exact HO140.out) hb)
       have n1_ := Aside0.mk (blk_below (g := gb126) (o := .cells #[.int .i64 a0_0, .int .i64 a0_1, .string a0_2, .string a0_3] 24 (0, 0)) (by (with_reducible repeat (first | refine blk_drewN ?_ _ | refine blk_drew ?_ | refine blk_alloc ?_ _)); exact BK126.out) hb)
       have n2_ := Aside0.mk (blk_below (g := gb130) (o := .cells #[.int .i64 t127, .int .i64 t128, .bool t129] 48 (0, 0)) (by (with_reducible repeat (first | refine blk_drewN ?_ _ | refine blk_drew ?_ | refine blk_alloc ?_ _)); exact BK130.out) hb)
       have n3_ := Aside0.mk (blk_below (g := gb136) (o := .cells #[.int .i64 t131, .int .i64 t132, .int .i64 t133, .bool false, .bool true] 54 (0, 0)) (by (with_reducible repeat (first | refine blk_drewN ?_ _ | refine blk_drew ?_ | refine blk_alloc ?_ _)); exact BK136.out) hb)
       have n4_ := Aside0.mk (below_step (by repeat (first | (with_reducible first | exact HB.out | apply below_alloc | apply pw_below_drewN | apply below_drew1 | refine below_set ?_ GE126.out | refine below_set ?_ GE130.out | refine below_set ?_ GE136.out) | exact HB.out)) hb)
       clear HO140
       clear BK126
       clear BK130
       clear BK136
       clear HB
       have HO140 := n0_
       have BK126 := n1_
       have BK130 := n2_
       have BK136 := n3_
       have HB := n4_
       clear n0_ n1_ n2_ n3_ n4_
       (try clear hb)
       (try clear hb2)
       (try clear hk)
       (try clear hi)
       refine hK.out _ _ ⟨(blk_cell BK126.out 0).trans rfl, (blk_cell BK126.out 1).trans rfl, (blk_cell BK126.out 2).trans rfl, (blk_cell BK126.out 3).trans rfl, (blk_cell BK136.out 0).trans rfl, (blk_cell BK136.out 1).trans rfl, (blk_cell BK136.out 2).trans rfl, (blk_cell BK136.out 3).trans rfl, (blk_cell BK136.out 4).trans rfl⟩ (fun hHeld => ?_)
       clear hK K
       refine norm_ (a' := ?_) ?_ ?_
       rotate_left
       ·show Act.put _ (some 65) _ = _
        simp only [Act.put, la_, lb_, lc_, i64_w, i32_w]
        rfl
       exact norm_ (by simp only [putAll, Act.put, la_, lb_, lc_]) (hCont (v139) _ ⟨hHeld, (by (with_reducible repeat (first | apply Kd.R_alloc | apply Kd.R_drewN | apply Kd.R_drew)); exact HO140.out), (by (with_reducible repeat (first | refine blk_drewN ?_ _ | refine blk_drew ?_ | refine blk_alloc ?_ _)); exact BK126.out), (by (with_reducible repeat (first | refine blk_drewN ?_ _ | refine blk_drew ?_ | refine blk_alloc ?_ _)); exact BK130.out), (by (with_reducible repeat (first | refine blk_drewN ?_ _ | refine blk_drew ?_ | refine blk_alloc ?_ _)); exact BK136.out), (by repeat (first | (with_reducible first | exact HB.out | apply below_alloc | apply pw_below_drewN | apply below_drew1 | refine below_set ?_ GE126.out | refine below_set ?_ GE130.out | refine below_set ?_ GE136.out) | exact HB.out))⟩)
      ·skip
       refine goes_ Tryd.func27 (by kernel_rfl) rfl #[.int .u64 (IntKind.u64.wrap (t133)), .int .i64 4] (by rfl) rfl rfl (by (try simp only [List.map_toArray, List.map_cons, List.map_nil]); first | done | rfl | (simp only [List.length_drop, List.length_take]; rfl)) ?_
       with_reducible refine (fields_PutLittle.calls kj4 (IntKind.u64.wrap (t133)) 4 t141 _ A29.out).mono ?_
       rintro e w97 ⟨rfl, hb⟩
       refine ⟨_, rfl, ?_⟩
       have n0_ := Aside0.mk (Kd.R_below (by (with_reducible repeat (first | apply Kd.R_alloc | apply Kd.R_drewN | apply Kd.R_drew)); exact HO140.out) hb)
       have n1_ := Aside0.mk (blk_below (g := gb126) (o := .cells #[.int .i64 a0_0, .int .i64 a0_1, .string a0_2, .string a0_3] 24 (0, 0)) (by (with_reducible repeat (first | refine blk_drewN ?_ _ | refine blk_drew ?_ | refine blk_alloc ?_ _)); exact BK126.out) hb)
       have n2_ := Aside0.mk (blk_below (g := gb130) (o := .cells #[.int .i64 t127, .int .i64 t128, .bool t129] 48 (0, 0)) (by (with_reducible repeat (first | refine blk_drewN ?_ _ | refine blk_drew ?_ | refine blk_alloc ?_ _)); exact BK130.out) hb)
       have n3_ := Aside0.mk (blk_below (g := gb136) (o := .cells #[.int .i64 t131, .int .i64 t132, .int .i64 t133, .bool false, .bool true] 54 (0, 0)) (by (with_reducible repeat (first | refine blk_drewN ?_ _ | refine blk_drew ?_ | refine blk_alloc ?_ _)); exact BK136.out) hb)
       have n4_ := Aside0.mk (below_step (by repeat (first | (with_reducible first | exact HB.out | apply below_alloc | apply pw_below_drewN | apply below_drew1 | refine below_set ?_ GE126.out | refine below_set ?_ GE130.out | refine below_set ?_ GE136.out) | exact HB.out)) hb)
       clear HO140
       clear BK126
       clear BK130
       clear BK136
       clear HB
       have HO140 := n0_
       have BK126 := n1_
       have BK130 := n2_
       have BK136 := n3_
       have HB := n4_
       clear n0_ n1_ n2_ n3_ n4_
       (try clear hb)
       (try clear hb2)
       (try clear hk)
       (try clear hi)
       refine hK.out _ _ ⟨(blk_cell BK126.out 0).trans rfl, (blk_cell BK126.out 1).trans rfl, (blk_cell BK126.out 2).trans rfl, (blk_cell BK126.out 3).trans rfl, (blk_cell BK136.out 0).trans rfl, (blk_cell BK136.out 1).trans rfl, (blk_cell BK136.out 2).trans rfl, (blk_cell BK136.out 3).trans rfl, (blk_cell BK136.out 4).trans rfl⟩ (fun hHeld => ?_)
       clear hK K
       refine norm_ (a' := ?_) ?_ ?_
       rotate_left
       ·show Act.put _ (some 65) _ = _
        simp only [Act.put, la_, lb_, lc_, i64_w, i32_w]
        rfl
       refine one_ (i := 15) (N := some 61) d13x24 rfl rfl (one_of HT_.out (by kernel_rfl)) (by decide) (fun K hK => ?_)
       have hcv98 := own_string (P := Tryd.prog) Tryd.underlying45 Tryd.underlying5 Tryd.underlying9 (Kd.own_of_R HO140.out)
       refine value_ (w1 := ?_) (v := ?_) (by rfl) rfl ?_ ?_
       rotate_left 2
       ·go_simp
        constructor
        ·rfl
        ·rfl
       clear hcv98
       refine hK.out _ _ ⟨(blk_cell BK126.out 0).trans rfl, (blk_cell BK126.out 1).trans rfl, (blk_cell BK126.out 2).trans rfl, (blk_cell BK126.out 3).trans rfl, (blk_cell BK136.out 0).trans rfl, (blk_cell BK136.out 1).trans rfl, (blk_cell BK136.out 2).trans rfl, (blk_cell BK136.out 3).trans rfl, (blk_cell BK136.out 4).trans rfl⟩ (fun hHeld => ?_)
       clear hK K
       refine norm_ (a' := ?_) ?_ ?_
       rotate_left
       ·show Act.put _ (some 61) _ = _
        simp only [Act.put, la_, lb_, lc_, i64_w, i32_w]
        rfl
       exact norm_ (by simp only [putAll, Act.put, la_, lb_, lc_]) (hCont (v139) _ ⟨hHeld, (by (with_reducible repeat (first | apply Kd.R_alloc | apply Kd.R_drewN | apply Kd.R_drew)); exact HO140.out), (by (with_reducible repeat (first | refine blk_drewN ?_ _ | refine blk_drew ?_ | refine blk_alloc ?_ _)); exact BK126.out), (by (with_reducible repeat (first | refine blk_drewN ?_ _ | refine blk_drew ?_ | refine blk_alloc ?_ _)); exact BK130.out), (by (with_reducible repeat (first | refine blk_drewN ?_ _ | refine blk_drew ?_ | refine blk_alloc ?_ _)); exact BK136.out), (by repeat (first | (with_reducible first | exact HB.out | apply below_alloc | apply pw_below_drewN | apply below_drew1 | refine below_set ?_ GE126.out | refine below_set ?_ GE130.out | refine below_set ?_ GE136.out) | exact HB.out))⟩)
     ·skip
      refine goes_ Tryd.func27 (by kernel_rfl) rfl #[.int .u64 (IntKind.u64.wrap (t133)), .int .i64 4] (by rfl) rfl rfl (by (try simp only [List.map_toArray, List.map_cons, List.map_nil]); first | done | rfl | (simp only [List.length_drop, List.length_take]; rfl)) ?_
      with_reducible refine (fields_PutLittle.calls kj4 (IntKind.u64.wrap (t133)) 4 t141 _ A29.out).mono ?_
      rintro e w95 ⟨rfl, hb⟩
      refine ⟨_, rfl, ?_⟩
      have n0_ := Aside0.mk (blk_below (g := gb126) (o := .cells #[.int .i64 a0_0, .int .i64 a0_1, .string a0_2, .string a0_3] 24 (0, 0)) (by (with_reducible repeat (first | refine blk_drewN ?_ _ | refine blk_drew ?_ | refine blk_alloc ?_ _)); exact BK126.out) hb)
      have n1_ := Aside0.mk (blk_below (g := gb130) (o := .cells #[.int .i64 t127, .int .i64 t128, .bool t129] 48 (0, 0)) (by (with_reducible repeat (first | refine blk_drewN ?_ _ | refine blk_drew ?_ | refine blk_alloc ?_ _)); exact BK130.out) hb)
      have n2_ := Aside0.mk (blk_below (g := gb136) (o := .cells #[.int .i64 t131, .int .i64 t132, .int .i64 t133, .bool false, .bool true] 54 (0, 0)) (by (with_reducible repeat (first | refine blk_drewN ?_ _ | refine blk_drew ?_ | refine blk_alloc ?_ _)); exact BK136.out) hb)
      have n3_ := Aside0.mk (below_step (by repeat (first | (with_reducible first | exact HB.out | apply below_alloc | apply pw_below_drewN | apply below_drew1 | refine below_set ?_ GE126.out | refine below_set ?_ GE130.out | refine below_set ?_ GE136.out) | exact HB.out)) hb)
      clear BK126
      clear BK130
      clear BK136
      clear HB
      have BK126 := n0_
      have BK130 := n1_
      have BK136 := n2_
      have HB := n3_
      clear n0_ n1_ n2_ n3_
      (try clear hb)
      (try clear hb2)
      (try clear hk)
      (try clear hi)
      refine hK.out _ _ ⟨(blk_cell BK126.out 0).trans rfl, (blk_cell BK126.out 1).trans rfl, (blk_cell BK126.out 2).trans rfl, (blk_cell BK126.out 3).trans rfl, (blk_cell BK136.out 0).trans rfl, (blk_cell BK136.out 1).trans rfl, (blk_cell BK136.out 2).trans rfl, (blk_cell BK136.out 3).trans rfl, (blk_cell BK136.out 4).trans rfl⟩ (fun hHeld => ?_)
      clear hK K
      refine norm_ (a' := ?_) ?_ ?_
      rotate_left
      ·show Act.put _ (some 65) _ = _
       simp only [Act.put, la_, lb_, lc_, i64_w, i32_w]
       rfl
      refine one_ (i := 14) (N := some 60) d13x22 rfl rfl (one_of HT_.out (by kernel_rfl)) (by decide) (fun K hK => ?_)
      refine Kd.R_lit_step (Kd.int .u8) _ 5 ?hg (N := 60) ?hd (xs := ([(a0_0) % 256, (t137) % 256, (t131) % 256, (t132) % 256] : List Int)) (inner := [.int .u8 ((a0_0) % 256), .int .u8 ((t137) % 256), .int .u8 ((t131) % 256), .int .u8 ((t132) % 256)]) (ok := fun _ => True) (okp := fun _ => True) ?hr ?hp (fun _ hk => hk) trivial (Below.refl _ _) (Nat.le_refl _) (by simp) ?_; (case hd => rfl); (case hg => rfl); (case hr => first | (go_simp; done) | (go_simp; rfl)); (case hp => exact (Reps.one (show Kd.M (Kd.int .u8) _ _ _ ((a0_0) % 256) [.int .u8 ((a0_0) % 256)] from rfl) (Reps.one (show Kd.M (Kd.int .u8) _ _ _ ((t137) % 256) [.int .u8 ((t137) % 256)] from rfl) (Reps.one (show Kd.M (Kd.int .u8) _ _ _ ((t131) % 256) [.int .u8 ((t131) % 256)] from rfl) (Reps.one (show Kd.M (Kd.int .u8) _ _ _ ((t132) % 256) [.int .u8 ((t132) % 256)] from rfl) (Reps.none _ _))))))
      intro v139 w96 ho97 hb hg_ hnew_
      clear hg_ hnew_
      (first | rw [← Ny138.out] at ho97 | (simp only [Int.reduceToNat] at ho97; rw [← Ny138.out] at ho97))
      have n0_ := Aside0.mk (Kd.R_lower ho97 (below_size (by repeat (first | (with_reducible first | exact HB.out | apply below_alloc | apply pw_below_drewN | apply below_drew1 | refine below_set ?_ GE126.out | refine below_set ?_ GE130.out | refine below_set ?_ GE136.out) | exact HB.out))))
      have n1_ := Aside0.mk (blk_below (g := gb126) (o := .cells #[.int .i64 a0_0, .int .i64 a0_1, .string a0_2, .string a0_3] 24 (0, 0)) (by (with_reducible repeat (first | refine blk_drewN ?_ _ | refine blk_drew ?_ | refine blk_alloc ?_ _)); exact BK126.out) hb)
      have n2_ := Aside0.mk (blk_below (g := gb130) (o := .cells #[.int .i64 t127, .int .i64 t128, .bool t129] 48 (0, 0)) (by (with_reducible repeat (first | refine blk_drewN ?_ _ | refine blk_drew ?_ | refine blk_alloc ?_ _)); exact BK130.out) hb)
      have n3_ := Aside0.mk (blk_below (g := gb136) (o := .cells #[.int .i64 t131, .int .i64 t132, .int .i64 t133, .bool false, .bool true] 54 (0, 0)) (by (with_reducible repeat (first | refine blk_drewN ?_ _ | refine blk_drew ?_ | refine blk_alloc ?_ _)); exact BK136.out) hb)
      have n4_ := Aside0.mk (below_step (by repeat (first | (with_reducible first | exact HB.out | apply below_alloc | apply pw_below_drewN | apply below_drew1 | refine below_set ?_ GE126.out | refine below_set ?_ GE130.out | refine below_set ?_ GE136.out) | exact HB.out)) hb)
      clear BK126
      clear BK130
      clear BK136
      clear HB
      have HO140 := n0_
      have BK126 := n1_
      have BK130 := n2_
      have BK136 := n3_
      have HB := n4_
      clear n0_ n1_ n2_ n3_ n4_
      clear hb ho97
      refine hK.out _ _ ⟨(blk_cell BK126.out 0).trans rfl, (blk_cell BK126.out 1).trans rfl, (blk_cell BK126.out 2).trans rfl, (blk_cell BK126.out 3).trans rfl, (blk_cell BK136.out 0).trans rfl, (blk_cell BK136.out 1).trans rfl, (blk_cell BK136.out 2).trans rfl, (blk_cell BK136.out 3).trans rfl, (blk_cell BK136.out 4).trans rfl⟩ (fun hHeld => ?_)
      clear hK K
      refine norm_ (a' := ?_) ?_ ?_
      rotate_left
      ·show Act.put _ (some 60) _ = _
       simp only [Act.put, la_, lb_, lc_, i64_w, i32_w]
       rfl
      refine one_ (i := 15) (N := some 61) d13x24 rfl rfl (one_of HT_.out (by kernel_rfl)) (by decide) (fun K hK => ?_)
      have hcv98 := own_string (P := Tryd.prog) Tryd.underlying45 Tryd.underlying5 Tryd.underlying9 (Kd.own_of_R HO140.out)
      refine value_ (w1 := ?_) (v := ?_) (by rfl) rfl ?_ ?_
      rotate_left 2
      ·go_simp
       constructor
       ·rfl
       ·rfl
      clear hcv98
      refine hK.out _ _ ⟨(blk_cell BK126.out 0).trans rfl, (blk_cell BK126.out 1).trans rfl, (blk_cell BK126.out 2).trans rfl, (blk_cell BK126.out 3).trans rfl, (blk_cell BK136.out 0).trans rfl, (blk_cell BK136.out 1).trans rfl, (blk_cell BK136.out 2).trans rfl, (blk_cell BK136.out 3).trans rfl, (blk_cell BK136.out 4).trans rfl⟩ (fun hHeld => ?_)
      clear hK K
      refine norm_ (a' := ?_) ?_ ?_
      rotate_left
      ·show Act.put _ (some 61) _ = _
       simp only [Act.put, la_, lb_, lc_, i64_w, i32_w]
       rfl
      exact norm_ (by simp only [putAll, Act.put, la_, lb_, lc_]) (hCont (v139) _ ⟨hHeld, (by (with_reducible repeat (first | apply Kd.R_alloc | apply Kd.R_drewN | apply Kd.R_drew)); exact HO140.out), (by (with_reducible repeat (first | refine blk_drewN ?_ _ | refine blk_drew ?_ | refine blk_alloc ?_ _)); exact BK126.out), (by (with_reducible repeat (first | refine blk_drewN ?_ _ | refine blk_drew ?_ | refine blk_alloc ?_ _)); exact BK130.out), (by (with_reducible repeat (first | refine blk_drewN ?_ _ | refine blk_drew ?_ | refine blk_alloc ?_ _)); exact BK136.out), (by repeat (first | (with_reducible first | exact HB.out | apply below_alloc | apply pw_below_drewN | apply below_drew1 | refine below_set ?_ GE126.out | refine below_set ?_ GE130.out | refine below_set ?_ GE136.out) | exact HB.out))⟩)
    rintro v139 w99 ⟨hS_, h0_, h1_, h2_, h3_, h4_⟩
    have n0_ : Aside0 (Kd.R (Kd.int .u8) 5 w99 w.heap.size (fun _ => True) v139 y138) := ⟨h0_⟩
    have n1_ : Aside0 (w99.heap[gb126]? = some (.cells #[.int .i64 a0_0, .int .i64 a0_1, .string a0_2, .string a0_3] 24 (0, 0))) := ⟨h1_⟩
    have n2_ : Aside0 (w99.heap[gb130]? = some (.cells #[.int .i64 t127, .int .i64 t128, .bool t129] 48 (0, 0))) := ⟨h2_⟩
    have n3_ : Aside0 (w99.heap[gb136]? = some (.cells #[.int .i64 t131, .int .i64 t132, .int .i64 t133, .bool false, .bool true] 54 (0, 0))) := ⟨h3_⟩
    have n4_ : Aside0 (Below w.heap.size w w99) := ⟨h4_⟩
    clear BK126
    clear BK130
    clear BK136
    clear HB
    clear h0_ h1_ h2_ h3_ h4_
    have HO140 := n0_
    have BK126 := n1_
    have BK130 := n2_
    have BK136 := n3_
    have HB := n4_
    clear n0_ n1_ n2_ n3_ n4_
    have hHeld : w99.cell? ⟨gb126, 0, none⟩ = some (.int .i64 a0_0) ∧ w99.cell? ⟨gb126, 1, none⟩ = some (.int .i64 a0_1) ∧ w99.cell? ⟨gb126, 2, none⟩ = some (.string a0_2) ∧ w99.cell? ⟨gb126, 3, none⟩ = some (.string a0_3) ∧ w99.cell? ⟨gb136, 0, none⟩ = some (.int .i64 t131) ∧ w99.cell? ⟨gb136, 1, none⟩ = some (.int .i64 t132) ∧ w99.cell? ⟨gb136, 2, none⟩ = some (.int .i64 t133) ∧ w99.cell? ⟨gb136, 3, none⟩ = some (.bool false) ∧ w99.cell? ⟨gb136, 4, none⟩ = some (.bool true) := hS_
    refine norm_ (a' := ?_) ?_ ?_
    rotate_left
    ·simp only [putAll, Act.put, la_, lb_, lc_]
     rfl
    refine pon_ 20 (some 66) d13x25 HT_.out ?_
    refine pon_ 23 (some 69) d13x26 HT_.out ?_
    refine pon_ 24 (some 10) d13x27 HT_.out ?_
    refine done_ (done_of HT_.out (by kernel_rfl)) ?_
    have hcz100_0 : w99.cell? ⟨gb136, 0, none⟩ = some (.int .i64 t131) := (blk_cell BK136.out 0).trans rfl
    have hcz100_1 : w99.cell? ⟨gb136, 1, none⟩ = some (.int .i64 t132) := (blk_cell BK136.out 1).trans rfl
    have hcz100_2 : w99.cell? ⟨gb136, 2, none⟩ = some (.int .i64 t133) := (blk_cell BK136.out 2).trans rfl
    have hcz100_3 : w99.cell? ⟨gb136, 3, none⟩ = some (.bool false) := (blk_cell BK136.out 3).trans rfl
    have hcz100_4 : w99.cell? ⟨gb136, 4, none⟩ = some (.bool true) := (blk_cell BK136.out 4).trans rfl
    have hfz100_0 := blk_frozen BK136.out 0
    have hfz100_1 := blk_frozen BK136.out 1
    have hfz100_2 := blk_frozen BK136.out 2
    have hfz100_3 := blk_frozen BK136.out 3
    have hfz100_4 := blk_frozen BK136.out 4
    have hcz101_0 : w99.cell? ⟨gb126, 0, none⟩ = some (.int .i64 a0_0) := (blk_cell BK126.out 0).trans rfl
    have hcz101_1 : w99.cell? ⟨gb126, 1, none⟩ = some (.int .i64 a0_1) := (blk_cell BK126.out 1).trans rfl
    have hcz101_2 : w99.cell? ⟨gb126, 2, none⟩ = some (.string a0_2) := (blk_cell BK126.out 2).trans rfl
    have hcz101_3 : w99.cell? ⟨gb126, 3, none⟩ = some (.string a0_3) := (blk_cell BK126.out 3).trans rfl
    have hfz101_0 := blk_frozen BK126.out 0
    have hfz101_1 := blk_frozen BK126.out 1
    have hfz101_2 := blk_frozen BK126.out 2
    have hfz101_3 := blk_frozen BK126.out 3
    try go_wp2_with (first | ((with_reducible refine gate_callee (f := 28) rfl ?_); refine goesL_ (some 85) rfl rfl Tryd.func28 (by kernel_rfl) rfl #[.string a0_3] rfl (by (try simp only [List.map_toArray, List.map_cons, List.map_nil]); first | done | rfl | (simp only [List.length_drop, List.length_take]; rfl)) ?_; (with_reducible refine (crc_Digest.calls kj4 a0_3 t144 _ ?side1 A82.out).mono ?_); (case side1 => first | ((refine Glob.keep HG.out ?_); (repeat (first | (with_reducible first | exact HB.out | apply below_alloc | apply pw_below_drewN | apply below_drew1 | refine below_set ?_ GE126.out | refine below_set ?_ GE130.out | refine below_set ?_ GE136.out) | exact HB.out)); done) | exact HG.out); rintro e w102 ⟨rfl, hb⟩; refine ⟨_, rfl, ?_⟩; have n0_ := Aside0.mk (Kd.R_below (by (with_reducible repeat (first | apply Kd.R_alloc | apply Kd.R_drewN | apply Kd.R_drew)); exact HO140.out) hb); have n1_ := Aside0.mk (blk_below (g := gb126) (o := .cells #[.int .i64 a0_0, .int .i64 a0_1, .string a0_2, .string a0_3] 24 (0, 0)) (by (with_reducible repeat (first | refine blk_drewN ?_ _ | refine blk_drew ?_ | refine blk_alloc ?_ _)); exact BK126.out) hb); have n2_ := Aside0.mk (blk_below (g := gb130) (o := .cells #[.int .i64 t127, .int .i64 t128, .bool t129] 48 (0, 0)) (by (with_reducible repeat (first | refine blk_drewN ?_ _ | refine blk_drew ?_ | refine blk_alloc ?_ _)); exact BK130.out) hb); have n3_ := Aside0.mk (blk_below (g := gb136) (o := .cells #[.int .i64 t131, .int .i64 t132, .int .i64 t133, .bool false, .bool true] 54 (0, 0)) (by (with_reducible repeat (first | refine blk_drewN ?_ _ | refine blk_drew ?_ | refine blk_alloc ?_ _)); exact BK136.out) hb); have n4_ := Aside0.mk (below_step (by repeat (first | (with_reducible first | exact HB.out | apply below_alloc | apply pw_below_drewN | apply below_drew1 | refine below_set ?_ GE126.out | refine below_set ?_ GE130.out | refine below_set ?_ GE136.out) | exact HB.out)) hb); clear HO140; clear BK126; clear BK130; clear BK136; clear HB; have HO140 := n0_; have BK126 := n1_; have BK130 := n2_; have BK136 := n3_; have HB := n4_; clear n0_ n1_ n2_ n3_ n4_; (try clear hb); (try clear hb2); (try clear hk); (try clear hi)))
    go_ret2
    exact ⟨by first | rfl | (simp [errW_none, errW_some] <;> rfl) | (simp [*, errW_none, errW_some] <;> rfl) | (simp [bt, *]; done) | (unfold bt; simp [*]; done), by repeat (first | (with_reducible first | exact HB.out | apply below_alloc | apply pw_below_drewN | apply below_drew1 | refine below_set ?_ GE126.out | refine below_set ?_ GE130.out | refine below_set ?_ GE136.out) | exact HB.out)⟩
   subst c32
   have H1 := H
   rw [if_pos rfl] at H1
   clear H
   have H := H1
   clear H1
   replace H := Option.bind_eq_some_iff.mp H
   obtain ⟨t142, A330, H⟩ := H
   try dsimp only at H
   have A33 := Aside0.mk A330
   clear A330
   refine neg_first (p := ((((strOfNums y138) ++ t141) ++ a0_2).size + t142.size ≤ 9223372036854775807)) (fun c34 => ?_) (fun c34 => ?_)
   ·rw [if_neg c34] at H
    exact absurd H (by simp)
   rw [if_pos c34] at H
   have c34b0 := eq_true c34
   have c34b1 : decide ((((strOfNums y138) ++ t141) ++ a0_2).size + t142.size ≤ 9223372036854775807) = true := decide_eq_true c34
   try have c34b2 : (9223372036854775807 < (((strOfNums y138) ++ t141) ++ a0_2).size + t142.size) = False := eq_false (Nat.not_lt.2 c34)
   (try have c34b4 : (9223372036854775807 < (strOfNums y138).size + t141.size + a0_2.size + t142.size) = False := eq_false (by have h_ := c34; simp only [ByteArray.size_append, ByteArray.size_extract] at h_; omega))
   refine neg_first (p := (((((strOfNums y138) ++ t141) ++ a0_2) ++ t142).size + a0_3.size ≤ 9223372036854775807)) (fun c35 => ?_) (fun c35 => ?_)
   ·rw [if_neg c35] at H
    exact absurd H (by simp)
   rw [if_pos c35] at H
   have c35b0 := eq_true c35
   have c35b1 : decide (((((strOfNums y138) ++ t141) ++ a0_2) ++ t142).size + a0_3.size ≤ 9223372036854775807) = true := decide_eq_true c35
   try have c35b2 : (9223372036854775807 < ((((strOfNums y138) ++ t141) ++ a0_2) ++ t142).size + a0_3.size) = False := eq_false (Nat.not_lt.2 c35)
   (try have c35b4 : (9223372036854775807 < (strOfNums y138).size + t141.size + a0_2.size + t142.size + a0_3.size) = False := eq_false (by have h_ := c35; simp only [ByteArray.size_append, ByteArray.size_extract] at h_; omega))
   refine neg_first (p := (t135 = true)) (fun c36 => ?_) (fun c36 => ?_)
   ·replace c36 := Bool.eq_false_iff.mpr c36
    subst c36
    have H1 := H
    rw [if_neg (show ¬ (false = true) by decide)] at H1
    clear H
    have H := H1
    clear H1
    simp only [Option.some.injEq, Prod.mk.injEq] at H
    obtain ⟨rfl, rfl⟩ := H
    have hnb60 := NB130_126.out
    have hnc60 := NB126_130.out
    have hcz61_0 : wc.cell? ⟨gb130, 0, none⟩ = some (.int .i64 t127) := (blk_cell BK130.out 0).trans rfl
    have hcz61_1 : wc.cell? ⟨gb130, 1, none⟩ = some (.int .i64 t128) := (blk_cell BK130.out 1).trans rfl
    have hcz61_2 : wc.cell? ⟨gb130, 2, none⟩ = some (.bool t129) := (blk_cell BK130.out 2).trans rfl
    have hfz61_0 := blk_frozen BK130.out 0
    have hfz61_1 := blk_frozen BK130.out 1
    have hfz61_2 := blk_frozen BK130.out 2
    have hcz62_0 : wc.cell? ⟨gb126, 0, none⟩ = some (.int .i64 a0_0) := (blk_cell BK126.out 0).trans rfl
    have hcz62_1 : wc.cell? ⟨gb126, 1, none⟩ = some (.int .i64 a0_1) := (blk_cell BK126.out 1).trans rfl
    have hcz62_2 : wc.cell? ⟨gb126, 2, none⟩ = some (.string a0_2) := (blk_cell BK126.out 2).trans rfl
    have hcz62_3 : wc.cell? ⟨gb126, 3, none⟩ = some (.string a0_3) := (blk_cell BK126.out 3).trans rfl
    have hfz62_0 := blk_frozen BK126.out 0
    have hfz62_1 := blk_frozen BK126.out 1
    have hfz62_2 := blk_frozen BK126.out 2
    have hfz62_3 := blk_frozen BK126.out 3
    try go_wp2_with (first | ((with_reducible refine gate_callee (f := 19) rfl ?_); refine goesL_ (some 45) rfl rfl Tryd.func19 (by kernel_rfl) rfl #[.agg #[.int .i64 t127, .int .i64 t128, .bool t129], .int .i64 (a0_3.size : Int), .bool a1, .bool a2] rfl (by (try simp only [List.map_toArray, List.map_cons, List.map_nil]); first | done | rfl | (simp only [List.length_drop, List.length_take]; rfl)) ?_; (with_reducible refine (tpdu_form_measure.calls t127 t128 t129 (a0_3.size : Int) a1 a2 t131 t132 t133 true false _ A27.out).mono ?_); rintro e w63 ⟨rfl, hb⟩; refine ⟨_, rfl, ?_⟩; have n0_ := Aside0.mk (blk_below (g := gb126) (o := .cells #[.int .i64 a0_0, .int .i64 a0_1, .string a0_2, .string a0_3] 24 (0, 0)) (by (with_reducible repeat (first | refine blk_drewN ?_ _ | refine blk_drew ?_ | refine blk_alloc ?_ _)); exact BK126.out) hb); have n1_ := Aside0.mk (blk_below (g := gb130) (o := .cells #[.int .i64 t127, .int .i64 t128, .bool t129] 48 (0, 0)) (by (with_reducible repeat (first | refine blk_drewN ?_ _ | refine blk_drew ?_ | refine blk_alloc ?_ _)); exact BK130.out) hb); have n2_ := Aside0.mk (below_step (by repeat (first | (with_reducible first | exact HB.out | apply below_alloc | apply pw_below_drewN | apply below_drew1 | refine below_set ?_ GE126.out | refine below_set ?_ GE130.out) | exact HB.out)) hb); clear BK126; clear BK130; clear HB; have BK126 := n0_; have BK130 := n1_; have HB := n2_; clear n0_ n1_ n2_; (try clear hb); (try clear hb2); (try clear hk); (try clear hi)) | ((with_reducible refine gate_dst (N := 9) rfl ?_); (try (refine gate_guard (by rfl) ?_; dsimp only)); refine box_event ?hg (N := 9) ?hd (cs := #[.int .i64 0, .int .i64 0, .int .i64 0, .bool false, .bool false]) (t := 54) ?hr ?_; (case hd => rfl); (case hg => rfl); (case hr => first | (go_simp; done) | (go_simp; rfl)); intro gb136 hg w64 hbox hb; have n0_ := Aside0.mk (blk_below (g := gb126) (o := .cells #[.int .i64 a0_0, .int .i64 a0_1, .string a0_2, .string a0_3] 24 (0, 0)) (by (with_reducible repeat (first | refine blk_drewN ?_ _ | refine blk_drew ?_ | refine blk_alloc ?_ _)); exact BK126.out) hb); have n1_ := Aside0.mk (blk_below (g := gb130) (o := .cells #[.int .i64 t127, .int .i64 t128, .bool t129] 48 (0, 0)) (by (with_reducible repeat (first | refine blk_drewN ?_ _ | refine blk_drew ?_ | refine blk_alloc ?_ _)); exact BK130.out) hb); have n2_ := Aside0.mk (below_step (by repeat (first | (with_reducible first | exact HB.out | apply below_alloc | apply pw_below_drewN | apply below_drew1 | refine below_set ?_ GE126.out | refine below_set ?_ GE130.out) | exact HB.out)) hb); have n3_ := Aside0.mk (hbox); have n4_ := Aside0.mk ((by rw [hg]; exact (below_size (by repeat (first | (with_reducible first | exact HB.out | apply below_alloc | apply pw_below_drewN | apply below_drew1 | refine below_set ?_ GE126.out | refine below_set ?_ GE130.out) | exact HB.out))) : w.heap.size ≤ gb136)); have n5_ := Aside0.mk ((by rw [hg]; exact (below_size (by repeat (first | (with_reducible first | exact HB.out | apply below_alloc | apply pw_below_drewN | apply below_drew1 | refine below_set ?_ GE126.out | refine below_set ?_ GE130.out) | exact HB.out))) : w.heap.size ≤ gb136)); have n6_ := Aside0.mk ((by rw [hg]; exact Nat.ne_of_lt (blk_lt (g := gb126) (o := .cells #[.int .i64 a0_0, .int .i64 a0_1, .string a0_2, .string a0_3] 24 (0, 0)) (by (with_reducible repeat (first | refine blk_drewN ?_ _ | refine blk_drew ?_ | refine blk_alloc ?_ _)); exact BK126.out)) : gb126 ≠ gb136)); have n7_ := Aside0.mk ((by rw [hg]; exact Nat.ne_of_gt (blk_lt (g := gb126) (o := .cells #[.int .i64 a0_0, .int .i64 a0_1, .string a0_2, .string a0_3] 24 (0, 0)) (by (with_reducible repeat (first | refine blk_drewN ?_ _ | refine blk_drew ?_ | refine blk_alloc ?_ _)); exact BK126.out)) : gb136 ≠ gb126)); have n8_ := Aside0.mk ((by rw [hg]; exact Nat.ne_of_lt (blk_lt (g := gb130) (o := .cells #[.int .i64 t127, .int .i64 t128, .bool t129] 48 (0, 0)) (by (with_reducible repeat (first | refine blk_drewN ?_ _ | refine blk_drew ?_ | refine blk_alloc ?_ _)); exact BK130.out)) : gb130 ≠ gb136)); have n9_ := Aside0.mk ((by rw [hg]; exact Nat.ne_of_gt (blk_lt (g := gb130) (o := .cells #[.int .i64 t127, .int .i64 t128, .bool t129] 48 (0, 0)) (by (with_reducible repeat (first | refine blk_drewN ?_ _ | refine blk_drew ?_ | refine blk_alloc ?_ _)); exact BK130.out)) : gb136 ≠ gb130)); clear BK126; clear BK130; clear HB; have BK126 := n0_; have BK130 := n1_; have HB := n2_; have BK136 := n3_; have GW136 := n4_; have GE136 := n5_; have NB126_136 := n6_; have NB136_126 := n7_; have NB130_136 := n8_; have NB136_130 := n9_; clear n0_ n1_ n2_ n3_ n4_ n5_ n6_ n7_ n8_ n9_; clear hb hbox hg; have hnb65 := NB136_126.out; have hnc65 := NB126_136.out; have hnb66 := NB136_130.out; have hnc66 := NB130_136.out; have hcz67_0 : w64.cell? ⟨gb136, 0, none⟩ = some (.int .i64 0) := (blk_cell BK136.out 0).trans rfl; have hcz67_1 : w64.cell? ⟨gb136, 1, none⟩ = some (.int .i64 0) := (blk_cell BK136.out 1).trans rfl; have hcz67_2 : w64.cell? ⟨gb136, 2, none⟩ = some (.int .i64 0) := (blk_cell BK136.out 2).trans rfl; have hcz67_3 : w64.cell? ⟨gb136, 3, none⟩ = some (.bool false) := (blk_cell BK136.out 3).trans rfl; have hcz67_4 : w64.cell? ⟨gb136, 4, none⟩ = some (.bool false) := (blk_cell BK136.out 4).trans rfl; have hfz67_0 := blk_frozen BK136.out 0; have hfz67_1 := blk_frozen BK136.out 1; have hfz67_2 := blk_frozen BK136.out 2; have hfz67_3 := blk_frozen BK136.out 3; have hfz67_4 := blk_frozen BK136.out 4))
    have n0_ : Aside0 ((((((w64.setCell ⟨gb136, 0, none⟩ (.int .i64 t131)).setCell ⟨gb136, 1, none⟩ (.int .i64 t132)).setCell ⟨gb136, 2, none⟩ (.int .i64 t133)).setCell ⟨gb136, 3, none⟩ (.bool true)).setCell ⟨gb136, 4, none⟩ (.bool false)).heap[gb126]? = some (.cells #[.int .i64 a0_0, .int .i64 a0_1, .string a0_2, .string a0_3] 24 (0, 0))) := ⟨by (with_reducible repeat (first | refine blk_drewN ?_ _ | refine blk_drew ?_ | refine blk_alloc ?_ _ | refine blk_far ?_ NB126_136.out _)); exact BK126.out⟩
    have n1_ : Aside0 ((((((w64.setCell ⟨gb136, 0, none⟩ (.int .i64 t131)).setCell ⟨gb136, 1, none⟩ (.int .i64 t132)).setCell ⟨gb136, 2, none⟩ (.int .i64 t133)).setCell ⟨gb136, 3, none⟩ (.bool true)).setCell ⟨gb136, 4, none⟩ (.bool false)).heap[gb130]? = some (.cells #[.int .i64 t127, .int .i64 t128, .bool t129] 48 (0, 0))) := ⟨by (with_reducible repeat (first | refine blk_drewN ?_ _ | refine blk_drew ?_ | refine blk_alloc ?_ _ | refine blk_far ?_ NB130_136.out _)); exact BK130.out⟩
    have n2_ : Aside0 ((((((w64.setCell ⟨gb136, 0, none⟩ (.int .i64 t131)).setCell ⟨gb136, 1, none⟩ (.int .i64 t132)).setCell ⟨gb136, 2, none⟩ (.int .i64 t133)).setCell ⟨gb136, 3, none⟩ (.bool true)).setCell ⟨gb136, 4, none⟩ (.bool false)).heap[gb136]? = some (.cells #[.int .i64 t131, .int .i64 t132, .int .i64 t133, .bool true, .bool false] 54 (0, 0))) := ⟨by (with_reducible repeat (first | refine blk_drewN ?_ _ | refine blk_drew ?_ | refine blk_alloc ?_ _)); refine blk_put (cs := #[.int .i64 t131, .int .i64 t132, .int .i64 t133, .bool true, .bool false]) ?_ 4 _ rfl; (with_reducible repeat (first | refine blk_drewN ?_ _ | refine blk_drew ?_ | refine blk_alloc ?_ _)); refine blk_put (cs := #[.int .i64 t131, .int .i64 t132, .int .i64 t133, .bool false, .bool false]) ?_ 3 _ rfl; (with_reducible repeat (first | refine blk_drewN ?_ _ | refine blk_drew ?_ | refine blk_alloc ?_ _)); refine blk_put (cs := #[.int .i64 t131, .int .i64 t132, .int .i64 0, .bool false, .bool false]) ?_ 2 _ rfl; (with_reducible repeat (first | refine blk_drewN ?_ _ | refine blk_drew ?_ | refine blk_alloc ?_ _)); refine blk_put (cs := #[.int .i64 t131, .int .i64 0, .int .i64 0, .bool false, .bool false]) ?_ 1 _ rfl; (with_reducible repeat (first | refine blk_drewN ?_ _ | refine blk_drew ?_ | refine blk_alloc ?_ _)); refine blk_put (cs := #[.int .i64 0, .int .i64 0, .int .i64 0, .bool false, .bool false]) ?_ 0 _ rfl; (with_reducible repeat (first | refine blk_drewN ?_ _ | refine blk_drew ?_ | refine blk_alloc ?_ _)); exact BK136.out⟩
    have n3_ : Aside0 (Below w.heap.size w (((((w64.setCell ⟨gb136, 0, none⟩ (.int .i64 t131)).setCell ⟨gb136, 1, none⟩ (.int .i64 t132)).setCell ⟨gb136, 2, none⟩ (.int .i64 t133)).setCell ⟨gb136, 3, none⟩ (.bool true)).setCell ⟨gb136, 4, none⟩ (.bool false))) := ⟨by repeat (first | (with_reducible first | exact HB.out | apply below_alloc | apply pw_below_drewN | apply below_drew1 | refine below_set ?_ GE126.out | refine below_set ?_ GE130.out | refine below_set ?_ GE136.out) | exact HB.out)⟩
    (try clear BK126)
    (try clear BK130)
    (try clear BK136)
    (try clear HB)
    generalize (((((w64.setCell ⟨gb136, 0, none⟩ (.int .i64 t131)).setCell ⟨gb136, 1, none⟩ (.int .i64 t132)).setCell ⟨gb136, 2, none⟩ (.int .i64 t133)).setCell ⟨gb136, 3, none⟩ (.bool true)).setCell ⟨gb136, 4, none⟩ (.bool false)) = w68 at n0_ n1_ n2_ n3_ ⊢
    have BK126 := n0_
    have BK130 := n1_
    have BK136 := n2_
    have HB := n3_
    clear n0_ n1_ n2_ n3_
    have n0_ := Aside0.mk (blk_drew BK126.out)
    have n1_ := Aside0.mk (blk_drew BK130.out)
    have n2_ := Aside0.mk (blk_drew BK136.out)
    have n3_ := Aside0.mk (below_drew1 HB.out)
    clear BK126
    clear BK130
    clear BK136
    clear HB
    have BK126 := n0_
    have BK130 := n1_
    have BK136 := n2_
    have HB := n3_
    clear n0_ n1_ n2_ n3_
    refine start_ (n := 25) (S := fun w' => w'.cell? ⟨gb126, 0, none⟩ = some (.int .i64 a0_0) ∧ w'.cell? ⟨gb126, 1, none⟩ = some (.int .i64 a0_1) ∧ w'.cell? ⟨gb126, 2, none⟩ = some (.string a0_2) ∧ w'.cell? ⟨gb126, 3, none⟩ = some (.string a0_3) ∧ w'.cell? ⟨gb136, 0, none⟩ = some (.int .i64 t131) ∧ w'.cell? ⟨gb136, 1, none⟩ = some (.int .i64 t132) ∧ w'.cell? ⟨gb136, 2, none⟩ = some (.int .i64 t133) ∧ w'.cell? ⟨gb136, 3, none⟩ = some (.bool true) ∧ w'.cell? ⟨gb136, 4, none⟩ = some (.bool false)) (ds := []) d13x0 (by kernel_rfl) rfl rfl ⟨(blk_cell BK126.out 0).trans rfl, (blk_cell BK126.out 1).trans rfl, (blk_cell BK126.out 2).trans rfl, (blk_cell BK126.out 3).trans rfl, (blk_cell BK136.out 0).trans rfl, (blk_cell BK136.out 1).trans rfl, (blk_cell BK136.out 2).trans rfl, (blk_cell BK136.out 3).trans rfl, (blk_cell BK136.out 4).trans rfl⟩ (fun hHeld => ?_); refine with_tabW tpdu_Put.tab5 tpdu_Put.bits5 (fun HT_ HW_ => ?_)
    generalize w68.drew = w69 at BK126 BK130 BK136 HB hHeld ⊢
    refine pon_ 0 (some 46) d13x1 HT_.out ?_
    refine pon_ 4 (some 50) d13x2 HT_.out ?_
    refine pon_ 8 (some 54) d13x3 HT_.out ?_
    refine pon_ 11 (some 57) d13x4 HT_.out ?_
    refine pon_ 16 (some 62) d13x5 HT_.out ?_
    refine pon_ 21 (some 67) d13x6 HT_.out ?_
    refine ptk_ 1 (some 47) d13x7 HT_.out HW_.out hHeld ?_
    refine pon_ 2 (some 48) d13x8 HT_.out ?_
    refine ptk_ 3 (some 49) d13x9 HT_.out HW_.out hHeld ?_
    refine ptk_ 5 (some 51) d13x10 HT_.out HW_.out hHeld ?_
    refine ptk_ 9 (some 55) d13x11 HT_.out HW_.out hHeld ?_
    refine pon_ 10 (some 56) d13x12 HT_.out ?_
    refine ptk_ 12 (some 58) d13x13 HT_.out HW_.out hHeld ?_
    refine pon_ 13 (some 59) d13x14 HT_.out ?_
    refine ptk_ 17 (some 63) d13x15 HT_.out HW_.out hHeld ?_
    refine pon_ 18 (some 64) d13x16 HT_.out ?_
    refine ptk_ 22 (some 68) d13x17 HT_.out HW_.out hHeld ?_
    refine one_ (i := 6) (N := some 52) d13x18 rfl rfl (one_of HT_.out (by kernel_rfl)) (by decide) (fun K hK => ?_)
    refine goes_ Tryd.func20 (by kernel_rfl) rfl #[.agg #[.int .i64 t131, .int .i64 t132, .int .i64 t133, .bool true, .bool false], .int .i64 a0_1] (by rfl) rfl rfl (by (try simp only [List.map_toArray, List.map_cons, List.map_nil]); first | done | rfl | (simp only [List.length_drop, List.length_take]; rfl)) ?_
    with_reducible refine (tpdu_measured_flags.calls t131 t132 t133 true false a0_1 t137 _ A28.out).mono ?_
    rintro e w70 ⟨rfl, hb⟩
    refine ⟨_, rfl, ?_⟩
    have n0_ := Aside0.mk (blk_below (g := gb126) (o := .cells #[.int .i64 a0_0, .int .i64 a0_1, .string a0_2, .string a0_3] 24 (0, 0)) (by (with_reducible repeat (first | refine blk_drewN ?_ _ | refine blk_drew ?_ | refine blk_alloc ?_ _)); exact BK126.out) hb)
    have n1_ := Aside0.mk (blk_below (g := gb130) (o := .cells #[.int .i64 t127, .int .i64 t128, .bool t129] 48 (0, 0)) (by (with_reducible repeat (first | refine blk_drewN ?_ _ | refine blk_drew ?_ | refine blk_alloc ?_ _)); exact BK130.out) hb)
    have n2_ := Aside0.mk (blk_below (g := gb136) (o := .cells #[.int .i64 t131, .int .i64 t132, .int .i64 t133, .bool true, .bool false] 54 (0, 0)) (by (with_reducible repeat (first | refine blk_drewN ?_ _ | refine blk_drew ?_ | refine blk_alloc ?_ _)); exact BK136.out) hb)
    have n3_ := Aside0.mk (below_step (by repeat (first | (with_reducible first | exact HB.out | apply below_alloc | apply pw_below_drewN | apply below_drew1 | refine below_set ?_ GE126.out | refine below_set ?_ GE130.out | refine below_set ?_ GE136.out) | exact HB.out)) hb)
    clear BK126
    clear BK130
    clear BK136
    clear HB
    have BK126 := n0_
    have BK130 := n1_
    have BK136 := n2_
    have HB := n3_
    clear n0_ n1_ n2_ n3_
    (try clear hb)
    (try clear hb2)
    (try clear hk)
    (try clear hi)
    refine hK.out _ _ ⟨(blk_cell BK126.out 0).trans rfl, (blk_cell BK126.out 1).trans rfl, (blk_cell BK126.out 2).trans rfl, (blk_cell BK126.out 3).trans rfl, (blk_cell BK136.out 0).trans rfl, (blk_cell BK136.out 1).trans rfl, (blk_cell BK136.out 2).trans rfl, (blk_cell BK136.out 3).trans rfl, (blk_cell BK136.out 4).trans rfl⟩ (fun hHeld => ?_)
    clear hK K
    refine norm_ (a' := ?_) ?_ ?_
    rotate_left
    ·show Act.put _ (some 52) _ = _
     simp only [Act.put, la_, lb_, lc_, i64_w, i32_w]
     rfl
    refine pon_ 7 (some 53) d13x19 HT_.out ?_
    refine join_ (σ := Value) 3 d13x24 (fun s_ => [(60, s_), (61, .string (strOfNums y138)), (65, .string t141)]) (fun s_ w' => (w'.cell? ⟨gb126, 0, none⟩ = some (.int .i64 a0_0) ∧ w'.cell? ⟨gb126, 1, none⟩ = some (.int .i64 a0_1) ∧ w'.cell? ⟨gb126, 2, none⟩ = some (.string a0_2) ∧ w'.cell? ⟨gb126, 3, none⟩ = some (.string a0_3) ∧ w'.cell? ⟨gb136, 0, none⟩ = some (.int .i64 t131) ∧ w'.cell? ⟨gb136, 1, none⟩ = some (.int .i64 t132) ∧ w'.cell? ⟨gb136, 2, none⟩ = some (.int .i64 t133) ∧ w'.cell? ⟨gb136, 3, none⟩ = some (.bool true) ∧ w'.cell? ⟨gb136, 4, none⟩ = some (.bool false)) ∧ (Kd.R (Kd.int .u8) 5 w' w.heap.size (fun _ => True) s_ y138) ∧ (w'.heap[gb126]? = some (.cells #[.int .i64 a0_0, .int .i64 a0_1, .string a0_2, .string a0_3] 24 (0, 0))) ∧ (w'.heap[gb130]? = some (.cells #[.int .i64 t127, .int .i64 t128, .bool t129] 48 (0, 0))) ∧ (w'.heap[gb136]? = some (.cells #[.int .i64 t131, .int .i64 t132, .int .i64 t133, .bool true, .bool false] 54 (0, 0))) ∧ (Below w.heap.size w w')) ?_ ?_
    rotate_left
    ·intro hCont
     refine two_ (i := 14) (j := 19) (Ni := some 60) (Nj := some 65) d13x21 d13x20 rfl rfl rfl rfl (two_of HT_.out (by kernel_rfl)) (by decide) (by decide) (fun K hK => ?_) (fun K hK => ?_)
     ·skip
      refine Kd.R_lit_step (Kd.int .u8) _ 5 ?hg (N := 60) ?hd (xs := ([(a0_0) % 256, (t137) % 256, (t131) % 256, (t132) % 256] : List Int)) (inner := [.int .u8 ((a0_0) % 256), .int .u8 ((t137) % 256), .int .u8 ((t131) % 256), .int .u8 ((t132) % 256)]) (ok := fun _ => True) (okp := fun _ => True) ?hr ?hp (fun _ hk => hk) trivial (Below.refl _ _) (Nat.le_refl _) (by simp) ?_; (case hd => rfl); (case hg => rfl); (case hr => first | (go_simp; done) | (go_simp; rfl)); (case hp => exact (Reps.one (show Kd.M (Kd.int .u8) _ _ _ ((a0_0) % 256) [.int .u8 ((a0_0) % 256)] from rfl) (Reps.one (show Kd.M (Kd.int .u8) _ _ _ ((t137) % 256) [.int .u8 ((t137) % 256)] from rfl) (Reps.one (show Kd.M (Kd.int .u8) _ _ _ ((t131) % 256) [.int .u8 ((t131) % 256)] from rfl) (Reps.one (show Kd.M (Kd.int .u8) _ _ _ ((t132) % 256) [.int .u8 ((t132) % 256)] from rfl) (Reps.none _ _))))))
      intro v139 w71 ho72 hb hg_ hnew_
      clear hg_ hnew_
      (first | rw [← Ny138.out] at ho72 | (simp only [Int.reduceToNat] at ho72; rw [← Ny138.out] at ho72))
      have n0_ := Aside0.mk (Kd.R_lower ho72 (below_size (by repeat (first | (with_reducible first | exact HB.out | apply below_alloc | apply pw_below_drewN | apply below_drew1 | refine below_set ?_ GE126.out | refine below_set ?_ GE130.out | refine below_set ?_ GE136.out) | exact HB.out))))
      have n1_ := Aside0.mk (blk_below (g := gb126) (o := .cells #[.int .i64 a0_0, .int .i64 a0_1, .string a0_2, .string a0_3] 24 (0, 0)) (by (with_reducible repeat (first | refine blk_drewN ?_ _ | refine blk_drew ?_ | refine blk_alloc ?_ _)); exact BK126.out) hb)
      have n2_ := Aside0.mk (blk_below (g := gb130) (o := .cells #[.int .i64 t127, .int .i64 t128, .bool t129] 48 (0, 0)) (by (with_reducible repeat (first | refine blk_drewN ?_ _ | refine blk_drew ?_ | refine blk_alloc ?_ _)); exact BK130.out) hb)
      have n3_ := Aside0.mk (blk_below (g := gb136) (o := .cells #[.int .i64 t131, .int .i64 t132, .int .i64 t133, .bool true, .bool false] 54 (0, 0)) (by (with_reducible repeat (first | refine blk_drewN ?_ _ | refine blk_drew ?_ | refine blk_alloc ?_ _)); exact BK136.out) hb)
      have n4_ := Aside0.mk (below_step (by repeat (first | (with_reducible first | exact HB.out | apply below_alloc | apply pw_below_drewN | apply below_drew1 | refine below_set ?_ GE126.out | refine below_set ?_ GE130.out | refine below_set ?_ GE136.out) | exact HB.out)) hb)
      clear BK126
      clear BK130
      clear BK136
      clear HB
      have HO140 := n0_
      have BK126 := n1_
      have BK130 := n2_
      have BK136 := n3_
      have HB := n4_
      clear n0_ n1_ n2_ n3_ n4_
      clear hb ho72
      refine hK.out _ _ ⟨(blk_cell BK126.out 0).trans rfl, (blk_cell BK126.out 1).trans rfl, (blk_cell BK126.out 2).trans rfl, (blk_cell BK126.out 3).trans rfl, (blk_cell BK136.out 0).trans rfl, (blk_cell BK136.out 1).trans rfl, (blk_cell BK136.out 2).trans rfl, (blk_cell BK136.out 3).trans rfl, (blk_cell BK136.out 4).trans rfl⟩ (fun hHeld => ?_)
      clear hK K
      refine norm_ (a' := ?_) ?_ ?_
      rotate_left
      ·show Act.put _ (some 60) _ = _
       simp only [Act.put, la_, lb_, lc_, i64_w, i32_w]
       rfl
      refine two_ (i := 15) (j := 19) (Ni := some 61) (Nj := some 65) d13x23 d13x22 rfl rfl rfl rfl (two_of HT_.out (by kernel_rfl)) (by decide) (by decide) (fun K hK => ?_) (fun K hK => ?_)
      ·skip
       have hcv73 := own_string (P := Tryd.prog) Tryd.underlying45 Tryd.underlying5 Tryd.underlying9 (Kd.own_of_R HO140.out)
       refine value_ (w1 := ?_) (v := ?_) (by rfl) rfl ?_ ?_
       rotate_left 2
       ·go_simp
        constructor
        ·rfl
        ·rfl
       clear hcv73
       refine hK.out _ _ ⟨(blk_cell BK126.out 0).trans rfl, (blk_cell BK126.out 1).trans rfl, (blk_cell BK126.out 2).trans rfl, (blk_cell BK126.out 3).trans rfl, (blk_cell BK136.out 0).trans rfl, (blk_cell BK136.out 1).trans rfl, (blk_cell BK136.out 2).trans rfl, (blk_cell BK136.out 3).trans rfl, (blk_cell BK136.out 4).trans rfl⟩ (fun hHeld => ?_)
       clear hK K
       refine norm_ (a' := ?_) ?_ ?_
       rotate_left
       ·show Act.put _ (some 61) _ = _
        simp only [Act.put, la_, lb_, lc_, i64_w, i32_w]
        rfl
       refine one_ (i := 19) (N := some 65) d13x24 rfl rfl (one_of HT_.out (by kernel_rfl)) (by decide) (fun K hK => ?_)
       refine goes_ Tryd.func27 (by kernel_rfl) rfl #[.int .u64 (IntKind.u64.wrap (t133)), .int .i64 4] (by rfl) rfl rfl (by (try simp only [List.map_toArray, List.map_cons, List.map_nil]); first | done | rfl | (simp only [List.length_drop, List.length_take]; rfl)) ?_
       with_reducible refine (fields_PutLittle.calls kj4 (IntKind.u64.wrap (t133)) 4 t141 _ A29.out).mono ?_
       rintro e w74 ⟨rfl, hb⟩
       refine ⟨_, rfl, ?_⟩
       have n0_ := Aside0.mk (Kd.R_below (by (with_reducible repeat (first | apply Kd.R_alloc | apply Kd.R_drewN | apply Kd.R_drew)); exact HO140.out) hb)
       have n1_ := Aside0.mk (blk_below (g := gb126) (o := .cells #[.int .i64 a0_0, .int .i64 a0_1, .string a0_2, .string a0_3] 24 (0, 0)) (by (with_reducible repeat (first | refine blk_drewN ?_ _ | refine blk_drew ?_ | refine blk_alloc ?_ _)); exact BK126.out) hb)
       have n2_ := Aside0.mk (blk_below (g := gb130) (o := .cells #[.int .i64 t127, .int .i64 t128, .bool t129] 48 (0, 0)) (by (with_reducible repeat (first | refine blk_drewN ?_ _ | refine blk_drew ?_ | refine blk_alloc ?_ _)); exact BK130.out) hb)
       have n3_ := Aside0.mk (blk_below (g := gb136) (o := .cells #[.int .i64 t131, .int .i64 t132, .int .i64 t133, .bool true, .bool false] 54 (0, 0)) (by (with_reducible repeat (first | refine blk_drewN ?_ _ | refine blk_drew ?_ | refine blk_alloc ?_ _)); exact BK136.out) hb)
       have n4_ := Aside0.mk (below_step (by repeat (first | (with_reducible first | exact HB.out | apply below_alloc | apply pw_below_drewN | apply below_drew1 | refine below_set ?_ GE126.out | refine below_set ?_ GE130.out | refine below_set ?_ GE136.out) | exact HB.out)) hb)
       clear HO140
       clear BK126
       clear BK130
       clear BK136
       clear HB
       have HO140 := n0_
       have BK126 := n1_
       have BK130 := n2_
       have BK136 := n3_
       have HB := n4_
       clear n0_ n1_ n2_ n3_ n4_
       (try clear hb)
       (try clear hb2)
       (try clear hk)
       (try clear hi)
       refine hK.out _ _ ⟨(blk_cell BK126.out 0).trans rfl, (blk_cell BK126.out 1).trans rfl, (blk_cell BK126.out 2).trans rfl, (blk_cell BK126.out 3).trans rfl, (blk_cell BK136.out 0).trans rfl, (blk_cell BK136.out 1).trans rfl, (blk_cell BK136.out 2).trans rfl, (blk_cell BK136.out 3).trans rfl, (blk_cell BK136.out 4).trans rfl⟩ (fun hHeld => ?_)
       clear hK K
       refine norm_ (a' := ?_) ?_ ?_
       rotate_left
       ·show Act.put _ (some 65) _ = _
        simp only [Act.put, la_, lb_, lc_, i64_w, i32_w]
        rfl
       exact norm_ (by simp only [putAll, Act.put, la_, lb_, lc_]) (hCont (v139) _ ⟨hHeld, (by (with_reducible repeat (first | apply Kd.R_alloc | apply Kd.R_drewN | apply Kd.R_drew)); exact HO140.out), (by (with_reducible repeat (first | refine blk_drewN ?_ _ | refine blk_drew ?_ | refine blk_alloc ?_ _)); exact BK126.out), (by (with_reducible repeat (first | refine blk_drewN ?_ _ | refine blk_drew ?_ | refine blk_alloc ?_ _)); exact BK130.out), (by (with_reducible repeat (first | refine blk_drewN ?_ _ | refine blk_drew ?_ | refine blk_alloc ?_ _)); exact BK136.out), (by repeat (first | (with_reducible first | exact HB.out | apply below_alloc | apply pw_below_drewN | apply below_drew1 | refine below_set ?_ GE126.out | refine below_set ?_ GE130.out | refine below_set ?_ GE136.out) | exact HB.out))⟩)
      ·skip
       refine goes_ Tryd.func27 (by kernel_rfl) rfl #[.int .u64 (IntKind.u64.wrap (t133)), .int .i64 4] (by rfl) rfl rfl (by (try simp only [List.map_toArray, List.map_cons, List.map_nil]); first | done | rfl | (simp only [List.length_drop, List.length_take]; rfl)) ?_
       with_reducible refine (fields_PutLittle.calls kj4 (IntKind.u64.wrap (t133)) 4 t141 _ A29.out).mono ?_
       rintro e w73 ⟨rfl, hb⟩
       refine ⟨_, rfl, ?_⟩
       have n0_ := Aside0.mk (Kd.R_below (by (with_reducible repeat (first | apply Kd.R_alloc | apply Kd.R_drewN | apply Kd.R_drew)); exact HO140.out) hb)
       have n1_ := Aside0.mk (blk_below (g := gb126) (o := .cells #[.int .i64 a0_0, .int .i64 a0_1, .string a0_2, .string a0_3] 24 (0, 0)) (by (with_reducible repeat (first | refine blk_drewN ?_ _ | refine blk_drew ?_ | refine blk_alloc ?_ _)); exact BK126.out) hb)
       have n2_ := Aside0.mk (blk_below (g := gb130) (o := .cells #[.int .i64 t127, .int .i64 t128, .bool t129] 48 (0, 0)) (by (with_reducible repeat (first | refine blk_drewN ?_ _ | refine blk_drew ?_ | refine blk_alloc ?_ _)); exact BK130.out) hb)
       have n3_ := Aside0.mk (blk_below (g := gb136) (o := .cells #[.int .i64 t131, .int .i64 t132, .int .i64 t133, .bool true, .bool false] 54 (0, 0)) (by (with_reducible repeat (first | refine blk_drewN ?_ _ | refine blk_drew ?_ | refine blk_alloc ?_ _)); exact BK136.out) hb)
       have n4_ := Aside0.mk (below_step (by repeat (first | (with_reducible first | exact HB.out | apply below_alloc | apply pw_below_drewN | apply below_drew1 | refine below_set ?_ GE126.out | refine below_set ?_ GE130.out | refine below_set ?_ GE136.out) | exact HB.out)) hb)
       clear HO140
       clear BK126
       clear BK130
       clear BK136
       clear HB
       have HO140 := n0_
       have BK126 := n1_
       have BK130 := n2_
       have BK136 := n3_
       have HB := n4_
       clear n0_ n1_ n2_ n3_ n4_
       (try clear hb)
       (try clear hb2)
       (try clear hk)
       (try clear hi)
       refine hK.out _ _ ⟨(blk_cell BK126.out 0).trans rfl, (blk_cell BK126.out 1).trans rfl, (blk_cell BK126.out 2).trans rfl, (blk_cell BK126.out 3).trans rfl, (blk_cell BK136.out 0).trans rfl, (blk_cell BK136.out 1).trans rfl, (blk_cell BK136.out 2).trans rfl, (blk_cell BK136.out 3).trans rfl, (blk_cell BK136.out 4).trans rfl⟩ (fun hHeld => ?_)
       clear hK K
       refine norm_ (a' := ?_) ?_ ?_
       rotate_left
       ·show Act.put _ (some 65) _ = _
        simp only [Act.put, la_, lb_, lc_, i64_w, i32_w]
        rfl
       refine one_ (i := 15) (N := some 61) d13x24 rfl rfl (one_of HT_.out (by kernel_rfl)) (by decide) (fun K hK => ?_)
       have hcv74 := own_string (P := Tryd.prog) Tryd.underlying45 Tryd.underlying5 Tryd.underlying9 (Kd.own_of_R HO140.out)
       refine value_ (w1 := ?_) (v := ?_) (by rfl) rfl ?_ ?_
       rotate_left 2
       ·go_simp
        constructor
        ·rfl
        ·rfl
       clear hcv74
       refine hK.out _ _ ⟨(blk_cell BK126.out 0).trans rfl, (blk_cell BK126.out 1).trans rfl, (blk_cell BK126.out 2).trans rfl, (blk_cell BK126.out 3).trans rfl, (blk_cell BK136.out 0).trans rfl, (blk_cell BK136.out 1).trans rfl, (blk_cell BK136.out 2).trans rfl, (blk_cell BK136.out 3).trans rfl, (blk_cell BK136.out 4).trans rfl⟩ (fun hHeld => ?_)
       clear hK K
       refine norm_ (a' := ?_) ?_ ?_
       rotate_left
       ·show Act.put _ (some 61) _ = _
        simp only [Act.put, la_, lb_, lc_, i64_w, i32_w]
        rfl
       exact norm_ (by simp only [putAll, Act.put, la_, lb_, lc_]) (hCont (v139) _ ⟨hHeld, (by (with_reducible repeat (first | apply Kd.R_alloc | apply Kd.R_drewN | apply Kd.R_drew)); exact HO140.out), (by (with_reducible repeat (first | refine blk_drewN ?_ _ | refine blk_drew ?_ | refine blk_alloc ?_ _)); exact BK126.out), (by (with_reducible repeat (first | refine blk_drewN ?_ _ | refine blk_drew ?_ | refine blk_alloc ?_ _)); exact BK130.out), (by (with_reducible repeat (first | refine blk_drewN ?_ _ | refine blk_drew ?_ | refine blk_alloc ?_ _)); exact BK136.out), (by repeat (first | (with_reducible first | exact HB.out | apply below_alloc | apply pw_below_drewN | apply below_drew1 | refine below_set ?_ GE126.out | refine below_set ?_ GE130.out | refine below_set ?_ GE136.out) | exact HB.out))⟩)
     ·skip
      refine goes_ Tryd.func27 (by kernel_rfl) rfl #[.int .u64 (IntKind.u64.wrap (t133)), .int .i64 4] (by rfl) rfl rfl (by (try simp only [List.map_toArray, List.map_cons, List.map_nil]); first | done | rfl | (simp only [List.length_drop, List.length_take]; rfl)) ?_
      with_reducible refine (fields_PutLittle.calls kj4 (IntKind.u64.wrap (t133)) 4 t141 _ A29.out).mono ?_
      rintro e w71 ⟨rfl, hb⟩
      refine ⟨_, rfl, ?_⟩
      have n0_ := Aside0.mk (blk_below (g := gb126) (o := .cells #[.int .i64 a0_0, .int .i64 a0_1, .string a0_2, .string a0_3] 24 (0, 0)) (by (with_reducible repeat (first | refine blk_drewN ?_ _ | refine blk_drew ?_ | refine blk_alloc ?_ _)); exact BK126.out) hb)
      have n1_ := Aside0.mk (blk_below (g := gb130) (o := .cells #[.int .i64 t127, .int .i64 t128, .bool t129] 48 (0, 0)) (by (with_reducible repeat (first | refine blk_drewN ?_ _ | refine blk_drew ?_ | refine blk_alloc ?_ _)); exact BK130.out) hb)
      have n2_ := Aside0.mk (blk_below (g := gb136) (o := .cells #[.int .i64 t131, .int .i64 t132, .int .i64 t133, .bool true, .bool false] 54 (0, 0)) (by (with_reducible repeat (first | refine blk_drewN ?_ _ | refine blk_drew ?_ | refine blk_alloc ?_ _)); exact BK136.out) hb)
      have n3_ := Aside0.mk (below_step (by repeat (first | (with_reducible first | exact HB.out | apply below_alloc | apply pw_below_drewN | apply below_drew1 | refine below_set ?_ GE126.out | refine below_set ?_ GE130.out | refine below_set ?_ GE136.out) | exact HB.out)) hb)
      clear BK126
      clear BK130
      clear BK136
      clear HB
      have BK126 := n0_
      have BK130 := n1_
      have BK136 := n2_
      have HB := n3_
      clear n0_ n1_ n2_ n3_
      (try clear hb)
      (try clear hb2)
      (try clear hk)
      (try clear hi)
      refine hK.out _ _ ⟨(blk_cell BK126.out 0).trans rfl, (blk_cell BK126.out 1).trans rfl, (blk_cell BK126.out 2).trans rfl, (blk_cell BK126.out 3).trans rfl, (blk_cell BK136.out 0).trans rfl, (blk_cell BK136.out 1).trans rfl, (blk_cell BK136.out 2).trans rfl, (blk_cell BK136.out 3).trans rfl, (blk_cell BK136.out 4).trans rfl⟩ (fun hHeld => ?_)
      clear hK K
      refine norm_ (a' := ?_) ?_ ?_
      rotate_left
      ·show Act.put _ (some 65) _ = _
       simp only [Act.put, la_, lb_, lc_, i64_w, i32_w]
       rfl
      refine one_ (i := 14) (N := some 60) d13x22 rfl rfl (one_of HT_.out (by kernel_rfl)) (by decide) (fun K hK => ?_)
      refine Kd.R_lit_step (Kd.int .u8) _ 5 ?hg (N := 60) ?hd (xs := ([(a0_0) % 256, (t137) % 256, (t131) % 256, (t132) % 256] : List Int)) (inner := [.int .u8 ((a0_0) % 256), .int .u8 ((t137) % 256), .int .u8 ((t131) % 256), .int .u8 ((t132) % 256)]) (ok := fun _ => True) (okp := fun _ => True) ?hr ?hp (fun _ hk => hk) trivial (Below.refl _ _) (Nat.le_refl _) (by simp) ?_; (case hd => rfl); (case hg => rfl); (case hr => first | (go_simp; done) | (go_simp; rfl)); (case hp => exact (Reps.one (show Kd.M (Kd.int .u8) _ _ _ ((a0_0) % 256) [.int .u8 ((a0_0) % 256)] from rfl) (Reps.one (show Kd.M (Kd.int .u8) _ _ _ ((t137) % 256) [.int .u8 ((t137) % 256)] from rfl) (Reps.one (show Kd.M (Kd.int .u8) _ _ _ ((t131) % 256) [.int .u8 ((t131) % 256)] from rfl) (Reps.one (show Kd.M (Kd.int .u8) _ _ _ ((t132) % 256) [.int .u8 ((t132) % 256)] from rfl) (Reps.none _ _))))))
      intro v139 w72 ho73 hb hg_ hnew_
      clear hg_ hnew_
      (first | rw [← Ny138.out] at ho73 | (simp only [Int.reduceToNat] at ho73; rw [← Ny138.out] at ho73))
      have n0_ := Aside0.mk (Kd.R_lower ho73 (below_size (by repeat (first | (with_reducible first | exact HB.out | apply below_alloc | apply pw_below_drewN | apply below_drew1 | refine below_set ?_ GE126.out | refine below_set ?_ GE130.out | refine below_set ?_ GE136.out) | exact HB.out))))
      have n1_ := Aside0.mk (blk_below (g := gb126) (o := .cells #[.int .i64 a0_0, .int .i64 a0_1, .string a0_2, .string a0_3] 24 (0, 0)) (by (with_reducible repeat (first | refine blk_drewN ?_ _ | refine blk_drew ?_ | refine blk_alloc ?_ _)); exact BK126.out) hb)
      have n2_ := Aside0.mk (blk_below (g := gb130) (o := .cells #[.int .i64 t127, .int .i64 t128, .bool t129] 48 (0, 0)) (by (with_reducible repeat (first | refine blk_drewN ?_ _ | refine blk_drew ?_ | refine blk_alloc ?_ _)); exact BK130.out) hb)
      have n3_ := Aside0.mk (blk_below (g := gb136) (o := .cells #[.int .i64 t131, .int .i64 t132, .int .i64 t133, .bool true, .bool false] 54 (0, 0)) (by (with_reducible repeat (first | refine blk_drewN ?_ _ | refine blk_drew ?_ | refine blk_alloc ?_ _)); exact BK136.out) hb)
      have n4_ := Aside0.mk (below_step (by repeat (first | (with_reducible first | exact HB.out | apply below_alloc | apply pw_below_drewN | apply below_drew1 | refine below_set ?_ GE126.out | refine below_set ?_ GE130.out | refine below_set ?_ GE136.out) | exact HB.out)) hb)
      clear BK126
      clear BK130
      clear BK136
      clear HB
      have HO140 := n0_
      have BK126 := n1_
      have BK130 := n2_
      have BK136 := n3_
      have HB := n4_
      clear n0_ n1_ n2_ n3_ n4_
      clear hb ho73
      refine hK.out _ _ ⟨(blk_cell BK126.out 0).trans rfl, (blk_cell BK126.out 1).trans rfl, (blk_cell BK126.out 2).trans rfl, (blk_cell BK126.out 3).trans rfl, (blk_cell BK136.out 0).trans rfl, (blk_cell BK136.out 1).trans rfl, (blk_cell BK136.out 2).trans rfl, (blk_cell BK136.out 3).trans rfl, (blk_cell BK136.out 4).trans rfl⟩ (fun hHeld => ?_)
      clear hK K
      refine norm_ (a' := ?_) ?_ ?_
      rotate_left
      ·show Act.put _ (some 60) _ = _
       simp only [Act.put, la_, lb_, lc_, i64_w, i32_w]
       rfl
      refine one_ (i := 15) (N := some 61) d13x24 rfl rfl (one_of HT_.out (by kernel_rfl)) (by decide) (fun K hK => ?_)
      have hcv74 := own_string (P := Tryd.prog) Tryd.underlying45 Tryd.underlying5 Tryd.underlying9 (Kd.own_of_R HO140.out)
      refine value_ (w1 := ?_) (v := ?_) (by rfl) rfl ?_ ?_
      rotate_left 2
      ·go_simp
       constructor
       ·rfl
       ·rfl
      clear hcv74
      refine hK.out _ _ ⟨(blk_cell BK126.out 0).trans rfl, (blk_cell BK126.out 1).trans rfl, (blk_cell BK126.out 2).trans rfl, (blk_cell BK126.out 3).trans rfl, (blk_cell BK136.out 0).trans rfl, (blk_cell BK136.out 1).trans rfl, (blk_cell BK136.out 2).trans rfl, (blk_cell BK136.out 3).trans rfl, (blk_cell BK136.out 4).trans rfl⟩ (fun hHeld => ?_)
      clear hK K
      refine norm_ (a' := ?_) ?_ ?_
      rotate_left
      ·show Act.put _ (some 61) _ = _
       simp only [Act.put, la_, lb_, lc_, i64_w, i32_w]
       rfl
      exact norm_ (by simp only [putAll, Act.put, la_, lb_, lc_]) (hCont (v139) _ ⟨hHeld, (by (with_reducible repeat (first | apply Kd.R_alloc | apply Kd.R_drewN | apply Kd.R_drew)); exact HO140.out), (by (with_reducible repeat (first | refine blk_drewN ?_ _ | refine blk_drew ?_ | refine blk_alloc ?_ _)); exact BK126.out), (by (with_reducible repeat (first | refine blk_drewN ?_ _ | refine blk_drew ?_ | refine blk_alloc ?_ _)); exact BK130.out), (by (with_reducible repeat (first | refine blk_drewN ?_ _ | refine blk_drew ?_ | refine blk_alloc ?_ _)); exact BK136.out), (by repeat (first | (with_reducible first | exact HB.out | apply below_alloc | apply pw_below_drewN | apply below_drew1 | refine below_set ?_ GE126.out | refine below_set ?_ GE130.out | refine below_set ?_ GE136.out) | exact HB.out))⟩)
    rintro v139 w75 ⟨hS_, h0_, h1_, h2_, h3_, h4_⟩
    have n0_ : Aside0 (Kd.R (Kd.int .u8) 5 w75 w.heap.size (fun _ => True) v139 y138) := ⟨h0_⟩
    have n1_ : Aside0 (w75.heap[gb126]? = some (.cells #[.int .i64 a0_0, .int .i64 a0_1, .string a0_2, .string a0_3] 24 (0, 0))) := ⟨h1_⟩
    have n2_ : Aside0 (w75.heap[gb130]? = some (.cells #[.int .i64 t127, .int .i64 t128, .bool t129] 48 (0, 0))) := ⟨h2_⟩
    have n3_ : Aside0 (w75.heap[gb136]? = some (.cells #[.int .i64 t131, .int .i64 t132, .int .i64 t133, .bool true, .bool false] 54 (0, 0))) := ⟨h3_⟩
    have n4_ : Aside0 (Below w.heap.size w w75) := ⟨h4_⟩
    clear BK126
    clear BK130
    clear BK136
    clear HB
    clear h0_ h1_ h2_ h3_ h4_
    have HO140 := n0_
    have BK126 := n1_
    have BK130 := n2_
    have BK136 := n3_
    have HB := n4_
    clear n0_ n1_ n2_ n3_ n4_
    have hHeld : w75.cell? ⟨gb126, 0, none⟩ = some (.int .i64 a0_0) ∧ w75.cell? ⟨gb126, 1, none⟩ = some (.int .i64 a0_1) ∧ w75.cell? ⟨gb126, 2, none⟩ = some (.string a0_2) ∧ w75.cell? ⟨gb126, 3, none⟩ = some (.string a0_3) ∧ w75.cell? ⟨gb136, 0, none⟩ = some (.int .i64 t131) ∧ w75.cell? ⟨gb136, 1, none⟩ = some (.int .i64 t132) ∧ w75.cell? ⟨gb136, 2, none⟩ = some (.int .i64 t133) ∧ w75.cell? ⟨gb136, 3, none⟩ = some (.bool true) ∧ w75.cell? ⟨gb136, 4, none⟩ = some (.bool false) := hS_
    refine norm_ (a' := ?_) ?_ ?_
    rotate_left
    ·simp only [putAll, Act.put, la_, lb_, lc_]
     rfl
    refine pon_ 20 (some 66) d13x25 HT_.out ?_
    refine pon_ 23 (some 69) d13x26 HT_.out ?_
    refine pon_ 24 (some 10) d13x27 HT_.out ?_
    refine done_ (done_of HT_.out (by kernel_rfl)) ?_
    have hcz76_0 : w75.cell? ⟨gb136, 0, none⟩ = some (.int .i64 t131) := (blk_cell BK136.out 0).trans rfl
    have hcz76_1 : w75.cell? ⟨gb136, 1, none⟩ = some (.int .i64 t132) := (blk_cell BK136.out 1).trans rfl
    have hcz76_2 : w75.cell? ⟨gb136, 2, none⟩ = some (.int .i64 t133) := (blk_cell BK136.out 2).trans rfl
    have hcz76_3 : w75.cell? ⟨gb136, 3, none⟩ = some (.bool true) := (blk_cell BK136.out 3).trans rfl
    have hcz76_4 : w75.cell? ⟨gb136, 4, none⟩ = some (.bool false) := (blk_cell BK136.out 4).trans rfl
    have hfz76_0 := blk_frozen BK136.out 0
    have hfz76_1 := blk_frozen BK136.out 1
    have hfz76_2 := blk_frozen BK136.out 2
    have hfz76_3 := blk_frozen BK136.out 3
    have hfz76_4 := blk_frozen BK136.out 4
    try go_wp2_with (first | ((with_reducible refine gate_callee (f := 28) rfl ?_); refine goesL_ (some 74) rfl rfl Tryd.func28 (by kernel_rfl) rfl #[.string (((strOfNums y138) ++ t141) ++ a0_2)] rfl (by (try simp only [List.map_toArray, List.map_cons, List.map_nil]); first | done | rfl | (simp only [List.length_drop, List.length_take]; rfl)) ?_; (with_reducible refine (crc_Digest.calls kj4 (((strOfNums y138) ++ t141) ++ a0_2) t142 _ ?side1 A33.out).mono ?_); (case side1 => first | ((refine Glob.keep HG.out ?_); (repeat (first | (with_reducible first | exact HB.out | apply below_alloc | apply pw_below_drewN | apply below_drew1 | refine below_set ?_ GE126.out | refine below_set ?_ GE130.out | refine below_set ?_ GE136.out) | exact HB.out)); done) | exact HG.out); rintro e w77 ⟨rfl, hb⟩; refine ⟨_, rfl, ?_⟩; have n0_ := Aside0.mk (Kd.R_below (by (with_reducible repeat (first | apply Kd.R_alloc | apply Kd.R_drewN | apply Kd.R_drew)); exact HO140.out) hb); have n1_ := Aside0.mk (blk_below (g := gb126) (o := .cells #[.int .i64 a0_0, .int .i64 a0_1, .string a0_2, .string a0_3] 24 (0, 0)) (by (with_reducible repeat (first | refine blk_drewN ?_ _ | refine blk_drew ?_ | refine blk_alloc ?_ _)); exact BK126.out) hb); have n2_ := Aside0.mk (blk_below (g := gb130) (o := .cells #[.int .i64 t127, .int .i64 t128, .bool t129] 48 (0, 0)) (by (with_reducible repeat (first | refine blk_drewN ?_ _ | refine blk_drew ?_ | refine blk_alloc ?_ _)); exact BK130.out) hb); have n3_ := Aside0.mk (blk_below (g := gb136) (o := .cells #[.int .i64 t131, .int .i64 t132, .int .i64 t133, .bool true, .bool false] 54 (0, 0)) (by (with_reducible repeat (first | refine blk_drewN ?_ _ | refine blk_drew ?_ | refine blk_alloc ?_ _)); exact BK136.out) hb); have n4_ := Aside0.mk (below_step (by repeat (first | (with_reducible first | exact HB.out | apply below_alloc | apply pw_below_drewN | apply below_drew1 | refine below_set ?_ GE126.out | refine below_set ?_ GE130.out | refine below_set ?_ GE136.out) | exact HB.out)) hb); clear HO140; clear BK126; clear BK130; clear BK136; clear HB; have HO140 := n0_; have BK126 := n1_; have BK130 := n2_; have BK136 := n3_; have HB := n4_; clear n0_ n1_ n2_ n3_ n4_; (try clear hb); (try clear hb2); (try clear hk); (try clear hi); have hcz78_0 : w77.cell? ⟨gb126, 0, none⟩ = some (.int .i64 a0_0) := (blk_cell BK126.out 0).trans rfl; have hcz78_1 : w77.cell? ⟨gb126, 1, none⟩ = some (.int .i64 a0_1) := (blk_cell BK126.out 1).trans rfl; have hcz78_2 : w77.cell? ⟨gb126, 2, none⟩ = some (.string a0_2) := (blk_cell BK126.out 2).trans rfl; have hcz78_3 : w77.cell? ⟨gb126, 3, none⟩ = some (.string a0_3) := (blk_cell BK126.out 3).trans rfl; have hfz78_0 := blk_frozen BK126.out 0; have hfz78_1 := blk_frozen BK126.out 1; have hfz78_2 := blk_frozen BK126.out 2; have hfz78_3 := blk_frozen BK126.out 3; have hcz79_0 : w77.cell? ⟨gb136, 0, none⟩ = some (.int .i64 t131) := (blk_cell BK136.out 0).trans rfl; have hcz79_1 : w77.cell? ⟨gb136, 1, none⟩ = some (.int .i64 t132) := (blk_cell BK136.out 1).trans rfl; have hcz79_2 : w77.cell? ⟨gb136, 2, none⟩ = some (.int .i64 t133) := (blk_cell BK136.out 2).trans rfl; have hcz79_3 : w77.cell? ⟨gb136, 3, none⟩ = some (.bool true) := (blk_cell BK136.out 3).trans rfl; have hcz79_4 : w77.cell? ⟨gb136, 4, none⟩ = some (.bool false) := (blk_cell BK136.out 4).trans rfl; have hfz79_0 := blk_frozen BK136.out 0; have hfz79_1 := blk_frozen BK136.out 1; have hfz79_2 := blk_frozen BK136.out 2; have hfz79_3 := blk_frozen BK136.out 3; have hfz79_4 := blk_frozen BK136.out 4))
    go_ret2
    exact ⟨by first | rfl | (simp [errW_none, errW_some] <;> rfl) | (simp [*, errW_none, errW_some] <;> rfl) | (simp [bt, *]; done) | (unfold bt; simp [*]; done), by repeat (first | (with_reducible first | exact HB.out | apply below_alloc | apply pw_below_drewN | apply below_drew1 | refine below_set ?_ GE126.out | refine below_set ?_ GE130.out | refine below_set ?_ GE136.out) | exact HB.out)⟩
   subst c36
   have H1 := H
   rw [if_pos rfl] at H1
   clear H
   have H := H1
   clear H1
   replace H := Option.bind_eq_some_iff.mp H
   obtain ⟨t143, A370, H⟩ := H
   try dsimp only at H
   have A37 := Aside0.mk A370
   clear A370
   refine neg_first (p := ((((((strOfNums y138) ++ t141) ++ a0_2) ++ t142) ++ a0_3).size + t143.size ≤ 9223372036854775807)) (fun c38 => ?_) (fun c38 => ?_)
   ·rw [if_neg c38] at H
    exact absurd H (by simp)
   rw [if_pos c38] at H
   have c38b0 := eq_true c38
   have c38b1 : decide ((((((strOfNums y138) ++ t141) ++ a0_2) ++ t142) ++ a0_3).size + t143.size ≤ 9223372036854775807) = true := decide_eq_true c38
   try have c38b2 : (9223372036854775807 < (((((strOfNums y138) ++ t141) ++ a0_2) ++ t142) ++ a0_3).size + t143.size) = False := eq_false (Nat.not_lt.2 c38)
   (try have c38b4 : (9223372036854775807 < (strOfNums y138).size + t141.size + a0_2.size + t142.size + a0_3.size + t143.size) = False := eq_false (by have h_ := c38; simp only [ByteArray.size_append, ByteArray.size_extract] at h_; omega))
   simp only [Option.some.injEq, Prod.mk.injEq] at H
   obtain ⟨rfl, rfl⟩ := H
   have hnb39 := NB130_126.out
   have hnc39 := NB126_130.out
   have hcz40_0 : wc.cell? ⟨gb130, 0, none⟩ = some (.int .i64 t127) := (blk_cell BK130.out 0).trans rfl
   have hcz40_1 : wc.cell? ⟨gb130, 1, none⟩ = some (.int .i64 t128) := (blk_cell BK130.out 1).trans rfl
   have hcz40_2 : wc.cell? ⟨gb130, 2, none⟩ = some (.bool t129) := (blk_cell BK130.out 2).trans rfl
   have hfz40_0 := blk_frozen BK130.out 0
   have hfz40_1 := blk_frozen BK130.out 1
   have hfz40_2 := blk_frozen BK130.out 2
   have hcz41_0 : wc.cell? ⟨gb126, 0, none⟩ = some (.int .i64 a0_0) := (blk_cell BK126.out 0).trans rfl
   have hcz41_1 : wc.cell? ⟨gb126, 1, none⟩ = some (.int .i64 a0_1) := (blk_cell BK126.out 1).trans rfl
   have hcz41_2 : wc.cell? ⟨gb126, 2, none⟩ = some (.string a0_2) := (blk_cell BK126.out 2).trans rfl
   have hcz41_3 : wc.cell? ⟨gb126, 3, none⟩ = some (.string a0_3) := (blk_cell BK126.out 3).trans rfl
   have hfz41_0 := blk_frozen BK126.out 0
   have hfz41_1 := blk_frozen BK126.out 1
   have hfz41_2 := blk_frozen BK126.out 2
   have hfz41_3 := blk_frozen BK126.out 3
   try go_wp2_with (first | ((with_reducible refine gate_callee (f := 19) rfl ?_); refine goesL_ (some 45) rfl rfl Tryd.func19 (by kernel_rfl) rfl #[.agg #[.int .i64 t127, .int .i64 t128, .bool t129], .int .i64 (a0_3.size : Int), .bool a1, .bool a2] rfl (by (try simp only [List.map_toArray, List.map_cons, List.map_nil]); first | done | rfl | (simp only [List.length_drop, List.length_take]; rfl)) ?_; (with_reducible refine (tpdu_form_measure.calls t127 t128 t129 (a0_3.size : Int) a1 a2 t131 t132 t133 true true _ A27.out).mono ?_); rintro e w42 ⟨rfl, hb⟩; refine ⟨_, rfl, ?_⟩; have n0_ := Aside0.mk (blk_below (g := gb126) (o := .cells #[.int .i64 a0_0, .int .i64 a0_1, .string a0_2, .string a0_3] 24 (0, 0)) (by (with_reducible repeat (first | refine blk_drewN ?_ _ | refine blk_drew ?_ | refine blk_alloc ?_ _)); exact BK126.out) hb); have n1_ := Aside0.mk (blk_below (g := gb130) (o := .cells #[.int .i64 t127, .int .i64 t128, .bool t129] 48 (0, 0)) (by (with_reducible repeat (first | refine blk_drewN ?_ _ | refine blk_drew ?_ | refine blk_alloc ?_ _)); exact BK130.out) hb); have n2_ := Aside0.mk (below_step (by repeat (first | (with_reducible first | exact HB.out | apply below_alloc | apply pw_below_drewN | apply below_drew1 | refine below_set ?_ GE126.out | refine below_set ?_ GE130.out) | exact HB.out)) hb); clear BK126; clear BK130; clear HB; have BK126 := n0_; have BK130 := n1_; have HB := n2_; clear n0_ n1_ n2_; (try clear hb); (try clear hb2); (try clear hk); (try clear hi)) | ((with_reducible refine gate_dst (N := 9) rfl ?_); (try (refine gate_guard (by rfl) ?_; dsimp only)); refine box_event ?hg (N := 9) ?hd (cs := #[.int .i64 0, .int .i64 0, .int .i64 0, .bool false, .bool false]) (t := 54) ?hr ?_; (case hd => rfl); (case hg => rfl); (case hr => first | (go_simp; done) | (go_simp; rfl)); intro gb136 hg w43 hbox hb; have n0_ := Aside0.mk (blk_below (g := gb126) (o := .cells #[.int .i64 a0_0, .int .i64 a0_1, .string a0_2, .string a0_3] 24 (0, 0)) (by (with_reducible repeat (first | refine blk_drewN ?_ _ | refine blk_drew ?_ | refine blk_alloc ?_ _)); exact BK126.out) hb); have n1_ := Aside0.mk (blk_below (g := gb130) (o := .cells #[.int .i64 t127, .int .i64 t128, .bool t129] 48 (0, 0)) (by (with_reducible repeat (first | refine blk_drewN ?_ _ | refine blk_drew ?_ | refine blk_alloc ?_ _)); exact BK130.out) hb); have n2_ := Aside0.mk (below_step (by repeat (first | (with_reducible first | exact HB.out | apply below_alloc | apply pw_below_drewN | apply below_drew1 | refine below_set ?_ GE126.out | refine below_set ?_ GE130.out) | exact HB.out)) hb); have n3_ := Aside0.mk (hbox); have n4_ := Aside0.mk ((by rw [hg]; exact (below_size (by repeat (first | (with_reducible first | exact HB.out | apply below_alloc | apply pw_below_drewN | apply below_drew1 | refine below_set ?_ GE126.out | refine below_set ?_ GE130.out) | exact HB.out))) : w.heap.size ≤ gb136)); have n5_ := Aside0.mk ((by rw [hg]; exact (below_size (by repeat (first | (with_reducible first | exact HB.out | apply below_alloc | apply pw_below_drewN | apply below_drew1 | refine below_set ?_ GE126.out | refine below_set ?_ GE130.out) | exact HB.out))) : w.heap.size ≤ gb136)); have n6_ := Aside0.mk ((by rw [hg]; exact Nat.ne_of_lt (blk_lt (g := gb126) (o := .cells #[.int .i64 a0_0, .int .i64 a0_1, .string a0_2, .string a0_3] 24 (0, 0)) (by (with_reducible repeat (first | refine blk_drewN ?_ _ | refine blk_drew ?_ | refine blk_alloc ?_ _)); exact BK126.out)) : gb126 ≠ gb136)); have n7_ := Aside0.mk ((by rw [hg]; exact Nat.ne_of_gt (blk_lt (g := gb126) (o := .cells #[.int .i64 a0_0, .int .i64 a0_1, .string a0_2, .string a0_3] 24 (0, 0)) (by (with_reducible repeat (first | refine blk_drewN ?_ _ | refine blk_drew ?_ | refine blk_alloc ?_ _)); exact BK126.out)) : gb136 ≠ gb126)); have n8_ := Aside0.mk ((by rw [hg]; exact Nat.ne_of_lt (blk_lt (g := gb130) (o := .cells #[.int .i64 t127, .int .i64 t128, .bool t129] 48 (0, 0)) (by (with_reducible repeat (first | refine blk_drewN ?_ _ | refine blk_drew ?_ | refine blk_alloc ?_ _)); exact BK130.out)) : gb130 ≠ gb136)); have n9_ := Aside0.mk ((by rw [hg]; exact Nat.ne_of_gt (blk_lt (g := gb130) (o := .cells #[.int .i64 t127, .int .i64 t128, .bool t129] 48 (0, 0)) (by (with_reducible repeat (first | refine blk_drewN ?_ _ | refine blk_drew ?_ | refine blk_alloc ?_ _)); exact BK130.out)) : gb136 ≠ gb130)); clear BK126; clear BK130; clear HB; have BK126 := n0_; have BK130 := n1_; have HB := n2_; have BK136 := n3_; have GW136 := n4_; have GE136 := n5_; have NB126_136 := n6_; have NB136_126 := n7_; have NB130_136 := n8_; have NB136_130 := n9_; clear n0_ n1_ n2_ n3_ n4_ n5_ n6_ n7_ n8_ n9_; clear hb hbox hg; have hnb44 := NB136_126.out; have hnc44 := NB126_136.out; have hnb45 := NB136_130.out; have hnc45 := NB130_136.out; have hcz46_0 : w43.cell? ⟨gb136, 0, none⟩ = some (.int .i64 0) := (blk_cell BK136.out 0).trans rfl; have hcz46_1 : w43.cell? ⟨gb136, 1, none⟩ = some (.int .i64 0) := (blk_cell BK136.out 1).trans rfl; have hcz46_2 : w43.cell? ⟨gb136, 2, none⟩ = some (.int .i64 0) := (blk_cell BK136.out 2).trans rfl; have hcz46_3 : w43.cell? ⟨gb136, 3, none⟩ = some (.bool false) := (blk_cell BK136.out 3).trans rfl; have hcz46_4 : w43.cell? ⟨gb136, 4, none⟩ = some (.bool false) := (blk_cell BK136.out 4).trans rfl; have hfz46_0 := blk_frozen BK136.out 0; have hfz46_1 := blk_frozen BK136.out 1; have hfz46_2 := blk_frozen BK136.out 2; have hfz46_3 := blk_frozen BK136.out 3; have hfz46_4 := blk_frozen BK136.out 4))
   have n0_ : Aside0 ((((((w43.setCell ⟨gb136, 0, none⟩ (.int .i64 t131)).setCell ⟨gb136, 1, none⟩ (.int .i64 t132)).setCell ⟨gb136, 2, none⟩ (.int .i64 t133)).setCell ⟨gb136, 3, none⟩ (.bool true)).setCell ⟨gb136, 4, none⟩ (.bool true)).heap[gb126]? = some (.cells #[.int .i64 a0_0, .int .i64 a0_1, .string a0_2, .string a0_3] 24 (0, 0))) := ⟨by (with_reducible repeat (first | refine blk_drewN ?_ _ | refine blk_drew ?_ | refine blk_alloc ?_ _ | refine blk_far ?_ NB126_136.out _)); exact BK126.out⟩
   have n1_ : Aside0 ((((((w43.setCell ⟨gb136, 0, none⟩ (.int .i64 t131)).setCell ⟨gb136, 1, none⟩ (.int .i64 t132)).setCell ⟨gb136, 2, none⟩ (.int .i64 t133)).setCell ⟨gb136, 3, none⟩ (.bool true)).setCell ⟨gb136, 4, none⟩ (.bool true)).heap[gb130]? = some (.cells #[.int .i64 t127, .int .i64 t128, .bool t129] 48 (0, 0))) := ⟨by (with_reducible repeat (first | refine blk_drewN ?_ _ | refine blk_drew ?_ | refine blk_alloc ?_ _ | refine blk_far ?_ NB130_136.out _)); exact BK130.out⟩
   have n2_ : Aside0 ((((((w43.setCell ⟨gb136, 0, none⟩ (.int .i64 t131)).setCell ⟨gb136, 1, none⟩ (.int .i64 t132)).setCell ⟨gb136, 2, none⟩ (.int .i64 t133)).setCell ⟨gb136, 3, none⟩ (.bool true)).setCell ⟨gb136, 4, none⟩ (.bool true)).heap[gb136]? = some (.cells #[.int .i64 t131, .int .i64 t132, .int .i64 t133, .bool true, .bool true] 54 (0, 0))) := ⟨by (with_reducible repeat (first | refine blk_drewN ?_ _ | refine blk_drew ?_ | refine blk_alloc ?_ _)); refine blk_put (cs := #[.int .i64 t131, .int .i64 t132, .int .i64 t133, .bool true, .bool false]) ?_ 4 _ rfl; (with_reducible repeat (first | refine blk_drewN ?_ _ | refine blk_drew ?_ | refine blk_alloc ?_ _)); refine blk_put (cs := #[.int .i64 t131, .int .i64 t132, .int .i64 t133, .bool false, .bool false]) ?_ 3 _ rfl; (with_reducible repeat (first | refine blk_drewN ?_ _ | refine blk_drew ?_ | refine blk_alloc ?_ _)); refine blk_put (cs := #[.int .i64 t131, .int .i64 t132, .int .i64 0, .bool false, .bool false]) ?_ 2 _ rfl; (with_reducible repeat (first | refine blk_drewN ?_ _ | refine blk_drew ?_ | refine blk_alloc ?_ _)); refine blk_put (cs := #[.int .i64 t131, .int .i64 0, .int .i64 0, .bool false, .bool false]) ?_ 1 _ rfl; (with_reducible repeat (first | refine blk_drewN ?_ _ | refine blk_drew ?_ | refine blk_alloc ?_ _)); refine blk_put (cs := #[.int .i64 0, .int .i64 0, .int .i64 0, .bool false, .bool false]) ?_ 0 _ rfl; (with_reducible repeat (first | refine blk_drewN ?_ _ | refine blk_drew ?_ | refine blk_alloc ?_ _)); exact BK136.out⟩
   have n3_ : Aside0 (Below w.heap.size w (((((w43.setCell ⟨gb136, 0, none⟩ (.int .i64 t131)).setCell ⟨gb136, 1, none⟩ (.int .i64 t132)).setCell ⟨gb136, 2, none⟩ (.int .i64 t133)).setCell ⟨gb136, 3, none⟩ (.bool true)).setCell ⟨gb136, 4, none⟩ (.bool true))) := ⟨by repeat (first | (with_reducible first | exact HB.out | apply below_alloc | apply pw_below_drewN | apply below_drew1 | refine below_set ?_ GE126.out | refine below_set ?_ GE130.out | refine below_set ?_ GE136.out) | exact HB.out)⟩
   (try clear BK126)
   (try clear BK130)
   (try clear BK136)
   (try clear HB)
   generalize (((((w43.setCell ⟨gb136, 0, none⟩ (.int .i64 t131)).setCell ⟨gb136, 1, none⟩ (.int .i64 t132)).setCell ⟨gb136, 2, none⟩ (.int .i64 t133)).setCell ⟨gb136, 3, none⟩ (.bool true)).setCell ⟨gb136, 4, none⟩ (.bool true)) = w47 at n0_ n1_ n2_ n3_ ⊢
   have BK126 := n0_
   have BK130 := n1_
   have BK136 := n2_
   have HB := n3_
   clear n0_ n1_ n2_ n3_
   have n0_ := Aside0.mk (blk_drew BK126.out)
   have n1_ := Aside0.mk (blk_drew BK130.out)
   have n2_ := Aside0.mk (blk_drew BK136.out)
   have n3_ := Aside0.mk (below_drew1 HB.out)
   clear BK126
   clear BK130
   clear BK136
   clear HB
   have BK126 := n0_
   have BK130 := n1_
   have BK136 := n2_
   have HB := n3_
   clear n0_ n1_ n2_ n3_
   refine start_ (n := 25) (S := fun w' => w'.cell? ⟨gb126, 0, none⟩ = some (.int .i64 a0_0) ∧ w'.cell? ⟨gb126, 1, none⟩ = some (.int .i64 a0_1) ∧ w'.cell? ⟨gb126, 2, none⟩ = some (.string a0_2) ∧ w'.cell? ⟨gb126, 3, none⟩ = some (.string a0_3) ∧ w'.cell? ⟨gb136, 0, none⟩ = some (.int .i64 t131) ∧ w'.cell? ⟨gb136, 1, none⟩ = some (.int .i64 t132) ∧ w'.cell? ⟨gb136, 2, none⟩ = some (.int .i64 t133) ∧ w'.cell? ⟨gb136, 3, none⟩ = some (.bool true) ∧ w'.cell? ⟨gb136, 4, none⟩ = some (.bool true)) (ds := []) d13x0 (by kernel_rfl) rfl rfl ⟨(blk_cell BK126.out 0).trans rfl, (blk_cell BK126.out 1).trans rfl, (blk_cell BK126.out 2).trans rfl, (blk_cell BK126.out 3).trans rfl, (blk_cell BK136.out 0).trans rfl, (blk_cell BK136.out 1).trans rfl, (blk_cell BK136.out 2).trans rfl, (blk_cell BK136.out 3).trans rfl, (blk_cell BK136.out 4).trans rfl⟩ (fun hHeld => ?_); refine with_tabW tpdu_Put.tab5 tpdu_Put.bits5 (fun HT_ HW_ => ?_)
   generalize w47.drew = w48 at BK126 BK130 BK136 HB hHeld ⊢
   refine pon_ 0 (some 46) d13x1 HT_.out ?_
   refine pon_ 4 (some 50) d13x2 HT_.out ?_
   refine pon_ 8 (some 54) d13x3 HT_.out ?_
   refine pon_ 11 (some 57) d13x4 HT_.out ?_
   refine pon_ 16 (some 62) d13x5 HT_.out ?_
   refine pon_ 21 (some 67) d13x6 HT_.out ?_
   refine ptk_ 1 (some 47) d13x7 HT_.out HW_.out hHeld ?_
   refine pon_ 2 (some 48) d13x8 HT_.out ?_
   refine ptk_ 3 (some 49) d13x9 HT_.out HW_.out hHeld ?_
   refine ptk_ 5 (some 51) d13x10 HT_.out HW_.out hHeld ?_
   refine ptk_ 9 (some 55) d13x11 HT_.out HW_.out hHeld ?_
   refine pon_ 10 (some 56) d13x12 HT_.out ?_
   refine ptk_ 12 (some 58) d13x13 HT_.out HW_.out hHeld ?_
   refine pon_ 13 (some 59) d13x14 HT_.out ?_
   refine ptk_ 17 (some 63) d13x15 HT_.out HW_.out hHeld ?_
   refine pon_ 18 (some 64) d13x16 HT_.out ?_
   refine ptk_ 22 (some 68) d13x17 HT_.out HW_.out hHeld ?_
   refine one_ (i := 6) (N := some 52) d13x18 rfl rfl (one_of HT_.out (by kernel_rfl)) (by decide) (fun K hK => ?_)
   refine goes_ Tryd.func20 (by kernel_rfl) rfl #[.agg #[.int .i64 t131, .int .i64 t132, .int .i64 t133, .bool true, .bool true], .int .i64 a0_1] (by rfl) rfl rfl (by (try simp only [List.map_toArray, List.map_cons, List.map_nil]); first | done | rfl | (simp only [List.length_drop, List.length_take]; rfl)) ?_
   with_reducible refine (tpdu_measured_flags.calls t131 t132 t133 true true a0_1 t137 _ A28.out).mono ?_
   rintro e w49 ⟨rfl, hb⟩
   refine ⟨_, rfl, ?_⟩
   have n0_ := Aside0.mk (blk_below (g := gb126) (o := .cells #[.int .i64 a0_0, .int .i64 a0_1, .string a0_2, .string a0_3] 24 (0, 0)) (by (with_reducible repeat (first | refine blk_drewN ?_ _ | refine blk_drew ?_ | refine blk_alloc ?_ _)); exact BK126.out) hb)
   have n1_ := Aside0.mk (blk_below (g := gb130) (o := .cells #[.int .i64 t127, .int .i64 t128, .bool t129] 48 (0, 0)) (by (with_reducible repeat (first | refine blk_drewN ?_ _ | refine blk_drew ?_ | refine blk_alloc ?_ _)); exact BK130.out) hb)
   have n2_ := Aside0.mk (blk_below (g := gb136) (o := .cells #[.int .i64 t131, .int .i64 t132, .int .i64 t133, .bool true, .bool true] 54 (0, 0)) (by (with_reducible repeat (first | refine blk_drewN ?_ _ | refine blk_drew ?_ | refine blk_alloc ?_ _)); exact BK136.out) hb)
   have n3_ := Aside0.mk (below_step (by repeat (first | (with_reducible first | exact HB.out | apply below_alloc | apply pw_below_drewN | apply below_drew1 | refine below_set ?_ GE126.out | refine below_set ?_ GE130.out | refine below_set ?_ GE136.out) | exact HB.out)) hb)
   clear BK126
   clear BK130
   clear BK136
   clear HB
   have BK126 := n0_
   have BK130 := n1_
   have BK136 := n2_
   have HB := n3_
   clear n0_ n1_ n2_ n3_
   (try clear hb)
   (try clear hb2)
   (try clear hk)
   (try clear hi)
   refine hK.out _ _ ⟨(blk_cell BK126.out 0).trans rfl, (blk_cell BK126.out 1).trans rfl, (blk_cell BK126.out 2).trans rfl, (blk_cell BK126.out 3).trans rfl, (blk_cell BK136.out 0).trans rfl, (blk_cell BK136.out 1).trans rfl, (blk_cell BK136.out 2).trans rfl, (blk_cell BK136.out 3).trans rfl, (blk_cell BK136.out 4).trans rfl⟩ (fun hHeld => ?_)
   clear hK K
   refine norm_ (a' := ?_) ?_ ?_
   rotate_left
   ·show Act.put _ (some 52) _ = _
    simp only [Act.put, la_, lb_, lc_, i64_w, i32_w]
    rfl
   refine pon_ 7 (some 53) d13x19 HT_.out ?_
   refine join_ (σ := Value) 3 d13x24 (fun s_ => [(60, s_), (61, .string (strOfNums y138)), (65, .string t141)]) (fun s_ w' => (w'.cell? ⟨gb126, 0, none⟩ = some (.int .i64 a0_0) ∧ w'.cell? ⟨gb126, 1, none⟩ = some (.int .i64 a0_1) ∧ w'.cell? ⟨gb126, 2, none⟩ = some (.string a0_2) ∧ w'.cell? ⟨gb126, 3, none⟩ = some (.string a0_3) ∧ w'.cell? ⟨gb136, 0, none⟩ = some (.int .i64 t131) ∧ w'.cell? ⟨gb136, 1, none⟩ = some (.int .i64 t132) ∧ w'.cell? ⟨gb136, 2, none⟩ = some (.int .i64 t133) ∧ w'.cell? ⟨gb136, 3, none⟩ = some (.bool true) ∧ w'.cell? ⟨gb136, 4, none⟩ = some (.bool true)) ∧ (Kd.R (Kd.int .u8) 5 w' w.heap.size (fun _ => True) s_ y138) ∧ (w'.heap[gb126]? = some (.cells #[.int .i64 a0_0, .int .i64 a0_1, .string a0_2, .string a0_3] 24 (0, 0))) ∧ (w'.heap[gb130]? = some (.cells #[.int .i64 t127, .int .i64 t128, .bool t129] 48 (0, 0))) ∧ (w'.heap[gb136]? = some (.cells #[.int .i64 t131, .int .i64 t132, .int .i64 t133, .bool true, .bool true] 54 (0, 0))) ∧ (Below w.heap.size w w')) ?_ ?_
   rotate_left
   ·intro hCont
    refine two_ (i := 14) (j := 19) (Ni := some 60) (Nj := some 65) d13x21 d13x20 rfl rfl rfl rfl (two_of HT_.out (by kernel_rfl)) (by decide) (by decide) (fun K hK => ?_) (fun K hK => ?_)
    ·skip
     refine Kd.R_lit_step (Kd.int .u8) _ 5 ?hg (N := 60) ?hd (xs := ([(a0_0) % 256, (t137) % 256, (t131) % 256, (t132) % 256] : List Int)) (inner := [.int .u8 ((a0_0) % 256), .int .u8 ((t137) % 256), .int .u8 ((t131) % 256), .int .u8 ((t132) % 256)]) (ok := fun _ => True) (okp := fun _ => True) ?hr ?hp (fun _ hk => hk) trivial (Below.refl _ _) (Nat.le_refl _) (by simp) ?_; (case hd => rfl); (case hg => rfl); (case hr => first | (go_simp; done) | (go_simp; rfl)); (case hp => exact (Reps.one (show Kd.M (Kd.int .u8) _ _ _ ((a0_0) % 256) [.int .u8 ((a0_0) % 256)] from rfl) (Reps.one (show Kd.M (Kd.int .u8) _ _ _ ((t137) % 256) [.int .u8 ((t137) % 256)] from rfl) (Reps.one (show Kd.M (Kd.int .u8) _ _ _ ((t131) % 256) [.int .u8 ((t131) % 256)] from rfl) (Reps.one (show Kd.M (Kd.int .u8) _ _ _ ((t132) % 256) [.int .u8 ((t132) % 256)] from rfl) (Reps.none _ _))))))
     intro v139 w50 ho51 hb hg_ hnew_
     clear hg_ hnew_
     (first | rw [← Ny138.out] at ho51 | (simp only [Int.reduceToNat] at ho51; rw [← Ny138.out] at ho51))
     have n0_ := Aside0.mk (Kd.R_lower ho51 (below_size (by repeat (first | (with_reducible first | exact HB.out | apply below_alloc | apply pw_below_drewN | apply below_drew1 | refine below_set ?_ GE126.out | refine below_set ?_ GE130.out | refine below_set ?_ GE136.out) | exact HB.out))))
     have n1_ := Aside0.mk (blk_below (g := gb126) (o := .cells #[.int .i64 a0_0, .int .i64 a0_1, .string a0_2, .string a0_3] 24 (0, 0)) (by (with_reducible repeat (first | refine blk_drewN ?_ _ | refine blk_drew ?_ | refine blk_alloc ?_ _)); exact BK126.out) hb)
     have n2_ := Aside0.mk (blk_below (g := gb130) (o := .cells #[.int .i64 t127, .int .i64 t128, .bool t129] 48 (0, 0)) (by (with_reducible repeat (first | refine blk_drewN ?_ _ | refine blk_drew ?_ | refine blk_alloc ?_ _)); exact BK130.out) hb)
     have n3_ := Aside0.mk (blk_below (g := gb136) (o := .cells #[.int .i64 t131, .int .i64 t132, .int .i64 t133, .bool true, .bool true] 54 (0, 0)) (by (with_reducible repeat (first | refine blk_drewN ?_ _ | refine blk_drew ?_ | refine blk_alloc ?_ _)); exact BK136.out) hb)
     have n4_ := Aside0.mk (below_step (by repeat (first | (with_reducible first | exact HB.out | apply below_alloc | apply pw_below_drewN | apply below_drew1 | refine below_set ?_ GE126.out | refine below_set ?_ GE130.out | refine below_set ?_ GE136.out) | exact HB.out)) hb)
     clear BK126
     clear BK130
     clear BK136
     clear HB
     have HO140 := n0_
     have BK126 := n1_
     have BK130 := n2_
     have BK136 := n3_
     have HB := n4_
     clear n0_ n1_ n2_ n3_ n4_
     clear hb ho51
     refine hK.out _ _ ⟨(blk_cell BK126.out 0).trans rfl, (blk_cell BK126.out 1).trans rfl, (blk_cell BK126.out 2).trans rfl, (blk_cell BK126.out 3).trans rfl, (blk_cell BK136.out 0).trans rfl, (blk_cell BK136.out 1).trans rfl, (blk_cell BK136.out 2).trans rfl, (blk_cell BK136.out 3).trans rfl, (blk_cell BK136.out 4).trans rfl⟩ (fun hHeld => ?_)
     clear hK K
     refine norm_ (a' := ?_) ?_ ?_
     rotate_left
     ·show Act.put _ (some 60) _ = _
      simp only [Act.put, la_, lb_, lc_, i64_w, i32_w]
      rfl
     refine two_ (i := 15) (j := 19) (Ni := some 61) (Nj := some 65) d13x23 d13x22 rfl rfl rfl rfl (two_of HT_.out (by kernel_rfl)) (by decide) (by decide) (fun K hK => ?_) (fun K hK => ?_)
     ·skip
      have hcv52 := own_string (P := Tryd.prog) Tryd.underlying45 Tryd.underlying5 Tryd.underlying9 (Kd.own_of_R HO140.out)
      refine value_ (w1 := ?_) (v := ?_) (by rfl) rfl ?_ ?_
      rotate_left 2
      ·go_simp
       constructor
       ·rfl
       ·rfl
      clear hcv52
      refine hK.out _ _ ⟨(blk_cell BK126.out 0).trans rfl, (blk_cell BK126.out 1).trans rfl, (blk_cell BK126.out 2).trans rfl, (blk_cell BK126.out 3).trans rfl, (blk_cell BK136.out 0).trans rfl, (blk_cell BK136.out 1).trans rfl, (blk_cell BK136.out 2).trans rfl, (blk_cell BK136.out 3).trans rfl, (blk_cell BK136.out 4).trans rfl⟩ (fun hHeld => ?_)
      clear hK K
      refine norm_ (a' := ?_) ?_ ?_
      rotate_left
      ·show Act.put _ (some 61) _ = _
       simp only [Act.put, la_, lb_, lc_, i64_w, i32_w]
       rfl
      refine one_ (i := 19) (N := some 65) d13x24 rfl rfl (one_of HT_.out (by kernel_rfl)) (by decide) (fun K hK => ?_)
      refine goes_ Tryd.func27 (by kernel_rfl) rfl #[.int .u64 (IntKind.u64.wrap (t133)), .int .i64 4] (by rfl) rfl rfl (by (try simp only [List.map_toArray, List.map_cons, List.map_nil]); first | done | rfl | (simp only [List.length_drop, List.length_take]; rfl)) ?_
      with_reducible refine (fields_PutLittle.calls kj4 (IntKind.u64.wrap (t133)) 4 t141 _ A29.out).mono ?_
      rintro e w53 ⟨rfl, hb⟩
      refine ⟨_, rfl, ?_⟩
      have n0_ := Aside0.mk (Kd.R_below (by (with_reducible repeat (first | apply Kd.R_alloc | apply Kd.R_drewN | apply Kd.R_drew)); exact HO140.out) hb)
      have n1_ := Aside0.mk (blk_below (g := gb126) (o := .cells #[.int .i64 a0_0, .int .i64 a0_1, .string a0_2, .string a0_3] 24 (0, 0)) (by (with_reducible repeat (first | refine blk_drewN ?_ _ | refine blk_drew ?_ | refine blk_alloc ?_ _)); exact BK126.out) hb)
      have n2_ := Aside0.mk (blk_below (g := gb130) (o := .cells #[.int .i64 t127, .int .i64 t128, .bool t129] 48 (0, 0)) (by (with_reducible repeat (first | refine blk_drewN ?_ _ | refine blk_drew ?_ | refine blk_alloc ?_ _)); exact BK130.out) hb)
      have n3_ := Aside0.mk (blk_below (g := gb136) (o := .cells #[.int .i64 t131, .int .i64 t132, .int .i64 t133, .bool true, .bool true] 54 (0, 0)) (by (with_reducible repeat (first | refine blk_drewN ?_ _ | refine blk_drew ?_ | refine blk_alloc ?_ _)); exact BK136.out) hb)
      have n4_ := Aside0.mk (below_step (by repeat (first | (with_reducible first | exact HB.out | apply below_alloc | apply pw_below_drewN | apply below_drew1 | refine below_set ?_ GE126.out | refine below_set ?_ GE130.out | refine below_set ?_ GE136.out) | exact HB.out)) hb)
      clear HO140
      clear BK126
      clear BK130
      clear BK136
      clear HB
      have HO140 := n0_
      have BK126 := n1_
      have BK130 := n2_
      have BK136 := n3_
      have HB := n4_
      clear n0_ n1_ n2_ n3_ n4_
      (try clear hb)
      (try clear hb2)
      (try clear hk)
      (try clear hi)
      refine hK.out _ _ ⟨(blk_cell BK126.out 0).trans rfl, (blk_cell BK126.out 1).trans rfl, (blk_cell BK126.out 2).trans rfl, (blk_cell BK126.out 3).trans rfl, (blk_cell BK136.out 0).trans rfl, (blk_cell BK136.out 1).trans rfl, (blk_cell BK136.out 2).trans rfl, (blk_cell BK136.out 3).trans rfl, (blk_cell BK136.out 4).trans rfl⟩ (fun hHeld => ?_)
      clear hK K
      refine norm_ (a' := ?_) ?_ ?_
      rotate_left
      ·show Act.put _ (some 65) _ = _
       simp only [Act.put, la_, lb_, lc_, i64_w, i32_w]
       rfl
      exact norm_ (by simp only [putAll, Act.put, la_, lb_, lc_]) (hCont (v139) _ ⟨hHeld, (by (with_reducible repeat (first | apply Kd.R_alloc | apply Kd.R_drewN | apply Kd.R_drew)); exact HO140.out), (by (with_reducible repeat (first | refine blk_drewN ?_ _ | refine blk_drew ?_ | refine blk_alloc ?_ _)); exact BK126.out), (by (with_reducible repeat (first | refine blk_drewN ?_ _ | refine blk_drew ?_ | refine blk_alloc ?_ _)); exact BK130.out), (by (with_reducible repeat (first | refine blk_drewN ?_ _ | refine blk_drew ?_ | refine blk_alloc ?_ _)); exact BK136.out), (by repeat (first | (with_reducible first | exact HB.out | apply below_alloc | apply pw_below_drewN | apply below_drew1 | refine below_set ?_ GE126.out | refine below_set ?_ GE130.out | refine below_set ?_ GE136.out) | exact HB.out))⟩)
     ·skip
      refine goes_ Tryd.func27 (by kernel_rfl) rfl #[.int .u64 (IntKind.u64.wrap (t133)), .int .i64 4] (by rfl) rfl rfl (by (try simp only [List.map_toArray, List.map_cons, List.map_nil]); first | done | rfl | (simp only [List.length_drop, List.length_take]; rfl)) ?_
      with_reducible refine (fields_PutLittle.calls kj4 (IntKind.u64.wrap (t133)) 4 t141 _ A29.out).mono ?_
      rintro e w52 ⟨rfl, hb⟩
      refine ⟨_, rfl, ?_⟩
      have n0_ := Aside0.mk (Kd.R_below (by (with_reducible repeat (first | apply Kd.R_alloc | apply Kd.R_drewN | apply Kd.R_drew)); exact HO140.out) hb)
      have n1_ := Aside0.mk (blk_below (g := gb126) (o := .cells #[.int .i64 a0_0, .int .i64 a0_1, .string a0_2, .string a0_3] 24 (0, 0)) (by (with_reducible repeat (first | refine blk_drewN ?_ _ | refine blk_drew ?_ | refine blk_alloc ?_ _)); exact BK126.out) hb)
      have n2_ := Aside0.mk (blk_below (g := gb130) (o := .cells #[.int .i64 t127, .int .i64 t128, .bool t129] 48 (0, 0)) (by (with_reducible repeat (first | refine blk_drewN ?_ _ | refine blk_drew ?_ | refine blk_alloc ?_ _)); exact BK130.out) hb)
      have n3_ := Aside0.mk (blk_below (g := gb136) (o := .cells #[.int .i64 t131, .int .i64 t132, .int .i64 t133, .bool true, .bool true] 54 (0, 0)) (by (with_reducible repeat (first | refine blk_drewN ?_ _ | refine blk_drew ?_ | refine blk_alloc ?_ _)); exact BK136.out) hb)
      have n4_ := Aside0.mk (below_step (by repeat (first | (with_reducible first | exact HB.out | apply below_alloc | apply pw_below_drewN | apply below_drew1 | refine below_set ?_ GE126.out | refine below_set ?_ GE130.out | refine below_set ?_ GE136.out) | exact HB.out)) hb)
      clear HO140
      clear BK126
      clear BK130
      clear BK136
      clear HB
      have HO140 := n0_
      have BK126 := n1_
      have BK130 := n2_
      have BK136 := n3_
      have HB := n4_
      clear n0_ n1_ n2_ n3_ n4_
      (try clear hb)
      (try clear hb2)
      (try clear hk)
      (try clear hi)
      refine hK.out _ _ ⟨(blk_cell BK126.out 0).trans rfl, (blk_cell BK126.out 1).trans rfl, (blk_cell BK126.out 2).trans rfl, (blk_cell BK126.out 3).trans rfl, (blk_cell BK136.out 0).trans rfl, (blk_cell BK136.out 1).trans rfl, (blk_cell BK136.out 2).trans rfl, (blk_cell BK136.out 3).trans rfl, (blk_cell BK136.out 4).trans rfl⟩ (fun hHeld => ?_)
      clear hK K
      refine norm_ (a' := ?_) ?_ ?_
      rotate_left
      ·show Act.put _ (some 65) _ = _
       simp only [Act.put, la_, lb_, lc_, i64_w, i32_w]
       rfl
      refine one_ (i := 15) (N := some 61) d13x24 rfl rfl (one_of HT_.out (by kernel_rfl)) (by decide) (fun K hK => ?_)
      have hcv53 := own_string (P := Tryd.prog) Tryd.underlying45 Tryd.underlying5 Tryd.underlying9 (Kd.own_of_R HO140.out)
      refine value_ (w1 := ?_) (v := ?_) (by rfl) rfl ?_ ?_
      rotate_left 2
      ·go_simp
       constructor
       ·rfl
       ·rfl
      clear hcv53
      refine hK.out _ _ ⟨(blk_cell BK126.out 0).trans rfl, (blk_cell BK126.out 1).trans rfl, (blk_cell BK126.out 2).trans rfl, (blk_cell BK126.out 3).trans rfl, (blk_cell BK136.out 0).trans rfl, (blk_cell BK136.out 1).trans rfl, (blk_cell BK136.out 2).trans rfl, (blk_cell BK136.out 3).trans rfl, (blk_cell BK136.out 4).trans rfl⟩ (fun hHeld => ?_)
      clear hK K
      refine norm_ (a' := ?_) ?_ ?_
      rotate_left
      ·show Act.put _ (some 61) _ = _
       simp only [Act.put, la_, lb_, lc_, i64_w, i32_w]
       rfl
      exact norm_ (by simp only [putAll, Act.put, la_, lb_, lc_]) (hCont (v139) _ ⟨hHeld, (by (with_reducible repeat (first | apply Kd.R_alloc | apply Kd.R_drewN | apply Kd.R_drew)); exact HO140.out), (by (with_reducible repeat (first | refine blk_drewN ?_ _ | refine blk_drew ?_ | refine blk_alloc ?_ _)); exact BK126.out), (by (with_reducible repeat (first | refine blk_drewN ?_ _ | refine blk_drew ?_ | refine blk_alloc ?_ _)); exact BK130.out), (by (with_reducible repeat (first | refine blk_drewN ?_ _ | refine blk_drew ?_ | refine blk_alloc ?_ _)); exact BK136.out), (by repeat (first | (with_reducible first | exact HB.out | apply below_alloc | apply pw_below_drewN | apply below_drew1 | refine below_set ?_ GE126.out | refine below_set ?_ GE130.out | refine below_set ?_ GE136.out) | exact HB.out))⟩)
    ·skip
     refine goes_ Tryd.func27 (by kernel_rfl) rfl #[.int .u64 (IntKind.u64.wrap (t133)), .int .i64 4] (by rfl) rfl rfl (by (try simp only [List.map_toArray, List.map_cons, List.map_nil]); first | done | rfl | (simp only [List.length_drop, List.length_take]; rfl)) ?_
     with_reducible refine (fields_PutLittle.calls kj4 (IntKind.u64.wrap (t133)) 4 t141 _ A29.out).mono ?_
     rintro e w50 ⟨rfl, hb⟩
     refine ⟨_, rfl, ?_⟩
     have n0_ := Aside0.mk (blk_below (g := gb126) (o := .cells #[.int .i64 a0_0, .int .i64 a0_1, .string a0_2, .string a0_3] 24 (0, 0)) (by (with_reducible repeat (first | refine blk_drewN ?_ _ | refine blk_drew ?_ | refine blk_alloc ?_ _)); exact BK126.out) hb)
     have n1_ := Aside0.mk (blk_below (g := gb130) (o := .cells #[.int .i64 t127, .int .i64 t128, .bool t129] 48 (0, 0)) (by (with_reducible repeat (first | refine blk_drewN ?_ _ | refine blk_drew ?_ | refine blk_alloc ?_ _)); exact BK130.out) hb)
     have n2_ := Aside0.mk (blk_below (g := gb136) (o := .cells #[.int .i64 t131, .int .i64 t132, .int .i64 t133, .bool true, .bool true] 54 (0, 0)) (by (with_reducible repeat (first | refine blk_drewN ?_ _ | refine blk_drew ?_ | refine blk_alloc ?_ _)); exact BK136.out) hb)
     have n3_ := Aside0.mk (below_step (by repeat (first | (with_reducible first | exact HB.out | apply below_alloc | apply pw_below_drewN | apply below_drew1 | refine below_set ?_ GE126.out | refine below_set ?_ GE130.out | refine below_set ?_ GE136.out) | exact HB.out)) hb)
     clear BK126
     clear BK130
     clear BK136
     clear HB
     have BK126 := n0_
     have BK130 := n1_
     have BK136 := n2_
     have HB := n3_
     clear n0_ n1_ n2_ n3_
     (try clear hb)
     (try clear hb2)
     (try clear hk)
     (try clear hi)
     refine hK.out _ _ ⟨(blk_cell BK126.out 0).trans rfl, (blk_cell BK126.out 1).trans rfl, (blk_cell BK126.out 2).trans rfl, (blk_cell BK126.out 3).trans rfl, (blk_cell BK136.out 0).trans rfl, (blk_cell BK136.out 1).trans rfl, (blk_cell BK136.out 2).trans rfl, (blk_cell BK136.out 3).trans rfl, (blk_cell BK136.out 4).trans rfl⟩ (fun hHeld => ?_)
     clear hK K
     refine norm_ (a' := ?_) ?_ ?_
     rotate_left
     ·show Act.put _ (some 65) _ = _
      simp only [Act.put, la_, lb_, lc_, i64_w, i32_w]
      rfl
     refine one_ (i := 14) (N := some 60) d13x22 rfl rfl (one_of HT_.out (by kernel_rfl)) (by decide) (fun K hK => ?_)
     refine Kd.R_lit_step (Kd.int .u8) _ 5 ?hg (N := 60) ?hd (xs := ([(a0_0) % 256, (t137) % 256, (t131) % 256, (t132) % 256] : List Int)) (inner := [.int .u8 ((a0_0) % 256), .int .u8 ((t137) % 256), .int .u8 ((t131) % 256), .int .u8 ((t132) % 256)]) (ok := fun _ => True) (okp := fun _ => True) ?hr ?hp (fun _ hk => hk) trivial (Below.refl _ _) (Nat.le_refl _) (by simp) ?_; (case hd => rfl); (case hg => rfl); (case hr => first | (go_simp; done) | (go_simp; rfl)); (case hp => exact (Reps.one (show Kd.M (Kd.int .u8) _ _ _ ((a0_0) % 256) [.int .u8 ((a0_0) % 256)] from rfl) (Reps.one (show Kd.M (Kd.int .u8) _ _ _ ((t137) % 256) [.int .u8 ((t137) % 256)] from rfl) (Reps.one (show Kd.M (Kd.int .u8) _ _ _ ((t131) % 256) [.int .u8 ((t131) % 256)] from rfl) (Reps.one (show Kd.M (Kd.int .u8) _ _ _ ((t132) % 256) [.int .u8 ((t132) % 256)] from rfl) (Reps.none _ _))))))
     intro v139 w51 ho52 hb hg_ hnew_
     clear hg_ hnew_
     (first | rw [← Ny138.out] at ho52 | (simp only [Int.reduceToNat] at ho52; rw [← Ny138.out] at ho52))
     have n0_ := Aside0.mk (Kd.R_lower ho52 (below_size (by repeat (first | (with_reducible first | exact HB.out | apply below_alloc | apply pw_below_drewN | apply below_drew1 | refine below_set ?_ GE126.out | refine below_set ?_ GE130.out | refine below_set ?_ GE136.out) | exact HB.out))))
     have n1_ := Aside0.mk (blk_below (g := gb126) (o := .cells #[.int .i64 a0_0, .int .i64 a0_1, .string a0_2, .string a0_3] 24 (0, 0)) (by (with_reducible repeat (first | refine blk_drewN ?_ _ | refine blk_drew ?_ | refine blk_alloc ?_ _)); exact BK126.out) hb)
     have n2_ := Aside0.mk (blk_below (g := gb130) (o := .cells #[.int .i64 t127, .int .i64 t128, .bool t129] 48 (0, 0)) (by (with_reducible repeat (first | refine blk_drewN ?_ _ | refine blk_drew ?_ | refine blk_alloc ?_ _)); exact BK130.out) hb)
     have n3_ := Aside0.mk (blk_below (g := gb136) (o := .cells #[.int .i64 t131, .int .i64 t132, .int .i64 t133, .bool true, .bool true] 54 (0, 0)) (by (with_reducible repeat (first | refine blk_drewN ?_ _ | refine blk_drew ?_ | refine blk_alloc ?_ _)); exact BK136.out) hb)
     have n4_ := Aside0.mk (below_step (by repeat (first | (with_reducible first | exact HB.out | apply below_alloc | apply pw_below_drewN | apply below_drew1 | refine below_set ?_ GE126.out | refine below_set ?_ GE130.out | refine below_set ?_ GE136.out) | exact HB.out)) hb)
     clear BK126
     clear BK130
     clear BK136
     clear HB
     have HO140 := n0_
     have BK126 := n1_
     have BK130 := n2_
     have BK136 := n3_
     have HB := n4_
     clear n0_ n1_ n2_ n3_ n4_
     clear hb ho52
     refine hK.out _ _ ⟨(blk_cell BK126.out 0).trans rfl, (blk_cell BK126.out 1).trans rfl, (blk_cell BK126.out 2).trans rfl, (blk_cell BK126.out 3).trans rfl, (blk_cell BK136.out 0).trans rfl, (blk_cell BK136.out 1).trans rfl, (blk_cell BK136.out 2).trans rfl, (blk_cell BK136.out 3).trans rfl, (blk_cell BK136.out 4).trans rfl⟩ (fun hHeld => ?_)
     clear hK K
     refine norm_ (a' := ?_) ?_ ?_
     rotate_left
     ·show Act.put _ (some 60) _ = _
      simp only [Act.put, la_, lb_, lc_, i64_w, i32_w]
      rfl
     refine one_ (i := 15) (N := some 61) d13x24 rfl rfl (one_of HT_.out (by kernel_rfl)) (by decide) (fun K hK => ?_)
     have hcv53 := own_string (P := Tryd.prog) Tryd.underlying45 Tryd.underlying5 Tryd.underlying9 (Kd.own_of_R HO140.out)
     refine value_ (w1 := ?_) (v := ?_) (by rfl) rfl ?_ ?_
     rotate_left 2
     ·go_simp
      constructor
      ·rfl
      ·rfl
     clear hcv53
     refine hK.out _ _ ⟨(blk_cell BK126.out 0).trans rfl, (blk_cell BK126.out 1).trans rfl, (blk_cell BK126.out 2).trans rfl, (blk_cell BK126.out 3).trans rfl, (blk_cell BK136.out 0).trans rfl, (blk_cell BK136.out 1).trans rfl, (blk_cell BK136.out 2).trans rfl, (blk_cell BK136.out 3).trans rfl, (blk_cell BK136.out 4).trans rfl⟩ (fun hHeld => ?_)
     clear hK K
     refine norm_ (a' := ?_) ?_ ?_
     rotate_left
     ·show Act.put _ (some 61) _ = _
      simp only [Act.put, la_, lb_, lc_, i64_w, i32_w]
      rfl
     exact norm_ (by simp only [putAll, Act.put, la_, lb_, lc_]) (hCont (v139) _ ⟨hHeld, (by (with_reducible repeat (first | apply Kd.R_alloc | apply Kd.R_drewN | apply Kd.R_drew)); exact HO140.out), (by (with_reducible repeat (first | refine blk_drewN ?_ _ | refine blk_drew ?_ | refine blk_alloc ?_ _)); exact BK126.out), (by (with_reducible repeat (first | refine blk_drewN ?_ _ | refine blk_drew ?_ | refine blk_alloc ?_ _)); exact BK130.out), (by (with_reducible repeat (first | refine blk_drewN ?_ _ | refine blk_drew ?_ | refine blk_alloc ?_ _)); exact BK136.out), (by repeat (first | (with_reducible first | exact HB.out | apply below_alloc | apply pw_below_drewN | apply below_drew1 | refine below_set ?_ GE126.out | refine below_set ?_ GE130.out | refine below_set ?_ GE136.out) | exact HB.out))⟩)
   rintro v139 w54 ⟨hS_, h0_, h1_, h2_, h3_, h4_⟩
   have n0_ : Aside0 (Kd.R (Kd.int .u8) 5 w54 w.heap.size (fun _ => True) v139 y138) := ⟨h0_⟩
   have n1_ : Aside0 (w54.heap[gb126]? = some (.cells #[.int .i64 a0_0, .int .i64 a0_1, .string a0_2, .string a0_3] 24 (0, 0))) := ⟨h1_⟩
   have n2_ : Aside0 (w54.heap[gb130]? = some (.cells #[.int .i64 t127, .int .i64 t128, .bool t129] 48 (0, 0))) := ⟨h2_⟩
   have n3_ : Aside0 (w54.heap[gb136]? = some (.cells #[.int .i64 t131, .int .i64 t132, .int .i64 t133, .bool true, .bool true] 54 (0, 0))) := ⟨h3_⟩
   have n4_ : Aside0 (Below w.heap.size w w54) := ⟨h4_⟩
   clear BK126
   clear BK130
   clear BK136
   clear HB
   clear h0_ h1_ h2_ h3_ h4_
   have HO140 := n0_
   have BK126 := n1_
   have BK130 := n2_
   have BK136 := n3_
   have HB := n4_
   clear n0_ n1_ n2_ n3_ n4_
   have hHeld : w54.cell? ⟨gb126, 0, none⟩ = some (.int .i64 a0_0) ∧ w54.cell? ⟨gb126, 1, none⟩ = some (.int .i64 a0_1) ∧ w54.cell? ⟨gb126, 2, none⟩ = some (.string a0_2) ∧ w54.cell? ⟨gb126, 3, none⟩ = some (.string a0_3) ∧ w54.cell? ⟨gb136, 0, none⟩ = some (.int .i64 t131) ∧ w54.cell? ⟨gb136, 1, none⟩ = some (.int .i64 t132) ∧ w54.cell? ⟨gb136, 2, none⟩ = some (.int .i64 t133) ∧ w54.cell? ⟨gb136, 3, none⟩ = some (.bool true) ∧ w54.cell? ⟨gb136, 4, none⟩ = some (.bool true) := hS_
   refine norm_ (a' := ?_) ?_ ?_
   rotate_left
   ·simp only [putAll, Act.put, la_, lb_, lc_]
    rfl
   refine pon_ 20 (some 66) d13x25 HT_.out ?_
   refine pon_ 23 (some 69) d13x26 HT_.out ?_
   refine pon_ 24 (some 10) d13x27 HT_.out ?_
   refine done_ (done_of HT_.out (by kernel_rfl)) ?_
   have hcz55_0 : w54.cell? ⟨gb136, 0, none⟩ = some (.int .i64 t131) := (blk_cell BK136.out 0).trans rfl
   have hcz55_1 : w54.cell? ⟨gb136, 1, none⟩ = some (.int .i64 t132) := (blk_cell BK136.out 1).trans rfl
   have hcz55_2 : w54.cell? ⟨gb136, 2, none⟩ = some (.int .i64 t133) := (blk_cell BK136.out 2).trans rfl
   have hcz55_3 : w54.cell? ⟨gb136, 3, none⟩ = some (.bool true) := (blk_cell BK136.out 3).trans rfl
   have hcz55_4 : w54.cell? ⟨gb136, 4, none⟩ = some (.bool true) := (blk_cell BK136.out 4).trans rfl
   have hfz55_0 := blk_frozen BK136.out 0
   have hfz55_1 := blk_frozen BK136.out 1
   have hfz55_2 := blk_frozen BK136.out 2
   have hfz55_3 := blk_frozen BK136.out 3
   have hfz55_4 := blk_frozen BK136.out 4
   try go_wp2_with (first | ((with_reducible refine gate_callee (f := 28) rfl ?_); refine goesL_ (some 74) rfl rfl Tryd.func28 (by kernel_rfl) rfl #[.string (((strOfNums y138) ++ t141) ++ a0_2)] rfl (by (try simp only [List.map_toArray, List.map_cons, List.map_nil]); first | done | rfl | (simp only [List.length_drop, List.length_take]; rfl)) ?_; (with_reducible refine (crc_Digest.calls kj4 (((strOfNums y138) ++ t141) ++ a0_2) t142 _ ?side1 A33.out).mono ?_); (case side1 => first | ((refine Glob.keep HG.out ?_); (repeat (first | (with_reducible first | exact HB.out | apply below_alloc | apply pw_below_drewN | apply below_drew1 | refine below_set ?_ GE126.out | refine below_set ?_ GE130.out | refine below_set ?_ GE136.out) | exact HB.out)); done) | exact HG.out); rintro e w56 ⟨rfl, hb⟩; refine ⟨_, rfl, ?_⟩; have n0_ := Aside0.mk (Kd.R_below (by (with_reducible repeat (first | apply Kd.R_alloc | apply Kd.R_drewN | apply Kd.R_drew)); exact HO140.out) hb); have n1_ := Aside0.mk (blk_below (g := gb126) (o := .cells #[.int .i64 a0_0, .int .i64 a0_1, .string a0_2, .string a0_3] 24 (0, 0)) (by (with_reducible repeat (first | refine blk_drewN ?_ _ | refine blk_drew ?_ | refine blk_alloc ?_ _)); exact BK126.out) hb); have n2_ := Aside0.mk (blk_below (g := gb130) (o := .cells #[.int .i64 t127, .int .i64 t128, .bool t129] 48 (0, 0)) (by (with_reducible repeat (first | refine blk_drewN ?_ _ | refine blk_drew ?_ | refine blk_alloc ?_ _)); exact BK130.out) hb); have n3_ := Aside0.mk (blk_below (g := gb136) (o := .cells #[.int .i64 t131, .int .i64 t132, .int .i64 t133, .bool true, .bool true] 54 (0, 0)) (by (with_reducible repeat (first | refine blk_drewN ?_ _ | refine blk_drew ?_ | refine blk_alloc ?_ _)); exact BK136.out) hb); have n4_ := Aside0.mk (below_step (by repeat (first | (with_reducible first | exact HB.out | apply below_alloc | apply pw_below_drewN | apply below_drew1 | refine below_set ?_ GE126.out | refine below_set ?_ GE130.out | refine below_set ?_ GE136.out) | exact HB.out)) hb); clear HO140; clear BK126; clear BK130; clear BK136; clear HB; have HO140 := n0_; have BK126 := n1_; have BK130 := n2_; have BK136 := n3_; have HB := n4_; clear n0_ n1_ n2_ n3_ n4_; (try clear hb); (try clear hb2); (try clear hk); (try clear hi); have hcz57_0 : w56.cell? ⟨gb126, 0, none⟩ = some (.int .i64 a0_0) := (blk_cell BK126.out 0).trans rfl; have hcz57_1 : w56.cell? ⟨gb126, 1, none⟩ = some (.int .i64 a0_1) := (blk_cell BK126.out 1).trans rfl; have hcz57_2 : w56.cell? ⟨gb126, 2, none⟩ = some (.string a0_2) := (blk_cell BK126.out 2).trans rfl; have hcz57_3 : w56.cell? ⟨gb126, 3, none⟩ = some (.string a0_3) := (blk_cell BK126.out 3).trans rfl; have hfz57_0 := blk_frozen BK126.out 0; have hfz57_1 := blk_frozen BK126.out 1; have hfz57_2 := blk_frozen BK126.out 2; have hfz57_3 := blk_frozen BK126.out 3; have hcz58_0 : w56.cell? ⟨gb136, 0, none⟩ = some (.int .i64 t131) := (blk_cell BK136.out 0).trans rfl; have hcz58_1 : w56.cell? ⟨gb136, 1, none⟩ = some (.int .i64 t132) := (blk_cell BK136.out 1).trans rfl; have hcz58_2 : w56.cell? ⟨gb136, 2, none⟩ = some (.int .i64 t133) := (blk_cell BK136.out 2).trans rfl; have hcz58_3 : w56.cell? ⟨gb136, 3, none⟩ = some (.bool true) := (blk_cell BK136.out 3).trans rfl; have hcz58_4 : w56.cell? ⟨gb136, 4, none⟩ = some (.bool true) := (blk_cell BK136.out 4).trans rfl; have hfz58_0 := blk_frozen BK136.out 0; have hfz58_1 := blk_frozen BK136.out 1; have hfz58_2 := blk_frozen BK136.out 2; have hfz58_3 := blk_frozen BK136.out 3; have hfz58_4 := blk_frozen BK136.out 4) | ((with_reducible refine gate_callee (f := 28) rfl ?_); refine goesL_ (some 85) rfl rfl Tryd.func28 (by kernel_rfl) rfl #[.string a0_3] rfl (by (try simp only [List.map_toArray, List.map_cons, List.map_nil]); first | done | rfl | (simp only [List.length_drop, List.length_take]; rfl)) ?_; (with_reducible refine (crc_Digest.calls kj4 a0_3 t143 _ ?side1 A37.out).mono ?_); (case side1 => first | ((refine Glob.keep HG.out ?_); (repeat (first | (with_reducible first | exact HB.out | apply below_alloc | apply pw_below_drewN | apply below_drew1 | refine below_set ?_ GE126.out | refine below_set ?_ GE130.out | refine below_set ?_ GE136.out) | exact HB.out)); done) | exact HG.out); rintro e w59 ⟨rfl, hb⟩; refine ⟨_, rfl, ?_⟩; have n0_ := Aside0.mk (Kd.R_below (by (with_reducible repeat (first | apply Kd.R_alloc | apply Kd.R_drewN | apply Kd.R_drew)); exact HO140.out) hb); have n1_ := Aside0.mk (blk_below (g := gb126) (o := .cells #[.int .i64 a0_0, .int .i64 a0_1, .string a0_2, .string a0_3] 24 (0, 0)) (by (with_reducible repeat (first | refine blk_drewN ?_ _ | refine blk_drew ?_ | refine blk_alloc ?_ _)); exact BK126.out) hb); have n2_ := Aside0.mk (blk_below (g := gb130) (o := .cells #[.int .i64 t127, .int .i64 t128, .bool t129] 48 (0, 0)) (by (with_reducible repeat (first | refine blk_drewN ?_ _ | refine blk_drew ?_ | refine blk_alloc ?_ _)); exact BK130.out) hb); have n3_ := Aside0.mk (blk_below (g := gb136) (o := .cells #[.int .i64 t131, .int .i64 t132, .int .i64 t133, .bool true, .bool true] 54 (0, 0)) (by (with_reducible repeat (first | refine blk_drewN ?_ _ | refine blk_drew ?_ | refine blk_alloc ?_ _)); exact BK136.out) hb); have n4_ := Aside0.mk (below_step (by repeat (first | (with_reducible first | exact HB.out | apply below_alloc | apply pw_below_drewN | apply below_drew1 | refine below_set ?_ GE126.out | refine below_set ?_ GE130.out | refine below_set ?_ GE136.out) | exact HB.out)) hb); clear HO140; clear BK126; clear BK130; clear BK136; clear HB; have HO140 := n0_; have BK126 := n1_; have BK130 := n2_; have BK136 := n3_; have HB := n4_; clear n0_ n1_ n2_ n3_ n4_; (try clear hb); (try clear hb2); (try clear hk); (try clear hi)))
   go_ret2
   exact ⟨by first | rfl | (simp [errW_none, errW_some] <;> rfl) | (simp [*, errW_none, errW_some] <;> rfl) | (simp [bt, *]; done) | (unfold bt; simp [*]; done), by repeat (first | (with_reducible first | exact HB.out | apply below_alloc | apply pw_below_drewN | apply below_drew1 | refine below_set ?_ GE126.out | refine below_set ?_ GE130.out | refine below_set ?_ GE136.out) | exact HB.out)⟩
end Go.Proofs.YtkbjhblffbcleaaDoor.P
