-- joined by this session's wip/tools/pack.py: words of the kit's print, cut to what the claim names; functions printed by a patched copy of the printer; walks and lemmas of this session; Lean checks it
import Derived.Test.YtclcnkmefldpiaaDoorBd5
import Derived.WalkKit
import Derived.RegionTactic
import Derived.Deep.QuietTactic
import Derived.BigQuiet
import Derived.Maps.Own
import Derived.Maps.OwnOps
import Derived.Maps.Views
import Derived.Carry
import Derived.Lib.SliceRun
namespace Go.Proofs.YtclcnkmefldpiaaDoor.P
open Go.RowKit Go.Proofs.YtclcnkmefldpiaaDoorW.PrintWords Go.Proofs.YtclcnkmefldpiaaDoorW.PrintLast Go.Proofs.YtclcnkmefldpiaaDoorW.PrintMore
attribute [local go_sem] max2_int min2_int max_two min_two max_three min_three max_four min_four   -- for this text's walks alone
set_option linter.unusedVariables false
set_option linter.unusedSimpArgs false
set_option linter.unnecessarySimpa false
def headgateref21_Answer.l0 : Nat → List (S45) → List (S45) → Int → Bool → Bool → Bool → Bool → Int → Int → ByteArray → ByteArray → Option (Bool × Bool × Bool × Bool × Int × Int × ByteArray × ByteArray × (List (S45)) × Int)
 | 0, _, _, _, _, _, _, _, _, _, _, _ => none
 | k + 1, x1, x6, x7, x225000, x225001, x225002, x225003, x225004, x225005, x225006, x225007 => if x7 < (x1.length : Int) then (if 0 ≤ x7 then ((headgateref21_one.f k x225000 x225001 x225002 x225003 x225004 x225005 x225006 x225007 ((rd_T45 x1 x7).f0) ((rd_T45 x1 x7).f1)).bind fun bt228 => (if bt228.2.2.2.2.2.2.2.2.2 = true then (if bt228.2.2.2.2.2.2.2.2.1.toList = ([] : List UInt8) then (headgateref21_Answer.l0 k x1 x6 (wrap64 (x7 + 1)) bt228.1 bt228.2.1 bt228.2.2.1 bt228.2.2.2.1 bt228.2.2.2.2.1 bt228.2.2.2.2.2.1 bt228.2.2.2.2.2.2.1 bt228.2.2.2.2.2.2.2.1) else (if x6.length < 4398046511104 then (headgateref21_Answer.l0 k x1 (x6 ++ [(⟨(rd_T45 x1 x7).f0, bt228.2.2.2.2.2.2.2.2.1⟩ : S45)]) (wrap64 (x7 + 1)) bt228.1 bt228.2.1 bt228.2.2.1 bt228.2.2.2.1 bt228.2.2.2.2.1 bt228.2.2.2.2.2.1 bt228.2.2.2.2.2.2.1 bt228.2.2.2.2.2.2.2.1) else (none))) else (some (false, false, false, false, 0, 0, (⟨#[]⟩ : ByteArray), (⟨#[]⟩ : ByteArray), ([] : List (S45)), 210)))) else (none)) else (some (x225000, x225001, x225002, x225003, x225004, x225005, x225006, x225007, x6, 0))
def headgateref21_Answer.f (k : Nat) (a0_0 : Bool) (a0_1 : Bool) (a0_2 : Bool) (a0_3 : Bool) (a0_4 : Int) (a0_5 : Int) (a0_6 : ByteArray) (a0_7 : ByteArray) (l1 : List (S45)) : Option (Bool × Bool × Bool × Bool × Int × Int × ByteArray × ByteArray × (List (S45)) × Int) := (headgateref21_Good.f k l1).bind fun t226 => (if t226 = true then (headgateref21_Answer.l0 k l1 ([] : List (S45)) 0 a0_0 a0_1 a0_2 a0_3 a0_4 a0_5 a0_6 a0_7) else (some (false, false, false, false, 0, 0, (⟨#[]⟩ : ByteArray), (⟨#[]⟩ : ByteArray), ([] : List (S45)), 210)))
theorem headgateref21_Answer.mono_l : ∀ k, (∀ y0 y1 y2 y3 y4 y5 y6 y7 y8 y9 y10, LeO (headgateref21_Answer.l0 k y0 y1 y2 y3 y4 y5 y6 y7 y8 y9 y10) (headgateref21_Answer.l0 (k + 1) y0 y1 y2 y3 y4 y5 y6 y7 y8 y9 y10))
 | 0 => fun _ _ _ _ _ _ _ _ _ _ _ r h => by simp [headgateref21_Answer.l0] at h
 | k + 1 => by
  have ih0 := headgateref21_Answer.mono_l k
  ·intro y0 y1 y2 y3 y4 y5 y6 y7 y8 y9 y10
   unfold headgateref21_Answer.l0
   repeat' first
   | (with_reducible exact ih0 _ _ _ _ _ _ _ _ _ _ _)
   | (with_reducible exact headgateref21_Good.mono _ _)
   | (with_reducible exact headgateref21_one.mono _ _ _ _ _ _ _ _ _ _ _)
   | (with_reducible exact LeO.refl _)
   | (with_reducible exact LeO.none _)
   | (with_reducible refine LeO.ite ?_ ?_)
   | (with_reducible refine LeO.bind ?_ (fun _ => ?_))
   | exact ih0 _ _ _ _ _ _ _ _ _ _ _
   | exact headgateref21_Good.mono _ _
   | exact headgateref21_one.mono _ _ _ _ _ _ _ _ _ _ _
   | exact LeO.none _
   | refine LeO.ite ?_ ?_
   | refine LeO.bind ?_ (fun _ => ?_)
theorem headgateref21_Answer.mono : ∀ a0 a1 a2 a3 a4 a5 a6 a7 a8 k, LeO (headgateref21_Answer.f k a0 a1 a2 a3 a4 a5 a6 a7 a8) (headgateref21_Answer.f (k + 1) a0 a1 a2 a3 a4 a5 a6 a7 a8) := by
 intro a0 a1 a2 a3 a4 a5 a6 a7 a8 k
 have ih0 := headgateref21_Answer.mono_l k
 unfold headgateref21_Answer.f
 repeat' first
   | (with_reducible exact ih0 _ _ _ _ _ _ _ _ _ _ _)
   | (with_reducible exact headgateref21_Good.mono _ _)
   | (with_reducible exact headgateref21_one.mono _ _ _ _ _ _ _ _ _ _ _)
   | (with_reducible exact LeO.refl _)
   | (with_reducible exact LeO.none _)
   | (with_reducible refine LeO.ite ?_ ?_)
   | (with_reducible refine LeO.bind ?_ (fun _ => ?_))
   | exact ih0 _ _ _ _ _ _ _ _ _ _ _
   | exact headgateref21_Good.mono _ _
   | exact headgateref21_one.mono _ _ _ _ _ _ _ _ _ _ _
   | exact LeO.none _
   | refine LeO.ite ?_ ?_
   | refine LeO.bind ?_ (fun _ => ?_)
def headgateref21_Answer.T7 : Bool × List (List Nat × List Nat) := (true, [([], []), ([], []), ([], []), ([1, 2], [1, 2]), ([3], [3]), ([0, 4], [0, 4]), ([], []), ([6, 5, 5, 0, 1, 2, 3, 4, 5, 6], [5, 6])])
def headgateref21_Answer.B7 : List Nat := [0, 0, 0, 6, 14, 31, 0, 127]
theorem headgateref21_Answer.tab7 : rtab .any (opsOf Tryd.f12 7) = headgateref21_Answer.T7 := by kernel_rfl
theorem headgateref21_Answer.bits7 : waitsOk headgateref21_Answer.T7.2 headgateref21_Answer.B7 = true := by kernel_rfl
def headgateref21_Answer.T12 : Bool × List (List Nat × List Nat) := (true, [([], []), ([], []), ([], []), ([1, 2], [1, 2]), ([3], [3]), ([4], [4]), ([], []), ([6], [6]), ([5, 7], [5, 7]), ([8], [8]), ([0, 9], [0, 9]), ([10, 10, 0, 1, 2, 3, 4, 5, 6, 7, 8, 9, 10], [0, 10])])
def headgateref21_Answer.B12 : List Nat := [0, 0, 0, 6, 14, 30, 0, 64, 254, 510, 1023, 2047]
theorem headgateref21_Answer.tab12 : rtab .any (opsOf Tryd.f12 12) = headgateref21_Answer.T12 := by kernel_rfl
theorem headgateref21_Answer.bits12 : waitsOk headgateref21_Answer.T12.2 headgateref21_Answer.B12 = true := by kernel_rfl
abbrev d12x0 : Array Bool := #[false, false, false, false, false, false, false, false, false, false, false, false]
abbrev d12x1 : Array Bool := #[false, false, false, false, false, false, false, false]
abbrev d12x2 : Array Bool := dB 8 2
abbrev d12x3 : Array Bool := dB 8 6
abbrev d12x4 : Array Bool := dB 8 14
abbrev d12x5 : Array Bool := dB 12 1
abbrev d12x6 : Array Bool := dB 12 3
abbrev d12x7 : Array Bool := dB 12 7
abbrev d12x8 : Array Bool := dB 12 15
abbrev d12x9 : Array Bool := dB 8 15
abbrev d12x10 : Array Bool := dB 12 31
abbrev d12x11 : Array Bool := dB 8 31
abbrev d12x12 : Array Bool := dB 12 95
abbrev d12x13 : Array Bool := dB 8 95
abbrev d12x14 : Array Bool := dB 8 63
abbrev d12x15 : Array Bool := dB 12 127
abbrev d12x16 : Array Bool := dB 8 127
abbrev d12x17 : Array Bool := dB 12 255
abbrev d12x18 : Array Bool := dB 12 511
abbrev d12x19 : Array Bool := dB 12 1023
abbrev d12x20 : Array Bool := dB 12 2047
abbrev d12x21 : Array Bool := dB 12 4095
abbrev d12x22 : Array Bool := dB 8 255
set_option maxHeartbeats 8000000 in
set_option maxRecDepth 100000 in
theorem headgateref21_Answer.calls (k : Nat) (a0_0 : Bool) (a0_1 : Bool) (a0_2 : Bool) (a0_3 : Bool) (a0_4 : Int) (a0_5 : Int) (a0_6 : ByteArray) (a0_7 : ByteArray) (A1 : Option Addr) (c1 : Nat) (l1 : List (S45)) (r1 : Bool) (r2 : Bool) (r3 : Bool) (r4 : Bool) (r5 : Int) (r6 : Int) (r7 : ByteArray) (r8 : ByteArray) (r9 : List (S45)) (r10 : Int) (w : World) (hr1 : Kd.C k45 w A1 l1.length l1) (hc1 : l1.length ≤ c1) (h : headgateref21_Answer.f k a0_0 a0_1 a0_2 a0_3 a0_4 a0_5 a0_6 a0_7 l1 = some (r1, r2, r3, r4, r5, r6, r7, r8, r9, r10)) :
  Calls Tryd.prog 12 #[.agg #[.bool a0_0, .bool a0_1, .bool a0_2, .bool a0_3, .int .i64 a0_4, .int .i64 a0_5, .string a0_6, .string a0_7], .slice A1 l1.length c1] w fun e w' => ∃ v8_ : Value, e = .returned (.tuple #[.agg #[.bool r1, .bool r2, .bool r3, .bool r4, .int .i64 r5, .int .i64 r6, .string r7, .string r8, v8_], .int .i64 r10]) ∧ Kd.R k45 45 w' w.heap.size (fun _ => True) v8_ r9 ∧ Below w.heap.size w w' := by
 have hu31 := Tryd.underlying31
 have hu33 := Tryd.underlying33
 have hu45 := Tryd.underlying45
 have hu63 := Tryd.underlying63
 have HR1 := Aside0.mk hr1
 have HC1 := Aside0.mk hc1
 clear hr1 hc1
 have HB := Aside0.mk (Below.refl w.heap.size w)
 have H : ((headgateref21_Good.f k l1).bind fun t226 => (if t226 = true then (headgateref21_Answer.l0 k l1 ([] : List (S45)) 0 a0_0 a0_1 a0_2 a0_3 a0_4 a0_5 a0_6 a0_7) else (some (false, false, false, false, 0, 0, (⟨#[]⟩ : ByteArray), (⟨#[]⟩ : ByteArray), ([] : List (S45)), 210)))) = some (r1, r2, r3, r4, r5, r6, r7, r8, r9, r10) := h
 clear h
 replace H := Option.bind_eq_some_iff.mp H
 obtain ⟨t226, A30, H⟩ := H
 try dsimp only at H
 have A3 := Aside0.mk A30
 clear A30
 refine neg_first (p := (t226 = true)) (fun c4 => ?_) (fun c4 => ?_)
 ·replace c4 := Bool.eq_false_iff.mpr c4
  subst c4
  have H1 := H
  rw [if_neg (show ¬ (false = true) by decide)] at H1
  clear H
  have H := H1
  clear H1
  simp only [Option.some.injEq, Prod.mk.injEq] at H
  obtain ⟨rfl, rfl, rfl, rfl, rfl, rfl, rfl, rfl, rfl, rfl⟩ := H
  go_enter Tryd.func12, Tryd.ntmps12
  go_wp2_with (first | ((with_reducible refine gate_dst (N := 2) rfl ?_); refine box_event ?hg (N := 2) ?hd (cs := #[.bool a0_0, .bool a0_1, .bool a0_2, .bool a0_3, .int .i64 a0_4, .int .i64 a0_5, .string a0_6, .string a0_7]) (t := 31) ?hr ?_; (case hd => rfl); (case hg => rfl); (case hr => first | (go_simp; done) | (go_simp; rfl)); intro gb224 hg w77 hbox hb; have n0_ := Aside0.mk (below_step (hb_ HB) hb); have n1_ := Aside0.mk (hbox); have n2_ := Aside0.mk ((by rw [hg]; exact (below_size (hb_ HB)) : w.heap.size ≤ gb224)); have n3_ := Aside0.mk ((by rw [hg]; exact (below_size (hb_ HB)) : w.heap.size ≤ gb224)); clear HB; have HB := n0_; have BK224 := n1_; have GW224 := n2_; have GE224 := n3_; clear n0_ n1_ n2_ n3_; clear hb hbox hg) | ((with_reducible refine gate_dst (N := 4) rfl ?_); refine box_event ?hg (N := 4) ?hd (cs := #[.bool false, .bool false, .bool false, .bool false, .int .i64 0, .int .i64 0, .string (⟨#[]⟩ : ByteArray), .string (⟨#[]⟩ : ByteArray), .slice none 0 0]) (t := 33) ?hr ?_; (case hd => rfl); (case hg => rfl); (case hr => first | (go_simp; done) | (go_simp; rfl)); intro gb225 hg w78 hbox hb; have n0_ := Aside0.mk (blk_below (bk_ BK224) hb); have n1_ := Aside0.mk (below_step (hb_ HB) hb); have n2_ := Aside0.mk (hbox); have n3_ := Aside0.mk ((by rw [hg]; exact (below_size (hb_ HB)) : w.heap.size ≤ gb225)); have n4_ := Aside0.mk ((by rw [hg]; exact (below_size (hb_ HB)) : w.heap.size ≤ gb225)); have n5_ := Aside0.mk ((by rw [hg]; exact Nat.ne_of_lt (blk_lt (g := gb224) (o := .cells #[.bool a0_0, .bool a0_1, .bool a0_2, .bool a0_3, .int .i64 a0_4, .int .i64 a0_5, .string a0_6, .string a0_7] 31 (0, 0)) (bk_ BK224)) : gb224 ≠ gb225)); have n6_ := Aside0.mk ((by rw [hg]; exact Nat.ne_of_gt (blk_lt (g := gb224) (o := .cells #[.bool a0_0, .bool a0_1, .bool a0_2, .bool a0_3, .int .i64 a0_4, .int .i64 a0_5, .string a0_6, .string a0_7] 31 (0, 0)) (bk_ BK224)) : gb225 ≠ gb224)); clear BK224; clear HB; have BK224 := n0_; have HB := n1_; have BK225 := n2_; have GW225 := n3_; have GE225 := n4_; have NB224_225 := n5_; have NB225_224 := n6_; clear n0_ n1_ n2_ n3_ n4_ n5_ n6_; clear hb hbox hg) | ((with_reducible refine gate_callee (f := 24) rfl ?_); refine goesL_ (some 10) rfl rfl Tryd.func24 (by kernel_rfl) rfl #[.slice A1 l1.length c1] rfl (by (try simp only [List.map_toArray, List.map_cons, List.map_nil]); first | done | rfl | (simp only [List.length_drop, List.length_take]; rfl)) ?_; (with_reducible refine (headgateref21_Good.calls k _ _ l1 false _ ?side1 ?side2 A3.out).mono ?_); (case side1 => repeat (first | exact (Kd.C_below HR1.out HB.out) | (with_reducible refine Kd.C_alloc ?_ _) | (with_reducible refine Kd.C_drewN ?_ _) | (with_reducible refine Kd.C_drew ?_))); (case side2 => exact HC1.out); rintro e w' ⟨rfl, ⟨nd, rfl⟩⟩; refine ⟨_, rfl, ?_⟩; (try (rw [drewN_self w78]; generalize hq_ : World.drewN w78 _ = w78; have n0_ : Aside0 (w78.heap[gb224]? = some (.cells #[.bool a0_0, .bool a0_1, .bool a0_2, .bool a0_3, .int .i64 a0_4, .int .i64 a0_5, .string a0_6, .string a0_7] 31 (0, 0))) := ⟨by rw [← hq_]; exact (bk_ BK224)⟩; have n1_ : Aside0 (w78.heap[gb225]? = some (.cells #[.bool false, .bool false, .bool false, .bool false, .int .i64 0, .int .i64 0, .string (⟨#[]⟩ : ByteArray), .string (⟨#[]⟩ : ByteArray), .slice none 0 0] 33 (0, 0))) := ⟨by rw [← hq_]; exact (bk_ BK225)⟩; have n2_ : Aside0 (Below w.heap.size w w78) := ⟨by rw [← hq_]; exact (hb_ HB)⟩; clear BK224 BK225 HB hq_; have BK224 := n0_; have BK225 := n1_; have HB := n2_; clear n0_ n1_ n2_)); have hnb79 := NB225_224.out; have hnc79 := NB224_225.out; have hcz80_0 : w78.cell? ⟨gb225, 0, none⟩ = some (.bool false) := (blk_cell BK225.out 0).trans rfl; have hcz80_1 : w78.cell? ⟨gb225, 1, none⟩ = some (.bool false) := (blk_cell BK225.out 1).trans rfl; have hcz80_2 : w78.cell? ⟨gb225, 2, none⟩ = some (.bool false) := (blk_cell BK225.out 2).trans rfl; have hcz80_3 : w78.cell? ⟨gb225, 3, none⟩ = some (.bool false) := (blk_cell BK225.out 3).trans rfl; have hcz80_4 : w78.cell? ⟨gb225, 4, none⟩ = some (.int .i64 0) := (blk_cell BK225.out 4).trans rfl; have hcz80_5 : w78.cell? ⟨gb225, 5, none⟩ = some (.int .i64 0) := (blk_cell BK225.out 5).trans rfl; have hcz80_6 : w78.cell? ⟨gb225, 6, none⟩ = some (.string (⟨#[]⟩ : ByteArray)) := (blk_cell BK225.out 6).trans rfl; have hcz80_7 : w78.cell? ⟨gb225, 7, none⟩ = some (.string (⟨#[]⟩ : ByteArray)) := (blk_cell BK225.out 7).trans rfl; have hcz80_8 : w78.cell? ⟨gb225, 8, none⟩ = some (.slice none 0 0) := (blk_cell BK225.out 8).trans rfl; have hfz80_0 := blk_frozen BK225.out 0; have hfz80_1 := blk_frozen BK225.out 1; have hfz80_2 := blk_frozen BK225.out 2; have hfz80_3 := blk_frozen BK225.out 3; have hfz80_4 := blk_frozen BK225.out 4; have hfz80_5 := blk_frozen BK225.out 5; have hfz80_6 := blk_frozen BK225.out 6; have hfz80_7 := blk_frozen BK225.out 7; have hfz80_8 := blk_frozen BK225.out 8))
  refine bodyPost_ret (results_ct rfl _ _ gb225 33 #[.bool false, .bool false, .bool false, .bool false, .int .i64 0, .int .i64 0, .string (⟨#[]⟩ : ByteArray), .string (⟨#[]⟩ : ByteArray), .slice none 0 0] (0, 0) _ rfl (by (with_reducible repeat (first | refine blk_drewN ?_ _ | refine blk_drew ?_ | refine blk_alloc ?_ _)); refine blk_put (cs := #[.bool false, .bool false, .bool false, .bool false, .int .i64 0, .int .i64 0, .string (⟨#[]⟩ : ByteArray), .string (⟨#[]⟩ : ByteArray), .slice none 0 0]) ?_ 8 _ rfl; (with_reducible repeat (first | refine blk_drewN ?_ _ | refine blk_drew ?_ | refine blk_alloc ?_ _)); refine blk_put (cs := #[.bool false, .bool false, .bool false, .bool false, .int .i64 0, .int .i64 0, .string (⟨#[]⟩ : ByteArray), .string (⟨#[]⟩ : ByteArray), .slice none 0 0]) ?_ 7 _ rfl; (with_reducible repeat (first | refine blk_drewN ?_ _ | refine blk_drew ?_ | refine blk_alloc ?_ _)); refine blk_put (cs := #[.bool false, .bool false, .bool false, .bool false, .int .i64 0, .int .i64 0, .string (⟨#[]⟩ : ByteArray), .string (⟨#[]⟩ : ByteArray), .slice none 0 0]) ?_ 6 _ rfl; (with_reducible repeat (first | refine blk_drewN ?_ _ | refine blk_drew ?_ | refine blk_alloc ?_ _)); refine blk_put (cs := #[.bool false, .bool false, .bool false, .bool false, .int .i64 0, .int .i64 0, .string (⟨#[]⟩ : ByteArray), .string (⟨#[]⟩ : ByteArray), .slice none 0 0]) ?_ 5 _ rfl; (with_reducible repeat (first | refine blk_drewN ?_ _ | refine blk_drew ?_ | refine blk_alloc ?_ _)); refine blk_put (cs := #[.bool false, .bool false, .bool false, .bool false, .int .i64 0, .int .i64 0, .string (⟨#[]⟩ : ByteArray), .string (⟨#[]⟩ : ByteArray), .slice none 0 0]) ?_ 4 _ rfl; (with_reducible repeat (first | refine blk_drewN ?_ _ | refine blk_drew ?_ | refine blk_alloc ?_ _)); refine blk_put (cs := #[.bool false, .bool false, .bool false, .bool false, .int .i64 0, .int .i64 0, .string (⟨#[]⟩ : ByteArray), .string (⟨#[]⟩ : ByteArray), .slice none 0 0]) ?_ 3 _ rfl; (with_reducible repeat (first | refine blk_drewN ?_ _ | refine blk_drew ?_ | refine blk_alloc ?_ _)); refine blk_put (cs := #[.bool false, .bool false, .bool false, .bool false, .int .i64 0, .int .i64 0, .string (⟨#[]⟩ : ByteArray), .string (⟨#[]⟩ : ByteArray), .slice none 0 0]) ?_ 2 _ rfl; (with_reducible repeat (first | refine blk_drewN ?_ _ | refine blk_drew ?_ | refine blk_alloc ?_ _)); refine blk_put (cs := #[.bool false, .bool false, .bool false, .bool false, .int .i64 0, .int .i64 0, .string (⟨#[]⟩ : ByteArray), .string (⟨#[]⟩ : ByteArray), .slice none 0 0]) ?_ 1 _ rfl; (with_reducible repeat (first | refine blk_drewN ?_ _ | refine blk_drew ?_ | refine blk_alloc ?_ _)); refine blk_put (cs := #[.bool false, .bool false, .bool false, .bool false, .int .i64 0, .int .i64 0, .string (⟨#[]⟩ : ByteArray), .string (⟨#[]⟩ : ByteArray), .slice none 0 0]) ?_ 0 _ rfl; (with_reducible repeat (first | refine blk_drewN ?_ _ | refine blk_drew ?_ | refine blk_alloc ?_ _)); exact BK225.out) Tryd.underlying33 rfl (by kernel_rfl)) rfl ?_
  exact ⟨_, by first | rfl | (simp [errW_none, errW_some] <;> rfl) | (simp [*, errW_none, errW_some] <;> rfl) | (simp [bt, *]; done) | (unfold bt; simp [*]; done), by first | exact Kd.R_nil _ _ _ _ _ | exact Kd.N_nil _ _ _ _ _ | exact Kd.V_nil _ _ _ _ _ | exact Kd.Q_nil _ _ _ _ _ | exact Kd.S_nil _ _ _ _ _, by repeat (first | (with_reducible first | exact HB.out | apply below_alloc | apply pw_below_drewN | apply below_drew1 | refine below_set ?_ GE224.out | refine below_set ?_ GE225.out) | exact HB.out)⟩
 subst c4
 have H1 := H
 rw [if_pos rfl] at H1
 clear H
 have H := H1
 clear H1
 have H' := Aside0.mk H
 clear H
 go_enter Tryd.func12, Tryd.ntmps12
 go_wp2_with (first | ((with_reducible refine gate_dst (N := 2) rfl ?_); refine box_event ?hg (N := 2) ?hd (cs := #[.bool a0_0, .bool a0_1, .bool a0_2, .bool a0_3, .int .i64 a0_4, .int .i64 a0_5, .string a0_6, .string a0_7]) (t := 31) ?hr ?_; (case hd => rfl); (case hg => rfl); (case hr => first | (go_simp; done) | (go_simp; rfl)); intro gb224 hg w5 hbox hb; have n0_ := Aside0.mk (below_step (hb_ HB) hb); have n1_ := Aside0.mk (hbox); have n2_ := Aside0.mk ((by rw [hg]; exact (below_size (hb_ HB)) : w.heap.size ≤ gb224)); have n3_ := Aside0.mk ((by rw [hg]; exact (below_size (hb_ HB)) : w.heap.size ≤ gb224)); clear HB; have HB := n0_; have BK224 := n1_; have GW224 := n2_; have GE224 := n3_; clear n0_ n1_ n2_ n3_; clear hb hbox hg) | ((with_reducible refine gate_dst (N := 4) rfl ?_); refine box_event ?hg (N := 4) ?hd (cs := #[.bool false, .bool false, .bool false, .bool false, .int .i64 0, .int .i64 0, .string (⟨#[]⟩ : ByteArray), .string (⟨#[]⟩ : ByteArray), .slice none 0 0]) (t := 33) ?hr ?_; (case hd => rfl); (case hg => rfl); (case hr => first | (go_simp; done) | (go_simp; rfl)); intro gb225 hg w6 hbox hb; have n0_ := Aside0.mk (blk_below (bk_ BK224) hb); have n1_ := Aside0.mk (below_step (hb_ HB) hb); have n2_ := Aside0.mk (hbox); have n3_ := Aside0.mk ((by rw [hg]; exact (below_size (hb_ HB)) : w.heap.size ≤ gb225)); have n4_ := Aside0.mk ((by rw [hg]; exact (below_size (hb_ HB)) : w.heap.size ≤ gb225)); have n5_ := Aside0.mk ((by rw [hg]; exact Nat.ne_of_lt (blk_lt (g := gb224) (o := .cells #[.bool a0_0, .bool a0_1, .bool a0_2, .bool a0_3, .int .i64 a0_4, .int .i64 a0_5, .string a0_6, .string a0_7] 31 (0, 0)) (bk_ BK224)) : gb224 ≠ gb225)); have n6_ := Aside0.mk ((by rw [hg]; exact Nat.ne_of_gt (blk_lt (g := gb224) (o := .cells #[.bool a0_0, .bool a0_1, .bool a0_2, .bool a0_3, .int .i64 a0_4, .int .i64 a0_5, .string a0_6, .string a0_7] 31 (0, 0)) (bk_ BK224)) : gb225 ≠ gb224)); clear BK224; clear HB; have BK224 := n0_; have HB := n1_; have BK225 := n2_; have GW225 := n3_; have GE225 := n4_; have NB224_225 := n5_; have NB225_224 := n6_; clear n0_ n1_ n2_ n3_ n4_ n5_ n6_; clear hb hbox hg) | ((with_reducible refine gate_callee (f := 24) rfl ?_); refine goesL_ (some 10) rfl rfl Tryd.func24 (by kernel_rfl) rfl #[.slice A1 l1.length c1] rfl (by (try simp only [List.map_toArray, List.map_cons, List.map_nil]); first | done | rfl | (simp only [List.length_drop, List.length_take]; rfl)) ?_; (with_reducible refine (headgateref21_Good.calls k _ _ l1 true _ ?side1 ?side2 A3.out).mono ?_); (case side1 => repeat (first | exact (Kd.C_below HR1.out HB.out) | (with_reducible refine Kd.C_alloc ?_ _) | (with_reducible refine Kd.C_drewN ?_ _) | (with_reducible refine Kd.C_drew ?_))); (case side2 => exact HC1.out); rintro e w' ⟨rfl, ⟨nd, rfl⟩⟩; refine ⟨_, rfl, ?_⟩))
 go_loopg [6, 7] k (fun kq v6 v7 w' => ∃ (x6_1 : List (S45)) (x7_1 : Int) (x225000_1 : Bool) (x225001_1 : Bool) (x225002_1 : Bool) (x225003_1 : Bool) (x225004_1 : Int) (x225005_1 : Int) (x225006_1 : ByteArray) (x225007_1 : ByteArray) (x226000_1 : Bool) (x226001_1 : Bool) (x226002_1 : Bool) (x226003_1 : Bool) (x226004_1 : Int) (x226005_1 : Int) (x226006_1 : ByteArray) (x226007_1 : ByteArray), v7 = .int .i64 x7_1 ∧ Aside0 (headgateref21_Answer.l0 kq l1 x6_1 x7_1 x225000_1 x225001_1 x225002_1 x225003_1 x225004_1 x225005_1 x225006_1 x225007_1 = some (r1, r2, r3, r4, r5, r6, r7, r8, r9, r10)) ∧ Aside0 (kq ≤ k) ∧ Aside0 (Kd.R k45 45 w' w.heap.size (fun _ => True) v6 x6_1) ∧ Aside0 (w'.heap[gb224]? = some (.cells #[.bool x225000_1, .bool x225001_1, .bool x225002_1, .bool x225003_1, .int .i64 x225004_1, .int .i64 x225005_1, .string x225006_1, .string x225007_1] 31 (0, 0))) ∧ Aside0 (w'.heap[gb225]? = some (.cells #[.bool x226000_1, .bool x226001_1, .bool x226002_1, .bool x226003_1, .int .i64 x226004_1, .int .i64 x226005_1, .string x226006_1, .string x226007_1, (.slice none 0 0)] 33 (0, 0))) ∧ Aside0 (Below w.heap.size w w'))
 case atStart => exact ⟨(([] : List (S45))), (0), (a0_0), (a0_1), (a0_2), (a0_3), (a0_4), (a0_5), (a0_6), (a0_7), (false), (false), (false), (false), (0), (0), ((⟨#[]⟩ : ByteArray)), ((⟨#[]⟩ : ByteArray)), (by first | rfl | (simp; done) | (simp [*]; done)), H', ⟨Nat.le_refl _⟩, ⟨by first | exact Kd.R_nil _ _ _ _ _ | exact Kd.N_nil _ _ _ _ _ | exact Kd.V_nil _ _ _ _ _ | exact Kd.Q_nil _ _ _ _ _ | exact Kd.S_nil _ _ _ _ _⟩, ⟨bk_ BK224⟩, ⟨bk_ BK225⟩, ⟨hb_ HB⟩⟩
 case round =>
  clear H'
  try clear c1
  try clear c2
  try clear p2
  try clear c4
  obtain ⟨x6_1, x7_1, x225000_1, x225001_1, x225002_1, x225003_1, x225004_1, x225005_1, x225006_1, x225007_1, x226000_1, x226001_1, x226002_1, x226003_1, x226004_1, x226005_1, x226006_1, x226007_1, rfl, HA, HK1, HO_6, BK224, BK225, HB⟩ := hrel
  cases gk with
  | zero => exact absurd HA.out (by simp [headgateref21_Answer.l0])
  | succ k1 =>
   have H := HA.out
   clear HA
   simp only [headgateref21_Answer.l0] at H
   refine neg_first (p := (x7_1 < (l1.length : Int))) (fun c7 => ?_) (fun c7 => ?_)
   ·rw [if_neg c7] at H
    have c7b0 : decide (x7_1 < (l1.length : Int)) = false := decide_eq_false c7
    clear c7
    simp only [Option.some.injEq, Prod.mk.injEq] at H
    obtain ⟨rfl, rfl, rfl, rfl, rfl, rfl, rfl, rfl, rfl, rfl⟩ := H
    have hnb73 := NB224_225.out
    have hnc73 := NB225_224.out
    have hcz74_0 : wr.cell? ⟨gb224, 0, none⟩ = some (.bool x225000_1) := (blk_cell BK224.out 0).trans rfl
    have hcz74_1 : wr.cell? ⟨gb224, 1, none⟩ = some (.bool x225001_1) := (blk_cell BK224.out 1).trans rfl
    have hcz74_2 : wr.cell? ⟨gb224, 2, none⟩ = some (.bool x225002_1) := (blk_cell BK224.out 2).trans rfl
    have hcz74_3 : wr.cell? ⟨gb224, 3, none⟩ = some (.bool x225003_1) := (blk_cell BK224.out 3).trans rfl
    have hcz74_4 : wr.cell? ⟨gb224, 4, none⟩ = some (.int .i64 x225004_1) := (blk_cell BK224.out 4).trans rfl
    have hcz74_5 : wr.cell? ⟨gb224, 5, none⟩ = some (.int .i64 x225005_1) := (blk_cell BK224.out 5).trans rfl
    have hcz74_6 : wr.cell? ⟨gb224, 6, none⟩ = some (.string x225006_1) := (blk_cell BK224.out 6).trans rfl
    have hcz74_7 : wr.cell? ⟨gb224, 7, none⟩ = some (.string x225007_1) := (blk_cell BK224.out 7).trans rfl
    have hfz74_0 := blk_frozen BK224.out 0
    have hfz74_1 := blk_frozen BK224.out 1
    have hfz74_2 := blk_frozen BK224.out 2
    have hfz74_3 := blk_frozen BK224.out 3
    have hfz74_4 := blk_frozen BK224.out 4
    have hfz74_5 := blk_frozen BK224.out 5
    have hfz74_6 := blk_frozen BK224.out 6
    have hfz74_7 := blk_frozen BK224.out 7
    obtain ⟨Ao75, co75, eo75⟩ := Kd.R_slice HO_6.out
    subst eo75
    have hcz76_0 : wr.cell? ⟨gb225, 0, none⟩ = some (.bool x226000_1) := (blk_cell BK225.out 0).trans rfl
    have hcz76_1 : wr.cell? ⟨gb225, 1, none⟩ = some (.bool x226001_1) := (blk_cell BK225.out 1).trans rfl
    have hcz76_2 : wr.cell? ⟨gb225, 2, none⟩ = some (.bool x226002_1) := (blk_cell BK225.out 2).trans rfl
    have hcz76_3 : wr.cell? ⟨gb225, 3, none⟩ = some (.bool x226003_1) := (blk_cell BK225.out 3).trans rfl
    have hcz76_4 : wr.cell? ⟨gb225, 4, none⟩ = some (.int .i64 x226004_1) := (blk_cell BK225.out 4).trans rfl
    have hcz76_5 : wr.cell? ⟨gb225, 5, none⟩ = some (.int .i64 x226005_1) := (blk_cell BK225.out 5).trans rfl
    have hcz76_6 : wr.cell? ⟨gb225, 6, none⟩ = some (.string x226006_1) := (blk_cell BK225.out 6).trans rfl
    have hcz76_7 : wr.cell? ⟨gb225, 7, none⟩ = some (.string x226007_1) := (blk_cell BK225.out 7).trans rfl
    have hcz76_8 : wr.cell? ⟨gb225, 8, none⟩ = some (.slice none 0 0) := (blk_cell BK225.out 8).trans rfl
    have hfz76_0 := blk_frozen BK225.out 0
    have hfz76_1 := blk_frozen BK225.out 1
    have hfz76_2 := blk_frozen BK225.out 2
    have hfz76_3 := blk_frozen BK225.out 3
    have hfz76_4 := blk_frozen BK225.out 4
    have hfz76_5 := blk_frozen BK225.out 5
    have hfz76_6 := blk_frozen BK225.out 6
    have hfz76_7 := blk_frozen BK225.out 7
    have hfz76_8 := blk_frozen BK225.out 8
    go_wp2
    refine bodyPost_ret (results_ct rfl _ _ gb225 33 #[.bool x225000_1, .bool x225001_1, .bool x225002_1, .bool x225003_1, .int .i64 x225004_1, .int .i64 x225005_1, .string x225006_1, .string x225007_1, .slice Ao75 x6_1.length co75] (0, 0) _ rfl (by (with_reducible repeat (first | refine blk_drewN ?_ _ | refine blk_drew ?_ | refine blk_alloc ?_ _)); refine blk_put (cs := #[.bool x225000_1, .bool x225001_1, .bool x225002_1, .bool x225003_1, .int .i64 x225004_1, .int .i64 x225005_1, .string x225006_1, .string x225007_1, .slice none 0 0]) ?_ 8 _ rfl; (with_reducible repeat (first | refine blk_drewN ?_ _ | refine blk_drew ?_ | refine blk_alloc ?_ _)); refine blk_put (cs := #[.bool x225000_1, .bool x225001_1, .bool x225002_1, .bool x225003_1, .int .i64 x225004_1, .int .i64 x225005_1, .string x225006_1, .string x226007_1, .slice none 0 0]) ?_ 7 _ rfl; (with_reducible repeat (first | refine blk_drewN ?_ _ | refine blk_drew ?_ | refine blk_alloc ?_ _)); refine blk_put (cs := #[.bool x225000_1, .bool x225001_1, .bool x225002_1, .bool x225003_1, .int .i64 x225004_1, .int .i64 x225005_1, .string x226006_1, .string x226007_1, .slice none 0 0]) ?_ 6 _ rfl; (with_reducible repeat (first | refine blk_drewN ?_ _ | refine blk_drew ?_ | refine blk_alloc ?_ _)); refine blk_put (cs := #[.bool x225000_1, .bool x225001_1, .bool x225002_1, .bool x225003_1, .int .i64 x225004_1, .int .i64 x226005_1, .string x226006_1, .string x226007_1, .slice none 0 0]) ?_ 5 _ rfl; (with_reducible repeat (first | refine blk_drewN ?_ _ | refine blk_drew ?_ | refine blk_alloc ?_ _)); refine blk_put (cs := #[.bool x225000_1, .bool x225001_1, .bool x225002_1, .bool x225003_1, .int .i64 x226004_1, .int .i64 x226005_1, .string x226006_1, .string x226007_1, .slice none 0 0]) ?_ 4 _ rfl; (with_reducible repeat (first | refine blk_drewN ?_ _ | refine blk_drew ?_ | refine blk_alloc ?_ _)); refine blk_put (cs := #[.bool x225000_1, .bool x225001_1, .bool x225002_1, .bool x226003_1, .int .i64 x226004_1, .int .i64 x226005_1, .string x226006_1, .string x226007_1, .slice none 0 0]) ?_ 3 _ rfl; (with_reducible repeat (first | refine blk_drewN ?_ _ | refine blk_drew ?_ | refine blk_alloc ?_ _)); refine blk_put (cs := #[.bool x225000_1, .bool x225001_1, .bool x226002_1, .bool x226003_1, .int .i64 x226004_1, .int .i64 x226005_1, .string x226006_1, .string x226007_1, .slice none 0 0]) ?_ 2 _ rfl; (with_reducible repeat (first | refine blk_drewN ?_ _ | refine blk_drew ?_ | refine blk_alloc ?_ _)); refine blk_put (cs := #[.bool x225000_1, .bool x226001_1, .bool x226002_1, .bool x226003_1, .int .i64 x226004_1, .int .i64 x226005_1, .string x226006_1, .string x226007_1, .slice none 0 0]) ?_ 1 _ rfl; (with_reducible repeat (first | refine blk_drewN ?_ _ | refine blk_drew ?_ | refine blk_alloc ?_ _)); refine blk_put (cs := #[.bool x226000_1, .bool x226001_1, .bool x226002_1, .bool x226003_1, .int .i64 x226004_1, .int .i64 x226005_1, .string x226006_1, .string x226007_1, .slice none 0 0]) ?_ 0 _ rfl; (with_reducible repeat (first | refine blk_drewN ?_ _ | refine blk_drew ?_ | refine blk_alloc ?_ _)); exact BK225.out) Tryd.underlying33 rfl (by kernel_rfl)) rfl ?_
    exact ⟨_, by first | rfl | (simp [errW_none, errW_some] <;> rfl) | (simp [*, errW_none, errW_some] <;> rfl) | (simp [bt, *]; done) | (unfold bt; simp [*]; done), by (with_reducible repeat (first | apply Kd.R_alloc | apply Kd.R_drewN | apply Kd.R_drew)); exact Kd.R_mono (Kd.R_far (p := ⟨gb225, 8, none⟩) (Kd.R_far (p := ⟨gb225, 7, none⟩) (Kd.R_far (p := ⟨gb225, 6, none⟩) (Kd.R_far (p := ⟨gb225, 5, none⟩) (Kd.R_far (p := ⟨gb225, 4, none⟩) (Kd.R_far (p := ⟨gb225, 3, none⟩) (Kd.R_far (p := ⟨gb225, 2, none⟩) (Kd.R_far (p := ⟨gb225, 1, none⟩) (Kd.R_far (p := ⟨gb225, 0, none⟩) (Kd.R_types HO_6.out BK225.out (by decide)) (fun _ hk => hk.2) (.bool x225000_1)) (fun _ hk => hk.2) (.bool x225001_1)) (fun _ hk => hk.2) (.bool x225002_1)) (fun _ hk => hk.2) (.bool x225003_1)) (fun _ hk => hk.2) (.int .i64 x225004_1)) (fun _ hk => hk.2) (.int .i64 x225005_1)) (fun _ hk => hk.2) (.string x225006_1)) (fun _ hk => hk.2) (.string x225007_1)) (fun _ hk => hk.2) (.slice Ao75 x6_1.length co75)) (fun _ hk => trivial), by repeat (first | (with_reducible first | exact HB.out | apply below_alloc | apply pw_below_drewN | apply below_drew1 | refine below_set ?_ GE224.out | refine below_set ?_ GE225.out) | exact HB.out)⟩
   rw [if_pos c7] at H
   have c7b0 : decide (x7_1 < (l1.length : Int)) = true := decide_eq_true c7
   clear c7
   refine neg_first (p := (0 ≤ x7_1)) (fun c8 => ?_) (fun c8 => ?_)
   ·rw [if_neg c8] at H
    exact absurd H (by simp)
   rw [if_pos c8] at H
   have c8b0 : decide (0 ≤ x7_1) = true := decide_eq_true c8
   clear c8
   replace H := Option.bind_eq_some_iff.mp H
   obtain ⟨⟨t228, t229, t230, t231, t232, t233, t234, t235, t236, t237⟩, A90, H⟩ := H
   try dsimp only at H
   have A9 := Aside0.mk A90
   clear A90
   refine neg_first (p := (t237 = true)) (fun c10 => ?_) (fun c10 => ?_)
   ·replace c10 := Bool.eq_false_iff.mpr c10
    subst c10
    have H1 := H
    rw [if_neg (show ¬ (false = true) by decide)] at H1
    clear H
    have H := H1
    clear H1
    simp only [Option.some.injEq, Prod.mk.injEq] at H
    obtain ⟨rfl, rfl, rfl, rfl, rfl, rfl, rfl, rfl, rfl, rfl⟩ := H
    try go_wp2
    have n0_ := Aside0.mk (Kd.R_drew HO_6.out)
    have n1_ := Aside0.mk (blk_drew BK224.out)
    have n2_ := Aside0.mk (blk_drew BK225.out)
    have n3_ := Aside0.mk (below_drew1 HB.out)
    clear HO_6
    clear BK224
    clear BK225
    clear HB
    have HO_6 := n0_
    have BK224 := n1_
    have BK225 := n2_
    have HB := n3_
    clear n0_ n1_ n2_ n3_
    have p227 : 0 ≤ (x7_1 : Int) := of_decide_eq_true (by first | (with_reducible assumption) | assumption)
    have q227 : x7_1 < (l1.length : Int) := of_decide_eq_true (by first | (with_reducible assumption) | assumption)
    obtain ⟨ad227, e227, hx227_0, hx227_1⟩ := at_T45 HR1.out x7_1 p227 q227
    have hw227_1 := hx227_1
    have hw227_0 := hx227_0
    cases e227
    replace hx227_0 := (HB.out.cell (World.block_lt_of_cell? w _ hx227_0)).trans hx227_0
    replace hx227_1 := (HB.out.cell (World.block_lt_of_cell? w _ hx227_1)).trans hx227_1
    replace p227 := eq_true p227
    replace q227 := eq_true q227
    refine start_ (n := 8) (S := fun w' => w'.cell? ⟨gb224, 0, none⟩ = some (.bool x225000_1) ∧ w'.cell? ⟨gb224, 1, none⟩ = some (.bool x225001_1) ∧ w'.cell? ⟨gb224, 2, none⟩ = some (.bool x225002_1) ∧ w'.cell? ⟨gb224, 3, none⟩ = some (.bool x225003_1) ∧ w'.cell? ⟨gb224, 4, none⟩ = some (.int .i64 x225004_1) ∧ w'.cell? ⟨gb224, 5, none⟩ = some (.int .i64 x225005_1) ∧ w'.cell? ⟨gb224, 6, none⟩ = some (.string x225006_1) ∧ w'.cell? ⟨gb224, 7, none⟩ = some (.string x225007_1) ∧ w'.cell? (ad227.add ((x7_1).toNat * 2)) = some (.string ((rd_T45 l1 x7_1).f0)) ∧ w'.cell? ⟨(ad227.add ((x7_1).toNat * 2)).block, (ad227.add ((x7_1).toNat * 2)).off + 1, none⟩ = some (.string ((rd_T45 l1 x7_1).f1))) (ds := []) d12x1 (by kernel_rfl) rfl rfl ⟨(blk_cell BK224.out 0).trans rfl, (blk_cell BK224.out 1).trans rfl, (blk_cell BK224.out 2).trans rfl, (blk_cell BK224.out 3).trans rfl, (blk_cell BK224.out 4).trans rfl, (blk_cell BK224.out 5).trans rfl, (blk_cell BK224.out 6).trans rfl, (blk_cell BK224.out 7).trans rfl, ((HB.out.cell (World.block_lt_of_cell? w _ hw227_0)).trans hw227_0), ((HB.out.cell (World.block_lt_of_cell? w _ hw227_1)).trans hw227_1)⟩ (fun hHeld => ?_); refine with_tabW headgateref21_Answer.tab7 headgateref21_Answer.bits7 (fun HT_ HW_ => ?_)
    generalize wr.drew = w54 at HO_6 BK224 BK225 HB hx227_0 hx227_1 hHeld ⊢
    refine pon_ 1 (some 20) d12x2 HT_.out ?_
    refine pon_ 2 (some 21) d12x3 HT_.out ?_
    refine pon_ 3 (some 22) d12x4 HT_.out ?_
    refine ptk_ 0 (some 19) d12x9 HT_.out HW_.out hHeld ?_
    refine ptk_ 4 (some 23) d12x11 HT_.out HW_.out hHeld ?_
    refine join_ (σ := Nat) 1 d12x16 (fun s_ => [(24, .agg #[.bool t228, .bool t229, .bool t230, .bool t231, .int .i64 t232, .int .i64 t233, .string t234, .string t235, .string t236, .bool false]), (8, .pointer (some ⟨s_, 0, none⟩))]) (fun s_ w' => (w'.cell? ⟨gb224, 0, none⟩ = some (.bool x225000_1) ∧ w'.cell? ⟨gb224, 1, none⟩ = some (.bool x225001_1) ∧ w'.cell? ⟨gb224, 2, none⟩ = some (.bool x225002_1) ∧ w'.cell? ⟨gb224, 3, none⟩ = some (.bool x225003_1) ∧ w'.cell? ⟨gb224, 4, none⟩ = some (.int .i64 x225004_1) ∧ w'.cell? ⟨gb224, 5, none⟩ = some (.int .i64 x225005_1) ∧ w'.cell? ⟨gb224, 6, none⟩ = some (.string x225006_1) ∧ w'.cell? ⟨gb224, 7, none⟩ = some (.string x225007_1) ∧ w'.cell? (ad227.add ((x7_1).toNat * 2)) = some (.string ((rd_T45 l1 x7_1).f0)) ∧ w'.cell? ⟨(ad227.add ((x7_1).toNat * 2)).block, (ad227.add ((x7_1).toNat * 2)).off + 1, none⟩ = some (.string ((rd_T45 l1 x7_1).f1))) ∧ (Kd.R k45 45 w' w.heap.size (fun _ => True) u6 x6_1) ∧ (w'.heap[gb224]? = some (.cells #[.bool x225000_1, .bool x225001_1, .bool x225002_1, .bool x225003_1, .int .i64 x225004_1, .int .i64 x225005_1, .string x225006_1, .string x225007_1] 31 (0, 0))) ∧ (w'.heap[gb225]? = some (.cells #[.bool x226000_1, .bool x226001_1, .bool x226002_1, .bool x226003_1, .int .i64 x226004_1, .int .i64 x226005_1, .string x226006_1, .string x226007_1, .slice none 0 0] 33 (0, 0))) ∧ (w'.heap[s_]? = some (.cells #[.bool false, .bool false, .bool false, .bool false, .int .i64 0, .int .i64 0, .string (⟨#[]⟩ : ByteArray), .string (⟨#[]⟩ : ByteArray), .string (⟨#[]⟩ : ByteArray), .bool false] 63 (0, 0))) ∧ (w.heap.size ≤ s_) ∧ (w.heap.size ≤ s_) ∧ (gb224 ≠ s_) ∧ (s_ ≠ gb224) ∧ (gb225 ≠ s_) ∧ (s_ ≠ gb225) ∧ (Below w.heap.size w w')) ?_ ?_
    rotate_left
    ·intro hCont
     refine two_ (i := 5) (j := 6) (Ni := some 24) (Nj := some 8) d12x14 d12x13 rfl rfl rfl rfl (two_of HT_.out (by kernel_rfl)) (by decide) (by decide) (fun K hK => ?_) (fun K hK => ?_)
     ·skip
      refine goes_ Tryd.func25 (by kernel_rfl) rfl #[.agg #[.bool x225000_1, .bool x225001_1, .bool x225002_1, .bool x225003_1, .int .i64 x225004_1, .int .i64 x225005_1, .string x225006_1, .string x225007_1], .agg #[.string ((rd_T45 l1 x7_1).f0), .string ((rd_T45 l1 x7_1).f1)]] (by rfl) rfl rfl (by (try simp only [List.map_toArray, List.map_cons, List.map_nil]); first | done | rfl | (simp only [List.length_drop, List.length_take]; rfl)) ?_
      with_reducible refine (headgateref21_one.calls k1 x225000_1 x225001_1 x225002_1 x225003_1 x225004_1 x225005_1 x225006_1 x225007_1 ((rd_T45 l1 x7_1).f0) ((rd_T45 l1 x7_1).f1) t228 t229 t230 t231 t232 t233 t234 t235 t236 false _ A9.out).mono ?_
      rintro e w55 ⟨rfl, hb⟩
      refine ⟨_, rfl, ?_⟩
      have n0_ := Aside0.mk (Kd.R_below (by (with_reducible repeat (first | apply Kd.R_alloc | apply Kd.R_drewN | apply Kd.R_drew)); exact HO_6.out) hb)
      have n1_ := Aside0.mk (blk_below (bk_ BK224) hb)
      have n2_ := Aside0.mk (blk_below (bk_ BK225) hb)
      have n3_ := Aside0.mk (below_step (hb_ HB) hb)
      clear HO_6
      clear BK224
      clear BK225
      clear HB
      have HO_6 := n0_
      have BK224 := n1_
      have BK225 := n2_
      have HB := n3_
      clear n0_ n1_ n2_ n3_
      (try clear hb)
      (try clear hb2)
      (try clear hk)
      (try clear hi)
      refine hK.out _ _ ⟨(blk_cell BK224.out 0).trans rfl, (blk_cell BK224.out 1).trans rfl, (blk_cell BK224.out 2).trans rfl, (blk_cell BK224.out 3).trans rfl, (blk_cell BK224.out 4).trans rfl, (blk_cell BK224.out 5).trans rfl, (blk_cell BK224.out 6).trans rfl, (blk_cell BK224.out 7).trans rfl, ((HB.out.cell (World.block_lt_of_cell? w _ hw227_0)).trans hw227_0), ((HB.out.cell (World.block_lt_of_cell? w _ hw227_1)).trans hw227_1)⟩ (fun hHeld => ?_)
      clear hK K
      refine norm_ (a' := ?_) ?_ ?_
      rotate_left
      ·show Act.put _ (some 24) _ = _
       simp only [Act.put, la_, lb_, lc_, i64_w, i32_w]
       rfl
      refine one_ (i := 6) (N := some 8) d12x16 rfl rfl (one_of HT_.out (by kernel_rfl)) (by decide) (fun K hK => ?_)
      refine box_step ?hg (N := 8) ?hd (cs := #[.bool false, .bool false, .bool false, .bool false, .int .i64 0, .int .i64 0, .string (⟨#[]⟩ : ByteArray), .string (⟨#[]⟩ : ByteArray), .string (⟨#[]⟩ : ByteArray), .bool false]) (t := 63) ?hr ?_; (case hd => rfl); (case hg => rfl); (case hr => first | (go_simp; done) | (go_simp; rfl))
      intro gb238 hg w56 hbox hb
      have n0_ := Aside0.mk (Kd.R_below (by (with_reducible repeat (first | apply Kd.R_alloc | apply Kd.R_drewN | apply Kd.R_drew)); exact HO_6.out) hb)
      have n1_ := Aside0.mk (blk_below (bk_ BK224) hb)
      have n2_ := Aside0.mk (blk_below (bk_ BK225) hb)
      have n3_ := Aside0.mk (below_step (hb_ HB) hb)
      have n4_ := Aside0.mk (hbox)
      have n5_ := Aside0.mk ((by rw [hg]; exact (below_size (hb_ HB)) : w.heap.size ≤ gb238))
      have n6_ := Aside0.mk ((by rw [hg]; exact (below_size (hb_ HB)) : w.heap.size ≤ gb238))
      have n7_ := Aside0.mk ((by rw [hg]; exact Nat.ne_of_lt (blk_lt (g := gb224) (o := .cells #[.bool x225000_1, .bool x225001_1, .bool x225002_1, .bool x225003_1, .int .i64 x225004_1, .int .i64 x225005_1, .string x225006_1, .string x225007_1] 31 (0, 0)) (bk_ BK224)) : gb224 ≠ gb238))
      have n8_ := Aside0.mk ((by rw [hg]; exact Nat.ne_of_gt (blk_lt (g := gb224) (o := .cells #[.bool x225000_1, .bool x225001_1, .bool x225002_1, .bool x225003_1, .int .i64 x225004_1, .int .i64 x225005_1, .string x225006_1, .string x225007_1] 31 (0, 0)) (bk_ BK224)) : gb238 ≠ gb224))
      have n9_ := Aside0.mk ((by rw [hg]; exact Nat.ne_of_lt (blk_lt (g := gb225) (o := .cells #[.bool x226000_1, .bool x226001_1, .bool x226002_1, .bool x226003_1, .int .i64 x226004_1, .int .i64 x226005_1, .string x226006_1, .string x226007_1, .slice none 0 0] 33 (0, 0)) (bk_ BK225)) : gb225 ≠ gb238))
      have n10_ := Aside0.mk ((by rw [hg]; exact Nat.ne_of_gt (blk_lt (g := gb225) (o := .cells #[.bool x226000_1, .bool x226001_1, .bool x226002_1, .bool x226003_1, .int .i64 x226004_1, .int .i64 x226005_1, .string x226006_1, .string x226007_1, .slice none 0 0] 33 (0, 0)) (bk_ BK225)) : gb238 ≠ gb225))
      clear HO_6
      clear BK224
      clear BK225
      clear HB
      have HO_6 := n0_
      have BK224 := n1_
      have BK225 := n2_
      have HB := n3_
      have BK238 := n4_
      have GW238 := n5_
      have GE238 := n6_
      have NB224_238 := n7_
      have NB238_224 := n8_
      have NB225_238 := n9_
      have NB238_225 := n10_
      clear n0_ n1_ n2_ n3_ n4_ n5_ n6_ n7_ n8_ n9_ n10_
      clear hb hbox hg
      refine hK.out _ _ ⟨(blk_cell BK224.out 0).trans rfl, (blk_cell BK224.out 1).trans rfl, (blk_cell BK224.out 2).trans rfl, (blk_cell BK224.out 3).trans rfl, (blk_cell BK224.out 4).trans rfl, (blk_cell BK224.out 5).trans rfl, (blk_cell BK224.out 6).trans rfl, (blk_cell BK224.out 7).trans rfl, ((HB.out.cell (World.block_lt_of_cell? w _ hw227_0)).trans hw227_0), ((HB.out.cell (World.block_lt_of_cell? w _ hw227_1)).trans hw227_1)⟩ (fun hHeld => ?_)
      clear hK K
      refine norm_ (a' := ?_) ?_ ?_
      rotate_left
      ·show Act.put _ (some 8) _ = _
       simp only [Act.put, la_, lb_, lc_, i64_w, i32_w]
       rfl
      exact norm_ (by simp only [putAll, Act.put, la_, lb_, lc_]) (hCont (gb238) _ ⟨hHeld, (by (with_reducible repeat (first | apply Kd.R_alloc | apply Kd.R_drewN | apply Kd.R_drew)); exact HO_6.out), (bk_ BK224), (bk_ BK225), (bk_ BK238), GW238.out, GE238.out, NB224_238.out, NB238_224.out, NB225_238.out, NB238_225.out, (hb_ HB)⟩)
     ·skip
      refine box_step ?hg (N := 8) ?hd (cs := #[.bool false, .bool false, .bool false, .bool false, .int .i64 0, .int .i64 0, .string (⟨#[]⟩ : ByteArray), .string (⟨#[]⟩ : ByteArray), .string (⟨#[]⟩ : ByteArray), .bool false]) (t := 63) ?hr ?_; (case hd => rfl); (case hg => rfl); (case hr => first | (go_simp; done) | (go_simp; rfl))
      intro gb238 hg w55 hbox hb
      have n0_ := Aside0.mk (Kd.R_below (by (with_reducible repeat (first | apply Kd.R_alloc | apply Kd.R_drewN | apply Kd.R_drew)); exact HO_6.out) hb)
      have n1_ := Aside0.mk (blk_below (bk_ BK224) hb)
      have n2_ := Aside0.mk (blk_below (bk_ BK225) hb)
      have n3_ := Aside0.mk (below_step (hb_ HB) hb)
      have n4_ := Aside0.mk (hbox)
      have n5_ := Aside0.mk ((by rw [hg]; exact (below_size (hb_ HB)) : w.heap.size ≤ gb238))
      have n6_ := Aside0.mk ((by rw [hg]; exact (below_size (hb_ HB)) : w.heap.size ≤ gb238))
      have n7_ := Aside0.mk ((by rw [hg]; exact Nat.ne_of_lt (blk_lt (g := gb224) (o := .cells #[.bool x225000_1, .bool x225001_1, .bool x225002_1, .bool x225003_1, .int .i64 x225004_1, .int .i64 x225005_1, .string x225006_1, .string x225007_1] 31 (0, 0)) (bk_ BK224)) : gb224 ≠ gb238))
      have n8_ := Aside0.mk ((by rw [hg]; exact Nat.ne_of_gt (blk_lt (g := gb224) (o := .cells #[.bool x225000_1, .bool x225001_1, .bool x225002_1, .bool x225003_1, .int .i64 x225004_1, .int .i64 x225005_1, .string x225006_1, .string x225007_1] 31 (0, 0)) (bk_ BK224)) : gb238 ≠ gb224))
      have n9_ := Aside0.mk ((by rw [hg]; exact Nat.ne_of_lt (blk_lt (g := gb225) (o := .cells #[.bool x226000_1, .bool x226001_1, .bool x226002_1, .bool x226003_1, .int .i64 x226004_1, .int .i64 x226005_1, .string x226006_1, .string x226007_1, .slice none 0 0] 33 (0, 0)) (bk_ BK225)) : gb225 ≠ gb238))
      have n10_ := Aside0.mk ((by rw [hg]; exact Nat.ne_of_gt (blk_lt (g := gb225) (o := .cells #[.bool x226000_1, .bool x226001_1, .bool x226002_1, .bool x226003_1, .int .i64 x226004_1, .int .i64 x226005_1, .string x226006_1, .string x226007_1, .slice none 0 0] 33 (0, 0)) (bk_ BK225)) : gb238 ≠ gb225))
      clear HO_6
      clear BK224
      clear BK225
      clear HB
      have HO_6 := n0_
      have BK224 := n1_
      have BK225 := n2_
      have HB := n3_
      have BK238 := n4_
      have GW238 := n5_
      have GE238 := n6_
      have NB224_238 := n7_
      have NB238_224 := n8_
      have NB225_238 := n9_
      have NB238_225 := n10_
      clear n0_ n1_ n2_ n3_ n4_ n5_ n6_ n7_ n8_ n9_ n10_
      clear hb hbox hg
      refine hK.out _ _ ⟨(blk_cell BK224.out 0).trans rfl, (blk_cell BK224.out 1).trans rfl, (blk_cell BK224.out 2).trans rfl, (blk_cell BK224.out 3).trans rfl, (blk_cell BK224.out 4).trans rfl, (blk_cell BK224.out 5).trans rfl, (blk_cell BK224.out 6).trans rfl, (blk_cell BK224.out 7).trans rfl, ((HB.out.cell (World.block_lt_of_cell? w _ hw227_0)).trans hw227_0), ((HB.out.cell (World.block_lt_of_cell? w _ hw227_1)).trans hw227_1)⟩ (fun hHeld => ?_)
      clear hK K
      refine norm_ (a' := ?_) ?_ ?_
      rotate_left
      ·show Act.put _ (some 8) _ = _
       simp only [Act.put, la_, lb_, lc_, i64_w, i32_w]
       rfl
      refine one_ (i := 5) (N := some 24) d12x16 rfl rfl (one_of HT_.out (by kernel_rfl)) (by decide) (fun K hK => ?_)
      refine goes_ Tryd.func25 (by kernel_rfl) rfl #[.agg #[.bool x225000_1, .bool x225001_1, .bool x225002_1, .bool x225003_1, .int .i64 x225004_1, .int .i64 x225005_1, .string x225006_1, .string x225007_1], .agg #[.string ((rd_T45 l1 x7_1).f0), .string ((rd_T45 l1 x7_1).f1)]] (by rfl) rfl rfl (by (try simp only [List.map_toArray, List.map_cons, List.map_nil]); first | done | rfl | (simp only [List.length_drop, List.length_take]; rfl)) ?_
      with_reducible refine (headgateref21_one.calls k1 x225000_1 x225001_1 x225002_1 x225003_1 x225004_1 x225005_1 x225006_1 x225007_1 ((rd_T45 l1 x7_1).f0) ((rd_T45 l1 x7_1).f1) t228 t229 t230 t231 t232 t233 t234 t235 t236 false _ A9.out).mono ?_
      rintro e w56 ⟨rfl, hb⟩
      refine ⟨_, rfl, ?_⟩
      have n0_ := Aside0.mk (Kd.R_below (by (with_reducible repeat (first | apply Kd.R_alloc | apply Kd.R_drewN | apply Kd.R_drew)); exact HO_6.out) hb)
      have n1_ := Aside0.mk (blk_below (bk_ BK224) hb)
      have n2_ := Aside0.mk (blk_below (bk_ BK225) hb)
      have n3_ := Aside0.mk (blk_below (bk_ BK238) hb)
      have n4_ := Aside0.mk (below_step (hb_ HB) hb)
      clear HO_6
      clear BK224
      clear BK225
      clear BK238
      clear HB
      have HO_6 := n0_
      have BK224 := n1_
      have BK225 := n2_
      have BK238 := n3_
      have HB := n4_
      clear n0_ n1_ n2_ n3_ n4_
      (try clear hb)
      (try clear hb2)
      (try clear hk)
      (try clear hi)
      refine hK.out _ _ ⟨(blk_cell BK224.out 0).trans rfl, (blk_cell BK224.out 1).trans rfl, (blk_cell BK224.out 2).trans rfl, (blk_cell BK224.out 3).trans rfl, (blk_cell BK224.out 4).trans rfl, (blk_cell BK224.out 5).trans rfl, (blk_cell BK224.out 6).trans rfl, (blk_cell BK224.out 7).trans rfl, ((HB.out.cell (World.block_lt_of_cell? w _ hw227_0)).trans hw227_0), ((HB.out.cell (World.block_lt_of_cell? w _ hw227_1)).trans hw227_1)⟩ (fun hHeld => ?_)
      clear hK K
      refine norm_ (a' := ?_) ?_ ?_
      rotate_left
      ·show Act.put _ (some 24) _ = _
       simp only [Act.put, la_, lb_, lc_, i64_w, i32_w]
       rfl
      exact norm_ (by simp only [putAll, Act.put, la_, lb_, lc_]) (hCont (gb238) _ ⟨hHeld, (by (with_reducible repeat (first | apply Kd.R_alloc | apply Kd.R_drewN | apply Kd.R_drew)); exact HO_6.out), (bk_ BK224), (bk_ BK225), (bk_ BK238), GW238.out, GE238.out, NB224_238.out, NB238_224.out, NB225_238.out, NB238_225.out, (hb_ HB)⟩)
    rintro gb238 w57 ⟨hS_, h0_, h1_, h2_, h3_, h4_, h5_, h6_, h7_, h8_, h9_, h10_⟩
    have n0_ : Aside0 (Kd.R k45 45 w57 w.heap.size (fun _ => True) u6 x6_1) := ⟨h0_⟩
    have n1_ : Aside0 (w57.heap[gb224]? = some (.cells #[.bool x225000_1, .bool x225001_1, .bool x225002_1, .bool x225003_1, .int .i64 x225004_1, .int .i64 x225005_1, .string x225006_1, .string x225007_1] 31 (0, 0))) := ⟨h1_⟩
    have n2_ : Aside0 (w57.heap[gb225]? = some (.cells #[.bool x226000_1, .bool x226001_1, .bool x226002_1, .bool x226003_1, .int .i64 x226004_1, .int .i64 x226005_1, .string x226006_1, .string x226007_1, .slice none 0 0] 33 (0, 0))) := ⟨h2_⟩
    have n3_ : Aside0 (w57.heap[gb238]? = some (.cells #[.bool false, .bool false, .bool false, .bool false, .int .i64 0, .int .i64 0, .string (⟨#[]⟩ : ByteArray), .string (⟨#[]⟩ : ByteArray), .string (⟨#[]⟩ : ByteArray), .bool false] 63 (0, 0))) := ⟨h3_⟩
    have n4_ : Aside0 (w.heap.size ≤ gb238) := ⟨h4_⟩
    have n5_ : Aside0 (w.heap.size ≤ gb238) := ⟨h5_⟩
    have n6_ : Aside0 (gb224 ≠ gb238) := ⟨h6_⟩
    have n7_ : Aside0 (gb238 ≠ gb224) := ⟨h7_⟩
    have n8_ : Aside0 (gb225 ≠ gb238) := ⟨h8_⟩
    have n9_ : Aside0 (gb238 ≠ gb225) := ⟨h9_⟩
    have n10_ : Aside0 (Below w.heap.size w w57) := ⟨h10_⟩
    clear HO_6
    clear BK224
    clear BK225
    clear HB
    clear h0_ h1_ h2_ h3_ h4_ h5_ h6_ h7_ h8_ h9_ h10_
    have HO_6 := n0_
    have BK224 := n1_
    have BK225 := n2_
    have BK238 := n3_
    have GW238 := n4_
    have GE238 := n5_
    have NB224_238 := n6_
    have NB238_224 := n7_
    have NB225_238 := n8_
    have NB238_225 := n9_
    have HB := n10_
    clear n0_ n1_ n2_ n3_ n4_ n5_ n6_ n7_ n8_ n9_ n10_
    have hHeld : w57.cell? ⟨gb224, 0, none⟩ = some (.bool x225000_1) ∧ w57.cell? ⟨gb224, 1, none⟩ = some (.bool x225001_1) ∧ w57.cell? ⟨gb224, 2, none⟩ = some (.bool x225002_1) ∧ w57.cell? ⟨gb224, 3, none⟩ = some (.bool x225003_1) ∧ w57.cell? ⟨gb224, 4, none⟩ = some (.int .i64 x225004_1) ∧ w57.cell? ⟨gb224, 5, none⟩ = some (.int .i64 x225005_1) ∧ w57.cell? ⟨gb224, 6, none⟩ = some (.string x225006_1) ∧ w57.cell? ⟨gb224, 7, none⟩ = some (.string x225007_1) ∧ w57.cell? (ad227.add ((x7_1).toNat * 2)) = some (.string ((rd_T45 l1 x7_1).f0)) ∧ w57.cell? ⟨(ad227.add ((x7_1).toNat * 2)).block, (ad227.add ((x7_1).toNat * 2)).off + 1, none⟩ = some (.string ((rd_T45 l1 x7_1).f1)) := hS_
    refine norm_ (a' := ?_) ?_ ?_
    rotate_left
    ·simp only [putAll, Act.put, la_, lb_, lc_]
     rfl
    refine one_ (i := 7) (N := none) d12x22 rfl rfl (one_of HT_.out (by kernel_rfl)) (by decide) (fun K hK => ?_)
    have hs58 : w57.cell? ⟨gb238, 0, none⟩ = some (.bool false) := (blk_cell BK238.out 0).trans rfl
    have hfs58 := blk_frozen BK238.out 0
    have hns58_0 := NB224_238.out
    have hns58_1 := NB225_238.out
    have hms58_0 := NB238_224.out
    have hms58_1 := NB238_225.out
    have hs59 : w57.cell? ⟨gb238, 1, none⟩ = some (.bool false) := (blk_cell BK238.out 1).trans rfl
    have hfs59 := blk_frozen BK238.out 1
    have hns59_0 := NB224_238.out
    have hns59_1 := NB225_238.out
    have hms59_0 := NB238_224.out
    have hms59_1 := NB238_225.out
    have hs60 : w57.cell? ⟨gb238, 2, none⟩ = some (.bool false) := (blk_cell BK238.out 2).trans rfl
    have hfs60 := blk_frozen BK238.out 2
    have hns60_0 := NB224_238.out
    have hns60_1 := NB225_238.out
    have hms60_0 := NB238_224.out
    have hms60_1 := NB238_225.out
    have hs61 : w57.cell? ⟨gb238, 3, none⟩ = some (.bool false) := (blk_cell BK238.out 3).trans rfl
    have hfs61 := blk_frozen BK238.out 3
    have hns61_0 := NB224_238.out
    have hns61_1 := NB225_238.out
    have hms61_0 := NB238_224.out
    have hms61_1 := NB238_225.out
    have hs62 : w57.cell? ⟨gb238, 4, none⟩ = some (.int .i64 0) := (blk_cell BK238.out 4).trans rfl
    have hfs62 := blk_frozen BK238.out 4
    have hns62_0 := NB224_238.out
    have hns62_1 := NB225_238.out
    have hms62_0 := NB238_224.out
    have hms62_1 := NB238_225.out
    have hs63 : w57.cell? ⟨gb238, 5, none⟩ = some (.int .i64 0) := (blk_cell BK238.out 5).trans rfl
    have hfs63 := blk_frozen BK238.out 5
    have hns63_0 := NB224_238.out
    have hns63_1 := NB225_238.out
    have hms63_0 := NB238_224.out
    have hms63_1 := NB238_225.out
    have hs64 : w57.cell? ⟨gb238, 6, none⟩ = some (.string (⟨#[]⟩ : ByteArray)) := (blk_cell BK238.out 6).trans rfl
    have hfs64 := blk_frozen BK238.out 6
    have hns64_0 := NB224_238.out
    have hns64_1 := NB225_238.out
    have hms64_0 := NB238_224.out
    have hms64_1 := NB238_225.out
    have hs65 : w57.cell? ⟨gb238, 7, none⟩ = some (.string (⟨#[]⟩ : ByteArray)) := (blk_cell BK238.out 7).trans rfl
    have hfs65 := blk_frozen BK238.out 7
    have hns65_0 := NB224_238.out
    have hns65_1 := NB225_238.out
    have hms65_0 := NB238_224.out
    have hms65_1 := NB238_225.out
    have hs66 : w57.cell? ⟨gb238, 8, none⟩ = some (.string (⟨#[]⟩ : ByteArray)) := (blk_cell BK238.out 8).trans rfl
    have hfs66 := blk_frozen BK238.out 8
    have hns66_0 := NB224_238.out
    have hns66_1 := NB225_238.out
    have hms66_0 := NB238_224.out
    have hms66_1 := NB238_225.out
    have hs67 : w57.cell? ⟨gb238, 9, none⟩ = some (.bool false) := (blk_cell BK238.out 9).trans rfl
    have hfs67 := blk_frozen BK238.out 9
    have hns67_0 := NB224_238.out
    have hns67_1 := NB225_238.out
    have hms67_0 := NB238_224.out
    have hms67_1 := NB238_225.out
    refine skip_ (w1 := ?_) (by rfl) rfl ?_ ?_
    rotate_left
    ·go_simp
     rfl
    refine hK.out _ _ ⟨((cell_far (p := ⟨gb238, _, none⟩) NB224_238.out _).trans (((cell_far (p := ⟨gb238, _, none⟩) NB224_238.out _).trans (((cell_far (p := ⟨gb238, _, none⟩) NB224_238.out _).trans (((cell_far (p := ⟨gb238, _, none⟩) NB224_238.out _).trans (((cell_far (p := ⟨gb238, _, none⟩) NB224_238.out _).trans (((cell_far (p := ⟨gb238, _, none⟩) NB224_238.out _).trans (((cell_far (p := ⟨gb238, _, none⟩) NB224_238.out _).trans (((cell_far (p := ⟨gb238, _, none⟩) NB224_238.out _).trans (((cell_far (p := ⟨gb238, _, none⟩) NB224_238.out _).trans (((cell_far (p := ⟨gb238, _, none⟩) NB224_238.out _).trans (hHeld.1)))))))))))))))))))), ((cell_far (p := ⟨gb238, _, none⟩) NB224_238.out _).trans (((cell_far (p := ⟨gb238, _, none⟩) NB224_238.out _).trans (((cell_far (p := ⟨gb238, _, none⟩) NB224_238.out _).trans (((cell_far (p := ⟨gb238, _, none⟩) NB224_238.out _).trans (((cell_far (p := ⟨gb238, _, none⟩) NB224_238.out _).trans (((cell_far (p := ⟨gb238, _, none⟩) NB224_238.out _).trans (((cell_far (p := ⟨gb238, _, none⟩) NB224_238.out _).trans (((cell_far (p := ⟨gb238, _, none⟩) NB224_238.out _).trans (((cell_far (p := ⟨gb238, _, none⟩) NB224_238.out _).trans (((cell_far (p := ⟨gb238, _, none⟩) NB224_238.out _).trans (hHeld.2.1)))))))))))))))))))), ((cell_far (p := ⟨gb238, _, none⟩) NB224_238.out _).trans (((cell_far (p := ⟨gb238, _, none⟩) NB224_238.out _).trans (((cell_far (p := ⟨gb238, _, none⟩) NB224_238.out _).trans (((cell_far (p := ⟨gb238, _, none⟩) NB224_238.out _).trans (((cell_far (p := ⟨gb238, _, none⟩) NB224_238.out _).trans (((cell_far (p := ⟨gb238, _, none⟩) NB224_238.out _).trans (((cell_far (p := ⟨gb238, _, none⟩) NB224_238.out _).trans (((cell_far (p := ⟨gb238, _, none⟩) NB224_238.out _).trans (((cell_far (p := ⟨gb238, _, none⟩) NB224_238.out _).trans (((cell_far (p := ⟨gb238, _, none⟩) NB224_238.out _).trans (hHeld.2.2.1)))))))))))))))))))), ((cell_far (p := ⟨gb238, _, none⟩) NB224_238.out _).trans (((cell_far (p := ⟨gb238, _, none⟩) NB224_238.out _).trans (((cell_far (p := ⟨gb238, _, none⟩) NB224_238.out _).trans (((cell_far (p := ⟨gb238, _, none⟩) NB224_238.out _).trans (((cell_far (p := ⟨gb238, _, none⟩) NB224_238.out _).trans (((cell_far (p := ⟨gb238, _, none⟩) NB224_238.out _).trans (((cell_far (p := ⟨gb238, _, none⟩) NB224_238.out _).trans (((cell_far (p := ⟨gb238, _, none⟩) NB224_238.out _).trans (((cell_far (p := ⟨gb238, _, none⟩) NB224_238.out _).trans (((cell_far (p := ⟨gb238, _, none⟩) NB224_238.out _).trans (hHeld.2.2.2.1)))))))))))))))))))), ((cell_far (p := ⟨gb238, _, none⟩) NB224_238.out _).trans (((cell_far (p := ⟨gb238, _, none⟩) NB224_238.out _).trans (((cell_far (p := ⟨gb238, _, none⟩) NB224_238.out _).trans (((cell_far (p := ⟨gb238, _, none⟩) NB224_238.out _).trans (((cell_far (p := ⟨gb238, _, none⟩) NB224_238.out _).trans (((cell_far (p := ⟨gb238, _, none⟩) NB224_238.out _).trans (((cell_far (p := ⟨gb238, _, none⟩) NB224_238.out _).trans (((cell_far (p := ⟨gb238, _, none⟩) NB224_238.out _).trans (((cell_far (p := ⟨gb238, _, none⟩) NB224_238.out _).trans (((cell_far (p := ⟨gb238, _, none⟩) NB224_238.out _).trans (hHeld.2.2.2.2.1)))))))))))))))))))), ((cell_far (p := ⟨gb238, _, none⟩) NB224_238.out _).trans (((cell_far (p := ⟨gb238, _, none⟩) NB224_238.out _).trans (((cell_far (p := ⟨gb238, _, none⟩) NB224_238.out _).trans (((cell_far (p := ⟨gb238, _, none⟩) NB224_238.out _).trans (((cell_far (p := ⟨gb238, _, none⟩) NB224_238.out _).trans (((cell_far (p := ⟨gb238, _, none⟩) NB224_238.out _).trans (((cell_far (p := ⟨gb238, _, none⟩) NB224_238.out _).trans (((cell_far (p := ⟨gb238, _, none⟩) NB224_238.out _).trans (((cell_far (p := ⟨gb238, _, none⟩) NB224_238.out _).trans (((cell_far (p := ⟨gb238, _, none⟩) NB224_238.out _).trans (hHeld.2.2.2.2.2.1)))))))))))))))))))), ((cell_far (p := ⟨gb238, _, none⟩) NB224_238.out _).trans (((cell_far (p := ⟨gb238, _, none⟩) NB224_238.out _).trans (((cell_far (p := ⟨gb238, _, none⟩) NB224_238.out _).trans (((cell_far (p := ⟨gb238, _, none⟩) NB224_238.out _).trans (((cell_far (p := ⟨gb238, _, none⟩) NB224_238.out _).trans (((cell_far (p := ⟨gb238, _, none⟩) NB224_238.out _).trans (((cell_far (p := ⟨gb238, _, none⟩) NB224_238.out _).trans (((cell_far (p := ⟨gb238, _, none⟩) NB224_238.out _).trans (((cell_far (p := ⟨gb238, _, none⟩) NB224_238.out _).trans (((cell_far (p := ⟨gb238, _, none⟩) NB224_238.out _).trans (hHeld.2.2.2.2.2.2.1)))))))))))))))))))), ((cell_far (p := ⟨gb238, _, none⟩) NB224_238.out _).trans (((cell_far (p := ⟨gb238, _, none⟩) NB224_238.out _).trans (((cell_far (p := ⟨gb238, _, none⟩) NB224_238.out _).trans (((cell_far (p := ⟨gb238, _, none⟩) NB224_238.out _).trans (((cell_far (p := ⟨gb238, _, none⟩) NB224_238.out _).trans (((cell_far (p := ⟨gb238, _, none⟩) NB224_238.out _).trans (((cell_far (p := ⟨gb238, _, none⟩) NB224_238.out _).trans (((cell_far (p := ⟨gb238, _, none⟩) NB224_238.out _).trans (((cell_far (p := ⟨gb238, _, none⟩) NB224_238.out _).trans (((cell_far (p := ⟨gb238, _, none⟩) NB224_238.out _).trans (hHeld.2.2.2.2.2.2.2.1)))))))))))))))))))), ((cell_far (p := ⟨gb238, _, none⟩) (by first | exact Nat.ne_of_lt (Nat.lt_of_lt_of_le (by have := World.block_lt_of_cell? _ _ hw227_0; first | rwa [add_block] at this | exact this) GW238.out) | (rw [add_block]; exact Nat.ne_of_lt (Nat.lt_of_lt_of_le (by have := World.block_lt_of_cell? _ _ hw227_0; first | rwa [add_block] at this | exact this) GW238.out)) | (show (Addr.add _ _).block ≠ _; rw [add_block]; exact Nat.ne_of_lt (Nat.lt_of_lt_of_le (by have := World.block_lt_of_cell? _ _ hw227_0; first | rwa [add_block] at this | exact this) GW238.out)) | (dsimp only; exact Nat.ne_of_lt (Nat.lt_of_lt_of_le (by have := World.block_lt_of_cell? _ _ hw227_0; first | rwa [add_block] at this | exact this) GW238.out))) _).trans (((cell_far (p := ⟨gb238, _, none⟩) (by first | exact Nat.ne_of_lt (Nat.lt_of_lt_of_le (by have := World.block_lt_of_cell? _ _ hw227_0; first | rwa [add_block] at this | exact this) GW238.out) | (rw [add_block]; exact Nat.ne_of_lt (Nat.lt_of_lt_of_le (by have := World.block_lt_of_cell? _ _ hw227_0; first | rwa [add_block] at this | exact this) GW238.out)) | (show (Addr.add _ _).block ≠ _; rw [add_block]; exact Nat.ne_of_lt (Nat.lt_of_lt_of_le (by have := World.block_lt_of_cell? _ _ hw227_0; first | rwa [add_block] at this | exact this) GW238.out)) | (dsimp only; exact Nat.ne_of_lt (Nat.lt_of_lt_of_le (by have := World.block_lt_of_cell? _ _ hw227_0; first | rwa [add_block] at this | exact this) GW238.out))) _).trans (((cell_far (p := ⟨gb238, _, none⟩) (by first | exact Nat.ne_of_lt (Nat.lt_of_lt_of_le (by have := World.block_lt_of_cell? _ _ hw227_0; first | rwa [add_block] at this | exact this) GW238.out) | (rw [add_block]; exact Nat.ne_of_lt (Nat.lt_of_lt_of_le (by have := World.block_lt_of_cell? _ _ hw227_0; first | rwa [add_block] at this | exact this) GW238.out)) | (show (Addr.add _ _).block ≠ _; rw [add_block]; exact Nat.ne_of_lt (Nat.lt_of_lt_of_le (by have := World.block_lt_of_cell? _ _ hw227_0; first | rwa [add_block] at this | exact this) GW238.out)) | (dsimp only; exact Nat.ne_of_lt (Nat.lt_of_lt_of_le (by have := World.block_lt_of_cell? _ _ hw227_0; first | rwa [add_block] at this | exact this) GW238.out))) _).trans (((cell_far (p := ⟨gb238, _, none⟩) (by first | exact Nat.ne_of_lt (Nat.lt_of_lt_of_le (by have := World.block_lt_of_cell? _ _ hw227_0; first | rwa [add_block] at this | exact this) GW238.out) | (rw [add_block]; exact Nat.ne_of_lt (Nat.lt_of_lt_of_le (by have := World.block_lt_of_cell? _ _ hw227_0; first | rwa [add_block] at this | exact this) GW238.out)) | (show (Addr.add _ _).block ≠ _; rw [add_block]; exact Nat.ne_of_lt (Nat.lt_of_lt_of_le (by have := World.block_lt_of_cell? _ _ hw227_0; first | rwa [add_block] at this | exact this) GW238.out)) | (dsimp only; exact Nat.ne_of_lt (Nat.lt_of_lt_of_le (by have := World.block_lt_of_cell? _ _ hw227_0; first | rwa [add_block] at this | exact this) GW238.out))) _).trans (((cell_far (p := ⟨gb238, _, none⟩) (by first | exact Nat.ne_of_lt (Nat.lt_of_lt_of_le (by have := World.block_lt_of_cell? _ _ hw227_0; first | rwa [add_block] at this | exact this) GW238.out) | (rw [add_block]; exact Nat.ne_of_lt (Nat.lt_of_lt_of_le (by have := World.block_lt_of_cell? _ _ hw227_0; first | rwa [add_block] at this | exact this) GW238.out)) | (show (Addr.add _ _).block ≠ _; rw [add_block]; exact Nat.ne_of_lt (Nat.lt_of_lt_of_le (by have := World.block_lt_of_cell? _ _ hw227_0; first | rwa [add_block] at this | exact this) GW238.out)) | (dsimp only; exact Nat.ne_of_lt (Nat.lt_of_lt_of_le (by have := World.block_lt_of_cell? _ _ hw227_0; first | rwa [add_block] at this | exact this) GW238.out))) _).trans (((cell_far (p := ⟨gb238, _, none⟩) (by first | exact Nat.ne_of_lt (Nat.lt_of_lt_of_le (by have := World.block_lt_of_cell? _ _ hw227_0; first | rwa [add_block] at this | exact this) GW238.out) | (rw [add_block]; exact Nat.ne_of_lt (Nat.lt_of_lt_of_le (by have := World.block_lt_of_cell? _ _ hw227_0; first | rwa [add_block] at this | exact this) GW238.out)) | (show (Addr.add _ _).block ≠ _; rw [add_block]; exact Nat.ne_of_lt (Nat.lt_of_lt_of_le (by have := World.block_lt_of_cell? _ _ hw227_0; first | rwa [add_block] at this | exact this) GW238.out)) | (dsimp only; exact Nat.ne_of_lt (Nat.lt_of_lt_of_le (by have := World.block_lt_of_cell? _ _ hw227_0; first | rwa [add_block] at this | exact this) GW238.out))) _).trans (((cell_far (p := ⟨gb238, _, none⟩) (by first | exact Nat.ne_of_lt (Nat.lt_of_lt_of_le (by have := World.block_lt_of_cell? _ _ hw227_0; first | rwa [add_block] at this | exact this) GW238.out) | (rw [add_block]; exact Nat.ne_of_lt (Nat.lt_of_lt_of_le (by have := World.block_lt_of_cell? _ _ hw227_0; first | rwa [add_block] at this | exact this) GW238.out)) | (show (Addr.add _ _).block ≠ _; rw [add_block]; exact Nat.ne_of_lt (Nat.lt_of_lt_of_le (by have := World.block_lt_of_cell? _ _ hw227_0; first | rwa [add_block] at this | exact this) GW238.out)) | (dsimp only; exact Nat.ne_of_lt (Nat.lt_of_lt_of_le (by have := World.block_lt_of_cell? _ _ hw227_0; first | rwa [add_block] at this | exact this) GW238.out))) _).trans (((cell_far (p := ⟨gb238, _, none⟩) (by first | exact Nat.ne_of_lt (Nat.lt_of_lt_of_le (by have := World.block_lt_of_cell? _ _ hw227_0; first | rwa [add_block] at this | exact this) GW238.out) | (rw [add_block]; exact Nat.ne_of_lt (Nat.lt_of_lt_of_le (by have := World.block_lt_of_cell? _ _ hw227_0; first | rwa [add_block] at this | exact this) GW238.out)) | (show (Addr.add _ _).block ≠ _; rw [add_block]; exact Nat.ne_of_lt (Nat.lt_of_lt_of_le (by have := World.block_lt_of_cell? _ _ hw227_0; first | rwa [add_block] at this | exact this) GW238.out)) | (dsimp only; exact Nat.ne_of_lt (Nat.lt_of_lt_of_le (by have := World.block_lt_of_cell? _ _ hw227_0; first | rwa [add_block] at this | exact this) GW238.out))) _).trans (((cell_far (p := ⟨gb238, _, none⟩) (by first | exact Nat.ne_of_lt (Nat.lt_of_lt_of_le (by have := World.block_lt_of_cell? _ _ hw227_0; first | rwa [add_block] at this | exact this) GW238.out) | (rw [add_block]; exact Nat.ne_of_lt (Nat.lt_of_lt_of_le (by have := World.block_lt_of_cell? _ _ hw227_0; first | rwa [add_block] at this | exact this) GW238.out)) | (show (Addr.add _ _).block ≠ _; rw [add_block]; exact Nat.ne_of_lt (Nat.lt_of_lt_of_le (by have := World.block_lt_of_cell? _ _ hw227_0; first | rwa [add_block] at this | exact this) GW238.out)) | (dsimp only; exact Nat.ne_of_lt (Nat.lt_of_lt_of_le (by have := World.block_lt_of_cell? _ _ hw227_0; first | rwa [add_block] at this | exact this) GW238.out))) _).trans (((cell_far (p := ⟨gb238, _, none⟩) (by first | exact Nat.ne_of_lt (Nat.lt_of_lt_of_le (by have := World.block_lt_of_cell? _ _ hw227_0; first | rwa [add_block] at this | exact this) GW238.out) | (rw [add_block]; exact Nat.ne_of_lt (Nat.lt_of_lt_of_le (by have := World.block_lt_of_cell? _ _ hw227_0; first | rwa [add_block] at this | exact this) GW238.out)) | (show (Addr.add _ _).block ≠ _; rw [add_block]; exact Nat.ne_of_lt (Nat.lt_of_lt_of_le (by have := World.block_lt_of_cell? _ _ hw227_0; first | rwa [add_block] at this | exact this) GW238.out)) | (dsimp only; exact Nat.ne_of_lt (Nat.lt_of_lt_of_le (by have := World.block_lt_of_cell? _ _ hw227_0; first | rwa [add_block] at this | exact this) GW238.out))) _).trans (hHeld.2.2.2.2.2.2.2.2.1)))))))))))))))))))), ((cell_far (p := ⟨gb238, _, none⟩) (by first | exact Nat.ne_of_lt (Nat.lt_of_lt_of_le (by have := World.block_lt_of_cell? _ _ hw227_1; first | rwa [add_block] at this | exact this) GW238.out) | (rw [add_block]; exact Nat.ne_of_lt (Nat.lt_of_lt_of_le (by have := World.block_lt_of_cell? _ _ hw227_1; first | rwa [add_block] at this | exact this) GW238.out)) | (show (Addr.add _ _).block ≠ _; rw [add_block]; exact Nat.ne_of_lt (Nat.lt_of_lt_of_le (by have := World.block_lt_of_cell? _ _ hw227_1; first | rwa [add_block] at this | exact this) GW238.out)) | (dsimp only; exact Nat.ne_of_lt (Nat.lt_of_lt_of_le (by have := World.block_lt_of_cell? _ _ hw227_1; first | rwa [add_block] at this | exact this) GW238.out))) _).trans (((cell_far (p := ⟨gb238, _, none⟩) (by first | exact Nat.ne_of_lt (Nat.lt_of_lt_of_le (by have := World.block_lt_of_cell? _ _ hw227_1; first | rwa [add_block] at this | exact this) GW238.out) | (rw [add_block]; exact Nat.ne_of_lt (Nat.lt_of_lt_of_le (by have := World.block_lt_of_cell? _ _ hw227_1; first | rwa [add_block] at this | exact this) GW238.out)) | (show (Addr.add _ _).block ≠ _; rw [add_block]; exact Nat.ne_of_lt (Nat.lt_of_lt_of_le (by have := World.block_lt_of_cell? _ _ hw227_1; first | rwa [add_block] at this | exact this) GW238.out)) | (dsimp only; exact Nat.ne_of_lt (Nat.lt_of_lt_of_le (by have := World.block_lt_of_cell? _ _ hw227_1; first | rwa [add_block] at this | exact this) GW238.out))) _).trans (((cell_far (p := ⟨gb238, _, none⟩) (by first | exact Nat.ne_of_lt (Nat.lt_of_lt_of_le (by have := World.block_lt_of_cell? _ _ hw227_1; first | rwa [add_block] at this | exact this) GW238.out) | (rw [add_block]; exact Nat.ne_of_lt (Nat.lt_of_lt_of_le (by have := World.block_lt_of_cell? _ _ hw227_1; first | rwa [add_block] at this | exact this) GW238.out)) | (show (Addr.add _ _).block ≠ _; rw [add_block]; exact Nat.ne_of_lt (Nat.lt_of_lt_of_le (by have := World.block_lt_of_cell? _ _ hw227_1; first | rwa [add_block] at this | exact this) GW238.out)) | (dsimp only; exact Nat.ne_of_lt (Nat.lt_of_lt_of_le (by have := World.block_lt_of_cell? _ _ hw227_1; first | rwa [add_block] at this | exact this) GW238.out))) _).trans (((cell_far (p := ⟨gb238, _, none⟩) (by first | exact Nat.ne_of_lt (Nat.lt_of_lt_of_le (by have := World.block_lt_of_cell? _ _ hw227_1; first | rwa [add_block] at this | exact this) GW238.out) | (rw [add_block]; exact Nat.ne_of_lt (Nat.lt_of_lt_of_le (by have := World.block_lt_of_cell? _ _ hw227_1; first | rwa [add_block] at this | exact this) GW238.out)) | (show (Addr.add _ _).block ≠ _; rw [add_block]; exact Nat.ne_of_lt (Nat.lt_of_lt_of_le (by have := World.block_lt_of_cell? _ _ hw227_1; first | rwa [add_block] at this | exact this) GW238.out)) | (dsimp only; exact Nat.ne_of_lt (Nat.lt_of_lt_of_le (by have := World.block_lt_of_cell? _ _ hw227_1; first | rwa [add_block] at this | exact this) GW238.out))) _).trans (((cell_far (p := ⟨gb238, _, none⟩) (by first | exact Nat.ne_of_lt (Nat.lt_of_lt_of_le (by have := World.block_lt_of_cell? _ _ hw227_1; first | rwa [add_block] at this | exact this) GW238.out) | (rw [add_block]; exact Nat.ne_of_lt (Nat.lt_of_lt_of_le (by have := World.block_lt_of_cell? _ _ hw227_1; first | rwa [add_block] at this | exact this) GW238.out)) | (show (Addr.add _ _).block ≠ _; rw [add_block]; exact Nat.ne_of_lt (Nat.lt_of_lt_of_le (by have := World.block_lt_of_cell? _ _ hw227_1; first | rwa [add_block] at this | exact this) GW238.out)) | (dsimp only; exact Nat.ne_of_lt (Nat.lt_of_lt_of_le (by have := World.block_lt_of_cell? _ _ hw227_1; first | rwa [add_block] at this | exact this) GW238.out))) _).trans (((cell_far (p := ⟨gb238, _, none⟩) (by first | exact Nat.ne_of_lt (Nat.lt_of_lt_of_le (by have := World.block_lt_of_cell? _ _ hw227_1; first | rwa [add_block] at this | exact this) GW238.out) | (rw [add_block]; exact Nat.ne_of_lt (Nat.lt_of_lt_of_le (by have := World.block_lt_of_cell? _ _ hw227_1; first | rwa [add_block] at this | exact this) GW238.out)) | (show (Addr.add _ _).block ≠ _; rw [add_block]; exact Nat.ne_of_lt (Nat.lt_of_lt_of_le (by have := World.block_lt_of_cell? _ _ hw227_1; first | rwa [add_block] at this | exact this) GW238.out)) | (dsimp only; exact Nat.ne_of_lt (Nat.lt_of_lt_of_le (by have := World.block_lt_of_cell? _ _ hw227_1; first | rwa [add_block] at this | exact this) GW238.out))) _).trans (((cell_far (p := ⟨gb238, _, none⟩) (by first | exact Nat.ne_of_lt (Nat.lt_of_lt_of_le (by have := World.block_lt_of_cell? _ _ hw227_1; first | rwa [add_block] at this | exact this) GW238.out) | (rw [add_block]; exact Nat.ne_of_lt (Nat.lt_of_lt_of_le (by have := World.block_lt_of_cell? _ _ hw227_1; first | rwa [add_block] at this | exact this) GW238.out)) | (show (Addr.add _ _).block ≠ _; rw [add_block]; exact Nat.ne_of_lt (Nat.lt_of_lt_of_le (by have := World.block_lt_of_cell? _ _ hw227_1; first | rwa [add_block] at this | exact this) GW238.out)) | (dsimp only; exact Nat.ne_of_lt (Nat.lt_of_lt_of_le (by have := World.block_lt_of_cell? _ _ hw227_1; first | rwa [add_block] at this | exact this) GW238.out))) _).trans (((cell_far (p := ⟨gb238, _, none⟩) (by first | exact Nat.ne_of_lt (Nat.lt_of_lt_of_le (by have := World.block_lt_of_cell? _ _ hw227_1; first | rwa [add_block] at this | exact this) GW238.out) | (rw [add_block]; exact Nat.ne_of_lt (Nat.lt_of_lt_of_le (by have := World.block_lt_of_cell? _ _ hw227_1; first | rwa [add_block] at this | exact this) GW238.out)) | (show (Addr.add _ _).block ≠ _; rw [add_block]; exact Nat.ne_of_lt (Nat.lt_of_lt_of_le (by have := World.block_lt_of_cell? _ _ hw227_1; first | rwa [add_block] at this | exact this) GW238.out)) | (dsimp only; exact Nat.ne_of_lt (Nat.lt_of_lt_of_le (by have := World.block_lt_of_cell? _ _ hw227_1; first | rwa [add_block] at this | exact this) GW238.out))) _).trans (((cell_far (p := ⟨gb238, _, none⟩) (by first | exact Nat.ne_of_lt (Nat.lt_of_lt_of_le (by have := World.block_lt_of_cell? _ _ hw227_1; first | rwa [add_block] at this | exact this) GW238.out) | (rw [add_block]; exact Nat.ne_of_lt (Nat.lt_of_lt_of_le (by have := World.block_lt_of_cell? _ _ hw227_1; first | rwa [add_block] at this | exact this) GW238.out)) | (show (Addr.add _ _).block ≠ _; rw [add_block]; exact Nat.ne_of_lt (Nat.lt_of_lt_of_le (by have := World.block_lt_of_cell? _ _ hw227_1; first | rwa [add_block] at this | exact this) GW238.out)) | (dsimp only; exact Nat.ne_of_lt (Nat.lt_of_lt_of_le (by have := World.block_lt_of_cell? _ _ hw227_1; first | rwa [add_block] at this | exact this) GW238.out))) _).trans (((cell_far (p := ⟨gb238, _, none⟩) (by first | exact Nat.ne_of_lt (Nat.lt_of_lt_of_le (by have := World.block_lt_of_cell? _ _ hw227_1; first | rwa [add_block] at this | exact this) GW238.out) | (rw [add_block]; exact Nat.ne_of_lt (Nat.lt_of_lt_of_le (by have := World.block_lt_of_cell? _ _ hw227_1; first | rwa [add_block] at this | exact this) GW238.out)) | (show (Addr.add _ _).block ≠ _; rw [add_block]; exact Nat.ne_of_lt (Nat.lt_of_lt_of_le (by have := World.block_lt_of_cell? _ _ hw227_1; first | rwa [add_block] at this | exact this) GW238.out)) | (dsimp only; exact Nat.ne_of_lt (Nat.lt_of_lt_of_le (by have := World.block_lt_of_cell? _ _ hw227_1; first | rwa [add_block] at this | exact this) GW238.out))) _).trans (hHeld.2.2.2.2.2.2.2.2.2))))))))))))))))))))⟩ (fun hHeld => ?_)
    clear hK K
    refine done_ (done_of HT_.out (by kernel_rfl)) ?_
    have hnb68 := NB238_224.out
    have hnc68 := NB224_238.out
    have hnb69 := NB238_225.out
    have hnc69 := NB225_238.out
    have hcz70_0 : w57.cell? ⟨gb238, 0, none⟩ = some (.bool false) := (blk_cell BK238.out 0).trans rfl
    have hcz70_1 : w57.cell? ⟨gb238, 1, none⟩ = some (.bool false) := (blk_cell BK238.out 1).trans rfl
    have hcz70_2 : w57.cell? ⟨gb238, 2, none⟩ = some (.bool false) := (blk_cell BK238.out 2).trans rfl
    have hcz70_3 : w57.cell? ⟨gb238, 3, none⟩ = some (.bool false) := (blk_cell BK238.out 3).trans rfl
    have hcz70_4 : w57.cell? ⟨gb238, 4, none⟩ = some (.int .i64 0) := (blk_cell BK238.out 4).trans rfl
    have hcz70_5 : w57.cell? ⟨gb238, 5, none⟩ = some (.int .i64 0) := (blk_cell BK238.out 5).trans rfl
    have hcz70_6 : w57.cell? ⟨gb238, 6, none⟩ = some (.string (⟨#[]⟩ : ByteArray)) := (blk_cell BK238.out 6).trans rfl
    have hcz70_7 : w57.cell? ⟨gb238, 7, none⟩ = some (.string (⟨#[]⟩ : ByteArray)) := (blk_cell BK238.out 7).trans rfl
    have hcz70_8 : w57.cell? ⟨gb238, 8, none⟩ = some (.string (⟨#[]⟩ : ByteArray)) := (blk_cell BK238.out 8).trans rfl
    have hcz70_9 : w57.cell? ⟨gb238, 9, none⟩ = some (.bool false) := (blk_cell BK238.out 9).trans rfl
    have hfz70_0 := blk_frozen BK238.out 0
    have hfz70_1 := blk_frozen BK238.out 1
    have hfz70_2 := blk_frozen BK238.out 2
    have hfz70_3 := blk_frozen BK238.out 3
    have hfz70_4 := blk_frozen BK238.out 4
    have hfz70_5 := blk_frozen BK238.out 5
    have hfz70_6 := blk_frozen BK238.out 6
    have hfz70_7 := blk_frozen BK238.out 7
    have hfz70_8 := blk_frozen BK238.out 8
    have hfz70_9 := blk_frozen BK238.out 9
    have hnb71 := NB225_224.out
    have hnc71 := NB224_225.out
    have hcz72_0 : w57.cell? ⟨gb225, 0, none⟩ = some (.bool x226000_1) := (blk_cell BK225.out 0).trans rfl
    have hcz72_1 : w57.cell? ⟨gb225, 1, none⟩ = some (.bool x226001_1) := (blk_cell BK225.out 1).trans rfl
    have hcz72_2 : w57.cell? ⟨gb225, 2, none⟩ = some (.bool x226002_1) := (blk_cell BK225.out 2).trans rfl
    have hcz72_3 : w57.cell? ⟨gb225, 3, none⟩ = some (.bool x226003_1) := (blk_cell BK225.out 3).trans rfl
    have hcz72_4 : w57.cell? ⟨gb225, 4, none⟩ = some (.int .i64 x226004_1) := (blk_cell BK225.out 4).trans rfl
    have hcz72_5 : w57.cell? ⟨gb225, 5, none⟩ = some (.int .i64 x226005_1) := (blk_cell BK225.out 5).trans rfl
    have hcz72_6 : w57.cell? ⟨gb225, 6, none⟩ = some (.string x226006_1) := (blk_cell BK225.out 6).trans rfl
    have hcz72_7 : w57.cell? ⟨gb225, 7, none⟩ = some (.string x226007_1) := (blk_cell BK225.out 7).trans rfl
    have hcz72_8 : w57.cell? ⟨gb225, 8, none⟩ = some (.slice none 0 0) := (blk_cell BK225.out 8).trans rfl
    have hfz72_0 := blk_frozen BK225.out 0
    have hfz72_1 := blk_frozen BK225.out 1
    have hfz72_2 := blk_frozen BK225.out 2
    have hfz72_3 := blk_frozen BK225.out 3
    have hfz72_4 := blk_frozen BK225.out 4
    have hfz72_5 := blk_frozen BK225.out 5
    have hfz72_6 := blk_frozen BK225.out 6
    have hfz72_7 := blk_frozen BK225.out 7
    have hfz72_8 := blk_frozen BK225.out 8
    try go_wp2
    refine bodyPost_ret (results_ct rfl _ _ gb225 33 #[.bool false, .bool false, .bool false, .bool false, .int .i64 0, .int .i64 0, .string (⟨#[]⟩ : ByteArray), .string (⟨#[]⟩ : ByteArray), .slice none 0 0] (0, 0) _ rfl (by (with_reducible repeat (first | refine blk_drewN ?_ _ | refine blk_drew ?_ | refine blk_alloc ?_ _)); refine blk_put (cs := #[.bool false, .bool false, .bool false, .bool false, .int .i64 0, .int .i64 0, .string (⟨#[]⟩ : ByteArray), .string (⟨#[]⟩ : ByteArray), .slice none 0 0]) ?_ 8 _ rfl; (with_reducible repeat (first | refine blk_drewN ?_ _ | refine blk_drew ?_ | refine blk_alloc ?_ _)); refine blk_put (cs := #[.bool false, .bool false, .bool false, .bool false, .int .i64 0, .int .i64 0, .string (⟨#[]⟩ : ByteArray), .string x226007_1, .slice none 0 0]) ?_ 7 _ rfl; (with_reducible repeat (first | refine blk_drewN ?_ _ | refine blk_drew ?_ | refine blk_alloc ?_ _)); refine blk_put (cs := #[.bool false, .bool false, .bool false, .bool false, .int .i64 0, .int .i64 0, .string x226006_1, .string x226007_1, .slice none 0 0]) ?_ 6 _ rfl; (with_reducible repeat (first | refine blk_drewN ?_ _ | refine blk_drew ?_ | refine blk_alloc ?_ _)); refine blk_put (cs := #[.bool false, .bool false, .bool false, .bool false, .int .i64 0, .int .i64 x226005_1, .string x226006_1, .string x226007_1, .slice none 0 0]) ?_ 5 _ rfl; (with_reducible repeat (first | refine blk_drewN ?_ _ | refine blk_drew ?_ | refine blk_alloc ?_ _)); refine blk_put (cs := #[.bool false, .bool false, .bool false, .bool false, .int .i64 x226004_1, .int .i64 x226005_1, .string x226006_1, .string x226007_1, .slice none 0 0]) ?_ 4 _ rfl; (with_reducible repeat (first | refine blk_drewN ?_ _ | refine blk_drew ?_ | refine blk_alloc ?_ _)); refine blk_put (cs := #[.bool false, .bool false, .bool false, .bool x226003_1, .int .i64 x226004_1, .int .i64 x226005_1, .string x226006_1, .string x226007_1, .slice none 0 0]) ?_ 3 _ rfl; (with_reducible repeat (first | refine blk_drewN ?_ _ | refine blk_drew ?_ | refine blk_alloc ?_ _)); refine blk_put (cs := #[.bool false, .bool false, .bool x226002_1, .bool x226003_1, .int .i64 x226004_1, .int .i64 x226005_1, .string x226006_1, .string x226007_1, .slice none 0 0]) ?_ 2 _ rfl; (with_reducible repeat (first | refine blk_drewN ?_ _ | refine blk_drew ?_ | refine blk_alloc ?_ _)); refine blk_put (cs := #[.bool false, .bool x226001_1, .bool x226002_1, .bool x226003_1, .int .i64 x226004_1, .int .i64 x226005_1, .string x226006_1, .string x226007_1, .slice none 0 0]) ?_ 1 _ rfl; (with_reducible repeat (first | refine blk_drewN ?_ _ | refine blk_drew ?_ | refine blk_alloc ?_ _)); refine blk_put (cs := #[.bool x226000_1, .bool x226001_1, .bool x226002_1, .bool x226003_1, .int .i64 x226004_1, .int .i64 x226005_1, .string x226006_1, .string x226007_1, .slice none 0 0]) ?_ 0 _ rfl; (with_reducible repeat (first | refine blk_drewN ?_ _ | refine blk_drew ?_ | refine blk_alloc ?_ _ | refine blk_far ?_ NB225_238.out _)); exact BK225.out) Tryd.underlying33 rfl (by kernel_rfl)) rfl ?_
    exact ⟨_, by first | rfl | (simp [errW_none, errW_some] <;> rfl) | (simp [*, errW_none, errW_some] <;> rfl) | (simp [bt, *]; done) | (unfold bt; simp [*]; done), by first | exact Kd.R_nil _ _ _ _ _ | exact Kd.N_nil _ _ _ _ _ | exact Kd.V_nil _ _ _ _ _ | exact Kd.Q_nil _ _ _ _ _ | exact Kd.S_nil _ _ _ _ _, by repeat (first | (with_reducible first | exact HB.out | apply below_alloc | apply pw_below_drewN | apply below_drew1 | refine below_set ?_ GE224.out | refine below_set ?_ GE225.out | refine below_set ?_ GE238.out) | exact HB.out)⟩
   subst c10
   have H1 := H
   rw [if_pos rfl] at H1
   clear H
   have H := H1
   clear H1
   by_cases c11 : t236.toList = ([] : List UInt8)
   ·rw [if_pos c11] at H
    have c11b0 : (t236.toList == ([] : List UInt8)) = true := beq_iff_eq.mpr c11
    have c11b1 : (t236.toList != ([] : List UInt8)) = false := bne_eq_false_iff_eq.mpr c11
    (try (have c11b2 : (t236 = ByteArray.empty) = True := eq_true (by have h_ := c11; rw [ByteArray.toList_eq] at h_; exact ByteArray.ext (Array.toList_eq_nil_iff.mp h_))))
    clear c11
    have H' := Aside0.mk H
    clear H
    try go_wp2
    have n0_ := Aside0.mk (Kd.R_drew HO_6.out)
    have n1_ := Aside0.mk (blk_drew BK224.out)
    have n2_ := Aside0.mk (blk_drew BK225.out)
    have n3_ := Aside0.mk (below_drew1 HB.out)
    clear HO_6
    clear BK224
    clear BK225
    clear HB
    have HO_6 := n0_
    have BK224 := n1_
    have BK225 := n2_
    have HB := n3_
    clear n0_ n1_ n2_ n3_
    have p227 : 0 ≤ (x7_1 : Int) := of_decide_eq_true (by first | (with_reducible assumption) | assumption)
    have q227 : x7_1 < (l1.length : Int) := of_decide_eq_true (by first | (with_reducible assumption) | assumption)
    obtain ⟨ad227, e227, hx227_0, hx227_1⟩ := at_T45 HR1.out x7_1 p227 q227
    have hw227_1 := hx227_1
    have hw227_0 := hx227_0
    cases e227
    replace hx227_0 := (HB.out.cell (World.block_lt_of_cell? w _ hx227_0)).trans hx227_0
    replace hx227_1 := (HB.out.cell (World.block_lt_of_cell? w _ hx227_1)).trans hx227_1
    replace p227 := eq_true p227
    replace q227 := eq_true q227
    refine start_ (n := 8) (S := fun w' => w'.cell? ⟨gb224, 0, none⟩ = some (.bool x225000_1) ∧ w'.cell? ⟨gb224, 1, none⟩ = some (.bool x225001_1) ∧ w'.cell? ⟨gb224, 2, none⟩ = some (.bool x225002_1) ∧ w'.cell? ⟨gb224, 3, none⟩ = some (.bool x225003_1) ∧ w'.cell? ⟨gb224, 4, none⟩ = some (.int .i64 x225004_1) ∧ w'.cell? ⟨gb224, 5, none⟩ = some (.int .i64 x225005_1) ∧ w'.cell? ⟨gb224, 6, none⟩ = some (.string x225006_1) ∧ w'.cell? ⟨gb224, 7, none⟩ = some (.string x225007_1) ∧ w'.cell? (ad227.add ((x7_1).toNat * 2)) = some (.string ((rd_T45 l1 x7_1).f0)) ∧ w'.cell? ⟨(ad227.add ((x7_1).toNat * 2)).block, (ad227.add ((x7_1).toNat * 2)).off + 1, none⟩ = some (.string ((rd_T45 l1 x7_1).f1))) (ds := []) d12x1 (by kernel_rfl) rfl rfl ⟨(blk_cell BK224.out 0).trans rfl, (blk_cell BK224.out 1).trans rfl, (blk_cell BK224.out 2).trans rfl, (blk_cell BK224.out 3).trans rfl, (blk_cell BK224.out 4).trans rfl, (blk_cell BK224.out 5).trans rfl, (blk_cell BK224.out 6).trans rfl, (blk_cell BK224.out 7).trans rfl, ((HB.out.cell (World.block_lt_of_cell? w _ hw227_0)).trans hw227_0), ((HB.out.cell (World.block_lt_of_cell? w _ hw227_1)).trans hw227_1)⟩ (fun hHeld => ?_); refine with_tabW headgateref21_Answer.tab7 headgateref21_Answer.bits7 (fun HT_ HW_ => ?_)
    generalize wr.drew = w12 at HO_6 BK224 BK225 HB hx227_0 hx227_1 hHeld ⊢
    refine pon_ 1 (some 20) d12x2 HT_.out ?_
    refine pon_ 2 (some 21) d12x3 HT_.out ?_
    refine pon_ 3 (some 22) d12x4 HT_.out ?_
    refine ptk_ 0 (some 19) d12x9 HT_.out HW_.out hHeld ?_
    refine ptk_ 4 (some 23) d12x11 HT_.out HW_.out hHeld ?_
    refine join_ (σ := Nat) 1 d12x16 (fun s_ => [(24, .agg #[.bool t228, .bool t229, .bool t230, .bool t231, .int .i64 t232, .int .i64 t233, .string t234, .string t235, .string t236, .bool true]), (8, .pointer (some ⟨s_, 0, none⟩))]) (fun s_ w' => (w'.cell? ⟨gb224, 0, none⟩ = some (.bool x225000_1) ∧ w'.cell? ⟨gb224, 1, none⟩ = some (.bool x225001_1) ∧ w'.cell? ⟨gb224, 2, none⟩ = some (.bool x225002_1) ∧ w'.cell? ⟨gb224, 3, none⟩ = some (.bool x225003_1) ∧ w'.cell? ⟨gb224, 4, none⟩ = some (.int .i64 x225004_1) ∧ w'.cell? ⟨gb224, 5, none⟩ = some (.int .i64 x225005_1) ∧ w'.cell? ⟨gb224, 6, none⟩ = some (.string x225006_1) ∧ w'.cell? ⟨gb224, 7, none⟩ = some (.string x225007_1) ∧ w'.cell? (ad227.add ((x7_1).toNat * 2)) = some (.string ((rd_T45 l1 x7_1).f0)) ∧ w'.cell? ⟨(ad227.add ((x7_1).toNat * 2)).block, (ad227.add ((x7_1).toNat * 2)).off + 1, none⟩ = some (.string ((rd_T45 l1 x7_1).f1))) ∧ (Kd.R k45 45 w' w.heap.size (fun _ => True) u6 x6_1) ∧ (w'.heap[gb224]? = some (.cells #[.bool x225000_1, .bool x225001_1, .bool x225002_1, .bool x225003_1, .int .i64 x225004_1, .int .i64 x225005_1, .string x225006_1, .string x225007_1] 31 (0, 0))) ∧ (w'.heap[gb225]? = some (.cells #[.bool x226000_1, .bool x226001_1, .bool x226002_1, .bool x226003_1, .int .i64 x226004_1, .int .i64 x226005_1, .string x226006_1, .string x226007_1, .slice none 0 0] 33 (0, 0))) ∧ (w'.heap[s_]? = some (.cells #[.bool false, .bool false, .bool false, .bool false, .int .i64 0, .int .i64 0, .string (⟨#[]⟩ : ByteArray), .string (⟨#[]⟩ : ByteArray), .string (⟨#[]⟩ : ByteArray), .bool false] 63 (0, 0))) ∧ (w.heap.size ≤ s_) ∧ (w.heap.size ≤ s_) ∧ (gb224 ≠ s_) ∧ (s_ ≠ gb224) ∧ (gb225 ≠ s_) ∧ (s_ ≠ gb225) ∧ (Below w.heap.size w w')) ?_ ?_
    rotate_left
    ·intro hCont
     refine two_ (i := 5) (j := 6) (Ni := some 24) (Nj := some 8) d12x14 d12x13 rfl rfl rfl rfl (two_of HT_.out (by kernel_rfl)) (by decide) (by decide) (fun K hK => ?_) (fun K hK => ?_)
     ·skip
      refine goes_ Tryd.func25 (by kernel_rfl) rfl #[.agg #[.bool x225000_1, .bool x225001_1, .bool x225002_1, .bool x225003_1, .int .i64 x225004_1, .int .i64 x225005_1, .string x225006_1, .string x225007_1], .agg #[.string ((rd_T45 l1 x7_1).f0), .string ((rd_T45 l1 x7_1).f1)]] (by rfl) rfl rfl (by (try simp only [List.map_toArray, List.map_cons, List.map_nil]); first | done | rfl | (simp only [List.length_drop, List.length_take]; rfl)) ?_
      with_reducible refine (headgateref21_one.calls k1 x225000_1 x225001_1 x225002_1 x225003_1 x225004_1 x225005_1 x225006_1 x225007_1 ((rd_T45 l1 x7_1).f0) ((rd_T45 l1 x7_1).f1) t228 t229 t230 t231 t232 t233 t234 t235 t236 true _ A9.out).mono ?_
      rintro e w13 ⟨rfl, hb⟩
      refine ⟨_, rfl, ?_⟩
      have n0_ := Aside0.mk (Kd.R_below (by (with_reducible repeat (first | apply Kd.R_alloc | apply Kd.R_drewN | apply Kd.R_drew)); exact HO_6.out) hb)
      have n1_ := Aside0.mk (blk_below (bk_ BK224) hb)
      have n2_ := Aside0.mk (blk_below (bk_ BK225) hb)
      have n3_ := Aside0.mk (below_step (hb_ HB) hb)
      clear HO_6
      clear BK224
      clear BK225
      clear HB
      have HO_6 := n0_
      have BK224 := n1_
      have BK225 := n2_
      have HB := n3_
      clear n0_ n1_ n2_ n3_
      (try clear hb)
      (try clear hb2)
      (try clear hk)
      (try clear hi)
      refine hK.out _ _ ⟨(blk_cell BK224.out 0).trans rfl, (blk_cell BK224.out 1).trans rfl, (blk_cell BK224.out 2).trans rfl, (blk_cell BK224.out 3).trans rfl, (blk_cell BK224.out 4).trans rfl, (blk_cell BK224.out 5).trans rfl, (blk_cell BK224.out 6).trans rfl, (blk_cell BK224.out 7).trans rfl, ((HB.out.cell (World.block_lt_of_cell? w _ hw227_0)).trans hw227_0), ((HB.out.cell (World.block_lt_of_cell? w _ hw227_1)).trans hw227_1)⟩ (fun hHeld => ?_)
      clear hK K
      refine norm_ (a' := ?_) ?_ ?_
      rotate_left
      ·show Act.put _ (some 24) _ = _
       simp only [Act.put, la_, lb_, lc_, i64_w, i32_w]
       rfl
      refine one_ (i := 6) (N := some 8) d12x16 rfl rfl (one_of HT_.out (by kernel_rfl)) (by decide) (fun K hK => ?_)
      refine box_step ?hg (N := 8) ?hd (cs := #[.bool false, .bool false, .bool false, .bool false, .int .i64 0, .int .i64 0, .string (⟨#[]⟩ : ByteArray), .string (⟨#[]⟩ : ByteArray), .string (⟨#[]⟩ : ByteArray), .bool false]) (t := 63) ?hr ?_; (case hd => rfl); (case hg => rfl); (case hr => first | (go_simp; done) | (go_simp; rfl))
      intro gb238 hg w14 hbox hb
      have n0_ := Aside0.mk (Kd.R_below (by (with_reducible repeat (first | apply Kd.R_alloc | apply Kd.R_drewN | apply Kd.R_drew)); exact HO_6.out) hb)
      have n1_ := Aside0.mk (blk_below (bk_ BK224) hb)
      have n2_ := Aside0.mk (blk_below (bk_ BK225) hb)
      have n3_ := Aside0.mk (below_step (hb_ HB) hb)
      have n4_ := Aside0.mk (hbox)
      have n5_ := Aside0.mk ((by rw [hg]; exact (below_size (hb_ HB)) : w.heap.size ≤ gb238))
      have n6_ := Aside0.mk ((by rw [hg]; exact (below_size (hb_ HB)) : w.heap.size ≤ gb238))
      have n7_ := Aside0.mk ((by rw [hg]; exact Nat.ne_of_lt (blk_lt (g := gb224) (o := .cells #[.bool x225000_1, .bool x225001_1, .bool x225002_1, .bool x225003_1, .int .i64 x225004_1, .int .i64 x225005_1, .string x225006_1, .string x225007_1] 31 (0, 0)) (bk_ BK224)) : gb224 ≠ gb238))
      have n8_ := Aside0.mk ((by rw [hg]; exact Nat.ne_of_gt (blk_lt (g := gb224) (o := .cells #[.bool x225000_1, .bool x225001_1, .bool x225002_1, .bool x225003_1, .int .i64 x225004_1, .int .i64 x225005_1, .string x225006_1, .string x225007_1] 31 (0, 0)) (bk_ BK224)) : gb238 ≠ gb224))
      have n9_ := Aside0.mk ((by rw [hg]; exact Nat.ne_of_lt (blk_lt (g := gb225) (o := .cells #[.bool x226000_1, .bool x226001_1, .bool x226002_1, .bool x226003_1, .int .i64 x226004_1, .int .i64 x226005_1, .string x226006_1, .string x226007_1, .slice none 0 0] 33 (0, 0)) (bk_ BK225)) : gb225 ≠ gb238))
      have n10_ := Aside0.mk ((by rw [hg]; exact Nat.ne_of_gt (blk_lt (g := gb225) (o := .cells #[.bool x226000_1, .bool x226001_1, .bool x226002_1, .bool x226003_1, .int .i64 x226004_1, .int .i64 x226005_1, .string x226006_1, .string x226007_1, .slice none 0 0] 33 (0, 0)) (bk_ BK225)) : gb238 ≠ gb225))
      clear HO_6
      clear BK224
      clear BK225
      clear HB
      have HO_6 := n0_
      have BK224 := n1_
      have BK225 := n2_
      have HB := n3_
      have BK238 := n4_
      have GW238 := n5_
      have GE238 := n6_
      have NB224_238 := n7_
      have NB238_224 := n8_
      have NB225_238 := n9_
      have NB238_225 := n10_
      clear n0_ n1_ n2_ n3_ n4_ n5_ n6_ n7_ n8_ n9_ n10_
      clear hb hbox hg
      refine hK.out _ _ ⟨(blk_cell BK224.out 0).trans rfl, (blk_cell BK224.out 1).trans rfl, (blk_cell BK224.out 2).trans rfl, (blk_cell BK224.out 3).trans rfl, (blk_cell BK224.out 4).trans rfl, (blk_cell BK224.out 5).trans rfl, (blk_cell BK224.out 6).trans rfl, (blk_cell BK224.out 7).trans rfl, ((HB.out.cell (World.block_lt_of_cell? w _ hw227_0)).trans hw227_0), ((HB.out.cell (World.block_lt_of_cell? w _ hw227_1)).trans hw227_1)⟩ (fun hHeld => ?_)
      clear hK K
      refine norm_ (a' := ?_) ?_ ?_
      rotate_left
      ·show Act.put _ (some 8) _ = _
       simp only [Act.put, la_, lb_, lc_, i64_w, i32_w]
       rfl
      exact norm_ (by simp only [putAll, Act.put, la_, lb_, lc_]) (hCont (gb238) _ ⟨hHeld, (by (with_reducible repeat (first | apply Kd.R_alloc | apply Kd.R_drewN | apply Kd.R_drew)); exact HO_6.out), (bk_ BK224), (bk_ BK225), (bk_ BK238), GW238.out, GE238.out, NB224_238.out, NB238_224.out, NB225_238.out, NB238_225.out, (hb_ HB)⟩)
     ·skip
      refine box_step ?hg (N := 8) ?hd (cs := #[.bool false, .bool false, .bool false, .bool false, .int .i64 0, .int .i64 0, .string (⟨#[]⟩ : ByteArray), .string (⟨#[]⟩ : ByteArray), .string (⟨#[]⟩ : ByteArray), .bool false]) (t := 63) ?hr ?_; (case hd => rfl); (case hg => rfl); (case hr => first | (go_simp; done) | (go_simp; rfl))
      intro gb238 hg w13 hbox hb
      have n0_ := Aside0.mk (Kd.R_below (by (with_reducible repeat (first | apply Kd.R_alloc | apply Kd.R_drewN | apply Kd.R_drew)); exact HO_6.out) hb)
      have n1_ := Aside0.mk (blk_below (bk_ BK224) hb)
      have n2_ := Aside0.mk (blk_below (bk_ BK225) hb)
      have n3_ := Aside0.mk (below_step (hb_ HB) hb)
      have n4_ := Aside0.mk (hbox)
      have n5_ := Aside0.mk ((by rw [hg]; exact (below_size (hb_ HB)) : w.heap.size ≤ gb238))
      have n6_ := Aside0.mk ((by rw [hg]; exact (below_size (hb_ HB)) : w.heap.size ≤ gb238))
      have n7_ := Aside0.mk ((by rw [hg]; exact Nat.ne_of_lt (blk_lt (g := gb224) (o := .cells #[.bool x225000_1, .bool x225001_1, .bool x225002_1, .bool x225003_1, .int .i64 x225004_1, .int .i64 x225005_1, .string x225006_1, .string x225007_1] 31 (0, 0)) (bk_ BK224)) : gb224 ≠ gb238))
      have n8_ := Aside0.mk ((by rw [hg]; exact Nat.ne_of_gt (blk_lt (g := gb224) (o := .cells #[.bool x225000_1, .bool x225001_1, .bool x225002_1, .bool x225003_1, .int .i64 x225004_1, .int .i64 x225005_1, .string x225006_1, .string x225007_1] 31 (0, 0)) (bk_ BK224)) : gb238 ≠ gb224))
      have n9_ := Aside0.mk ((by rw [hg]; exact Nat.ne_of_lt (blk_lt (g := gb225) (o := .cells #[.bool x226000_1, .bool x226001_1, .bool x226002_1, .bool x226003_1, .int .i64 x226004_1, .int .i64 x226005_1, .string x226006_1, .string x226007_1, .slice none 0 0] 33 (0, 0)) (bk_ BK225)) : gb225 ≠ gb238))
      have n10_ := Aside0.mk ((by rw [hg]; exact Nat.ne_of_gt (blk_lt (g := gb225) (o := .cells #[.bool x226000_1, .bool x226001_1, .bool x226002_1, .bool x226003_1, .int .i64 x226004_1, .int .i64 x226005_1, .string x226006_1, .string x226007_1, .slice none 0 0] 33 (0, 0)) (bk_ BK225)) : gb238 ≠ gb225))
      clear HO_6
      clear BK224
      clear BK225
      clear HB
      have HO_6 := n0_
      have BK224 := n1_
      have BK225 := n2_
      have HB := n3_
      have BK238 := n4_
      have GW238 := n5_
      have GE238 := n6_
      have NB224_238 := n7_
      have NB238_224 := n8_
      have NB225_238 := n9_
      have NB238_225 := n10_
      clear n0_ n1_ n2_ n3_ n4_ n5_ n6_ n7_ n8_ n9_ n10_
      clear hb hbox hg
      refine hK.out _ _ ⟨(blk_cell BK224.out 0).trans rfl, (blk_cell BK224.out 1).trans rfl, (blk_cell BK224.out 2).trans rfl, (blk_cell BK224.out 3).trans rfl, (blk_cell BK224.out 4).trans rfl, (blk_cell BK224.out 5).trans rfl, (blk_cell BK224.out 6).trans rfl, (blk_cell BK224.out 7).trans rfl, ((HB.out.cell (World.block_lt_of_cell? w _ hw227_0)).trans hw227_0), ((HB.out.cell (World.block_lt_of_cell? w _ hw227_1)).trans hw227_1)⟩ (fun hHeld => ?_)
      clear hK K
      refine norm_ (a' := ?_) ?_ ?_
      rotate_left
      ·show Act.put _ (some 8) _ = _
       simp only [Act.put, la_, lb_, lc_, i64_w, i32_w]
       rfl
      refine one_ (i := 5) (N := some 24) d12x16 rfl rfl (one_of HT_.out (by kernel_rfl)) (by decide) (fun K hK => ?_)
      refine goes_ Tryd.func25 (by kernel_rfl) rfl #[.agg #[.bool x225000_1, .bool x225001_1, .bool x225002_1, .bool x225003_1, .int .i64 x225004_1, .int .i64 x225005_1, .string x225006_1, .string x225007_1], .agg #[.string ((rd_T45 l1 x7_1).f0), .string ((rd_T45 l1 x7_1).f1)]] (by rfl) rfl rfl (by (try simp only [List.map_toArray, List.map_cons, List.map_nil]); first | done | rfl | (simp only [List.length_drop, List.length_take]; rfl)) ?_
      with_reducible refine (headgateref21_one.calls k1 x225000_1 x225001_1 x225002_1 x225003_1 x225004_1 x225005_1 x225006_1 x225007_1 ((rd_T45 l1 x7_1).f0) ((rd_T45 l1 x7_1).f1) t228 t229 t230 t231 t232 t233 t234 t235 t236 true _ A9.out).mono ?_
      rintro e w14 ⟨rfl, hb⟩
      refine ⟨_, rfl, ?_⟩
      have n0_ := Aside0.mk (Kd.R_below (by (with_reducible repeat (first | apply Kd.R_alloc | apply Kd.R_drewN | apply Kd.R_drew)); exact HO_6.out) hb)
      have n1_ := Aside0.mk (blk_below (bk_ BK224) hb)
      have n2_ := Aside0.mk (blk_below (bk_ BK225) hb)
      have n3_ := Aside0.mk (blk_below (bk_ BK238) hb)
      have n4_ := Aside0.mk (below_step (hb_ HB) hb)
      clear HO_6
      clear BK224
      clear BK225
      clear BK238
      clear HB
      have HO_6 := n0_
      have BK224 := n1_
      have BK225 := n2_
      have BK238 := n3_
      have HB := n4_
      clear n0_ n1_ n2_ n3_ n4_
      (try clear hb)
      (try clear hb2)
      (try clear hk)
      (try clear hi)
      refine hK.out _ _ ⟨(blk_cell BK224.out 0).trans rfl, (blk_cell BK224.out 1).trans rfl, (blk_cell BK224.out 2).trans rfl, (blk_cell BK224.out 3).trans rfl, (blk_cell BK224.out 4).trans rfl, (blk_cell BK224.out 5).trans rfl, (blk_cell BK224.out 6).trans rfl, (blk_cell BK224.out 7).trans rfl, ((HB.out.cell (World.block_lt_of_cell? w _ hw227_0)).trans hw227_0), ((HB.out.cell (World.block_lt_of_cell? w _ hw227_1)).trans hw227_1)⟩ (fun hHeld => ?_)
      clear hK K
      refine norm_ (a' := ?_) ?_ ?_
      rotate_left
      ·show Act.put _ (some 24) _ = _
       simp only [Act.put, la_, lb_, lc_, i64_w, i32_w]
       rfl
      exact norm_ (by simp only [putAll, Act.put, la_, lb_, lc_]) (hCont (gb238) _ ⟨hHeld, (by (with_reducible repeat (first | apply Kd.R_alloc | apply Kd.R_drewN | apply Kd.R_drew)); exact HO_6.out), (bk_ BK224), (bk_ BK225), (bk_ BK238), GW238.out, GE238.out, NB224_238.out, NB238_224.out, NB225_238.out, NB238_225.out, (hb_ HB)⟩)
    rintro gb238 w15 ⟨hS_, h0_, h1_, h2_, h3_, h4_, h5_, h6_, h7_, h8_, h9_, h10_⟩
    have n0_ : Aside0 (Kd.R k45 45 w15 w.heap.size (fun _ => True) u6 x6_1) := ⟨h0_⟩
    have n1_ : Aside0 (w15.heap[gb224]? = some (.cells #[.bool x225000_1, .bool x225001_1, .bool x225002_1, .bool x225003_1, .int .i64 x225004_1, .int .i64 x225005_1, .string x225006_1, .string x225007_1] 31 (0, 0))) := ⟨h1_⟩
    have n2_ : Aside0 (w15.heap[gb225]? = some (.cells #[.bool x226000_1, .bool x226001_1, .bool x226002_1, .bool x226003_1, .int .i64 x226004_1, .int .i64 x226005_1, .string x226006_1, .string x226007_1, .slice none 0 0] 33 (0, 0))) := ⟨h2_⟩
    have n3_ : Aside0 (w15.heap[gb238]? = some (.cells #[.bool false, .bool false, .bool false, .bool false, .int .i64 0, .int .i64 0, .string (⟨#[]⟩ : ByteArray), .string (⟨#[]⟩ : ByteArray), .string (⟨#[]⟩ : ByteArray), .bool false] 63 (0, 0))) := ⟨h3_⟩
    have n4_ : Aside0 (w.heap.size ≤ gb238) := ⟨h4_⟩
    have n5_ : Aside0 (w.heap.size ≤ gb238) := ⟨h5_⟩
    have n6_ : Aside0 (gb224 ≠ gb238) := ⟨h6_⟩
    have n7_ : Aside0 (gb238 ≠ gb224) := ⟨h7_⟩
    have n8_ : Aside0 (gb225 ≠ gb238) := ⟨h8_⟩
    have n9_ : Aside0 (gb238 ≠ gb225) := ⟨h9_⟩
    have n10_ : Aside0 (Below w.heap.size w w15) := ⟨h10_⟩
    clear HO_6
    clear BK224
    clear BK225
    clear HB
    clear h0_ h1_ h2_ h3_ h4_ h5_ h6_ h7_ h8_ h9_ h10_
    have HO_6 := n0_
    have BK224 := n1_
    have BK225 := n2_
    have BK238 := n3_
    have GW238 := n4_
    have GE238 := n5_
    have NB224_238 := n6_
    have NB238_224 := n7_
    have NB225_238 := n8_
    have NB238_225 := n9_
    have HB := n10_
    clear n0_ n1_ n2_ n3_ n4_ n5_ n6_ n7_ n8_ n9_ n10_
    have hHeld : w15.cell? ⟨gb224, 0, none⟩ = some (.bool x225000_1) ∧ w15.cell? ⟨gb224, 1, none⟩ = some (.bool x225001_1) ∧ w15.cell? ⟨gb224, 2, none⟩ = some (.bool x225002_1) ∧ w15.cell? ⟨gb224, 3, none⟩ = some (.bool x225003_1) ∧ w15.cell? ⟨gb224, 4, none⟩ = some (.int .i64 x225004_1) ∧ w15.cell? ⟨gb224, 5, none⟩ = some (.int .i64 x225005_1) ∧ w15.cell? ⟨gb224, 6, none⟩ = some (.string x225006_1) ∧ w15.cell? ⟨gb224, 7, none⟩ = some (.string x225007_1) ∧ w15.cell? (ad227.add ((x7_1).toNat * 2)) = some (.string ((rd_T45 l1 x7_1).f0)) ∧ w15.cell? ⟨(ad227.add ((x7_1).toNat * 2)).block, (ad227.add ((x7_1).toNat * 2)).off + 1, none⟩ = some (.string ((rd_T45 l1 x7_1).f1)) := hS_
    refine norm_ (a' := ?_) ?_ ?_
    rotate_left
    ·simp only [putAll, Act.put, la_, lb_, lc_]
     rfl
    refine one_ (i := 7) (N := none) d12x22 rfl rfl (one_of HT_.out (by kernel_rfl)) (by decide) (fun K hK => ?_)
    have hs16 : w15.cell? ⟨gb238, 0, none⟩ = some (.bool false) := (blk_cell BK238.out 0).trans rfl
    have hfs16 := blk_frozen BK238.out 0
    have hns16_0 := NB224_238.out
    have hns16_1 := NB225_238.out
    have hms16_0 := NB238_224.out
    have hms16_1 := NB238_225.out
    have hs17 : w15.cell? ⟨gb238, 1, none⟩ = some (.bool false) := (blk_cell BK238.out 1).trans rfl
    have hfs17 := blk_frozen BK238.out 1
    have hns17_0 := NB224_238.out
    have hns17_1 := NB225_238.out
    have hms17_0 := NB238_224.out
    have hms17_1 := NB238_225.out
    have hs18 : w15.cell? ⟨gb238, 2, none⟩ = some (.bool false) := (blk_cell BK238.out 2).trans rfl
    have hfs18 := blk_frozen BK238.out 2
    have hns18_0 := NB224_238.out
    have hns18_1 := NB225_238.out
    have hms18_0 := NB238_224.out
    have hms18_1 := NB238_225.out
    have hs19 : w15.cell? ⟨gb238, 3, none⟩ = some (.bool false) := (blk_cell BK238.out 3).trans rfl
    have hfs19 := blk_frozen BK238.out 3
    have hns19_0 := NB224_238.out
    have hns19_1 := NB225_238.out
    have hms19_0 := NB238_224.out
    have hms19_1 := NB238_225.out
    have hs20 : w15.cell? ⟨gb238, 4, none⟩ = some (.int .i64 0) := (blk_cell BK238.out 4).trans rfl
    have hfs20 := blk_frozen BK238.out 4
    have hns20_0 := NB224_238.out
    have hns20_1 := NB225_238.out
    have hms20_0 := NB238_224.out
    have hms20_1 := NB238_225.out
    have hs21 : w15.cell? ⟨gb238, 5, none⟩ = some (.int .i64 0) := (blk_cell BK238.out 5).trans rfl
    have hfs21 := blk_frozen BK238.out 5
    have hns21_0 := NB224_238.out
    have hns21_1 := NB225_238.out
    have hms21_0 := NB238_224.out
    have hms21_1 := NB238_225.out
    have hs22 : w15.cell? ⟨gb238, 6, none⟩ = some (.string (⟨#[]⟩ : ByteArray)) := (blk_cell BK238.out 6).trans rfl
    have hfs22 := blk_frozen BK238.out 6
    have hns22_0 := NB224_238.out
    have hns22_1 := NB225_238.out
    have hms22_0 := NB238_224.out
    have hms22_1 := NB238_225.out
    have hs23 : w15.cell? ⟨gb238, 7, none⟩ = some (.string (⟨#[]⟩ : ByteArray)) := (blk_cell BK238.out 7).trans rfl
    have hfs23 := blk_frozen BK238.out 7
    have hns23_0 := NB224_238.out
    have hns23_1 := NB225_238.out
    have hms23_0 := NB238_224.out
    have hms23_1 := NB238_225.out
    have hs24 : w15.cell? ⟨gb238, 8, none⟩ = some (.string (⟨#[]⟩ : ByteArray)) := (blk_cell BK238.out 8).trans rfl
    have hfs24 := blk_frozen BK238.out 8
    have hns24_0 := NB224_238.out
    have hns24_1 := NB225_238.out
    have hms24_0 := NB238_224.out
    have hms24_1 := NB238_225.out
    have hs25 : w15.cell? ⟨gb238, 9, none⟩ = some (.bool false) := (blk_cell BK238.out 9).trans rfl
    have hfs25 := blk_frozen BK238.out 9
    have hns25_0 := NB224_238.out
    have hns25_1 := NB225_238.out
    have hms25_0 := NB238_224.out
    have hms25_1 := NB238_225.out
    refine skip_ (w1 := ?_) (by rfl) rfl ?_ ?_
    rotate_left
    ·go_simp
     rfl
    refine hK.out _ _ ⟨((cell_far (p := ⟨gb238, _, none⟩) NB224_238.out _).trans (((cell_far (p := ⟨gb238, _, none⟩) NB224_238.out _).trans (((cell_far (p := ⟨gb238, _, none⟩) NB224_238.out _).trans (((cell_far (p := ⟨gb238, _, none⟩) NB224_238.out _).trans (((cell_far (p := ⟨gb238, _, none⟩) NB224_238.out _).trans (((cell_far (p := ⟨gb238, _, none⟩) NB224_238.out _).trans (((cell_far (p := ⟨gb238, _, none⟩) NB224_238.out _).trans (((cell_far (p := ⟨gb238, _, none⟩) NB224_238.out _).trans (((cell_far (p := ⟨gb238, _, none⟩) NB224_238.out _).trans (((cell_far (p := ⟨gb238, _, none⟩) NB224_238.out _).trans (hHeld.1)))))))))))))))))))), ((cell_far (p := ⟨gb238, _, none⟩) NB224_238.out _).trans (((cell_far (p := ⟨gb238, _, none⟩) NB224_238.out _).trans (((cell_far (p := ⟨gb238, _, none⟩) NB224_238.out _).trans (((cell_far (p := ⟨gb238, _, none⟩) NB224_238.out _).trans (((cell_far (p := ⟨gb238, _, none⟩) NB224_238.out _).trans (((cell_far (p := ⟨gb238, _, none⟩) NB224_238.out _).trans (((cell_far (p := ⟨gb238, _, none⟩) NB224_238.out _).trans (((cell_far (p := ⟨gb238, _, none⟩) NB224_238.out _).trans (((cell_far (p := ⟨gb238, _, none⟩) NB224_238.out _).trans (((cell_far (p := ⟨gb238, _, none⟩) NB224_238.out _).trans (hHeld.2.1)))))))))))))))))))), ((cell_far (p := ⟨gb238, _, none⟩) NB224_238.out _).trans (((cell_far (p := ⟨gb238, _, none⟩) NB224_238.out _).trans (((cell_far (p := ⟨gb238, _, none⟩) NB224_238.out _).trans (((cell_far (p := ⟨gb238, _, none⟩) NB224_238.out _).trans (((cell_far (p := ⟨gb238, _, none⟩) NB224_238.out _).trans (((cell_far (p := ⟨gb238, _, none⟩) NB224_238.out _).trans (((cell_far (p := ⟨gb238, _, none⟩) NB224_238.out _).trans (((cell_far (p := ⟨gb238, _, none⟩) NB224_238.out _).trans (((cell_far (p := ⟨gb238, _, none⟩) NB224_238.out _).trans (((cell_far (p := ⟨gb238, _, none⟩) NB224_238.out _).trans (hHeld.2.2.1)))))))))))))))))))), ((cell_far (p := ⟨gb238, _, none⟩) NB224_238.out _).trans (((cell_far (p := ⟨gb238, _, none⟩) NB224_238.out _).trans (((cell_far (p := ⟨gb238, _, none⟩) NB224_238.out _).trans (((cell_far (p := ⟨gb238, _, none⟩) NB224_238.out _).trans (((cell_far (p := ⟨gb238, _, none⟩) NB224_238.out _).trans (((cell_far (p := ⟨gb238, _, none⟩) NB224_238.out _).trans (((cell_far (p := ⟨gb238, _, none⟩) NB224_238.out _).trans (((cell_far (p := ⟨gb238, _, none⟩) NB224_238.out _).trans (((cell_far (p := ⟨gb238, _, none⟩) NB224_238.out _).trans (((cell_far (p := ⟨gb238, _, none⟩) NB224_238.out _).trans (hHeld.2.2.2.1)))))))))))))))))))), ((cell_far (p := ⟨gb238, _, none⟩) NB224_238.out _).trans (((cell_far (p := ⟨gb238, _, none⟩) NB224_238.out _).trans (((cell_far (p := ⟨gb238, _, none⟩) NB224_238.out _).trans (((cell_far (p := ⟨gb238, _, none⟩) NB224_238.out _).trans (((cell_far (p := ⟨gb238, _, none⟩) NB224_238.out _).trans (((cell_far (p := ⟨gb238, _, none⟩) NB224_238.out _).trans (((cell_far (p := ⟨gb238, _, none⟩) NB224_238.out _).trans (((cell_far (p := ⟨gb238, _, none⟩) NB224_238.out _).trans (((cell_far (p := ⟨gb238, _, none⟩) NB224_238.out _).trans (((cell_far (p := ⟨gb238, _, none⟩) NB224_238.out _).trans (hHeld.2.2.2.2.1)))))))))))))))))))), ((cell_far (p := ⟨gb238, _, none⟩) NB224_238.out _).trans (((cell_far (p := ⟨gb238, _, none⟩) NB224_238.out _).trans (((cell_far (p := ⟨gb238, _, none⟩) NB224_238.out _).trans (((cell_far (p := ⟨gb238, _, none⟩) NB224_238.out _).trans (((cell_far (p := ⟨gb238, _, none⟩) NB224_238.out _).trans (((cell_far (p := ⟨gb238, _, none⟩) NB224_238.out _).trans (((cell_far (p := ⟨gb238, _, none⟩) NB224_238.out _).trans (((cell_far (p := ⟨gb238, _, none⟩) NB224_238.out _).trans (((cell_far (p := ⟨gb238, _, none⟩) NB224_238.out _).trans (((cell_far (p := ⟨gb238, _, none⟩) NB224_238.out _).trans (hHeld.2.2.2.2.2.1)))))))))))))))))))), ((cell_far (p := ⟨gb238, _, none⟩) NB224_238.out _).trans (((cell_far (p := ⟨gb238, _, none⟩) NB224_238.out _).trans (((cell_far (p := ⟨gb238, _, none⟩) NB224_238.out _).trans (((cell_far (p := ⟨gb238, _, none⟩) NB224_238.out _).trans (((cell_far (p := ⟨gb238, _, none⟩) NB224_238.out _).trans (((cell_far (p := ⟨gb238, _, none⟩) NB224_238.out _).trans (((cell_far (p := ⟨gb238, _, none⟩) NB224_238.out _).trans (((cell_far (p := ⟨gb238, _, none⟩) NB224_238.out _).trans (((cell_far (p := ⟨gb238, _, none⟩) NB224_238.out _).trans (((cell_far (p := ⟨gb238, _, none⟩) NB224_238.out _).trans (hHeld.2.2.2.2.2.2.1)))))))))))))))))))), ((cell_far (p := ⟨gb238, _, none⟩) NB224_238.out _).trans (((cell_far (p := ⟨gb238, _, none⟩) NB224_238.out _).trans (((cell_far (p := ⟨gb238, _, none⟩) NB224_238.out _).trans (((cell_far (p := ⟨gb238, _, none⟩) NB224_238.out _).trans (((cell_far (p := ⟨gb238, _, none⟩) NB224_238.out _).trans (((cell_far (p := ⟨gb238, _, none⟩) NB224_238.out _).trans (((cell_far (p := ⟨gb238, _, none⟩) NB224_238.out _).trans (((cell_far (p := ⟨gb238, _, none⟩) NB224_238.out _).trans (((cell_far (p := ⟨gb238, _, none⟩) NB224_238.out _).trans (((cell_far (p := ⟨gb238, _, none⟩) NB224_238.out _).trans (hHeld.2.2.2.2.2.2.2.1)))))))))))))))))))), ((cell_far (p := ⟨gb238, _, none⟩) (by first | exact Nat.ne_of_lt (Nat.lt_of_lt_of_le (by have := World.block_lt_of_cell? _ _ hw227_0; first | rwa [add_block] at this | exact this) GW238.out) | (rw [add_block]; exact Nat.ne_of_lt (Nat.lt_of_lt_of_le (by have := World.block_lt_of_cell? _ _ hw227_0; first | rwa [add_block] at this | exact this) GW238.out)) | (show (Addr.add _ _).block ≠ _; rw [add_block]; exact Nat.ne_of_lt (Nat.lt_of_lt_of_le (by have := World.block_lt_of_cell? _ _ hw227_0; first | rwa [add_block] at this | exact this) GW238.out)) | (dsimp only; exact Nat.ne_of_lt (Nat.lt_of_lt_of_le (by have := World.block_lt_of_cell? _ _ hw227_0; first | rwa [add_block] at this | exact this) GW238.out))) _).trans (((cell_far (p := ⟨gb238, _, none⟩) (by first | exact Nat.ne_of_lt (Nat.lt_of_lt_of_le (by have := World.block_lt_of_cell? _ _ hw227_0; first | rwa [add_block] at this | exact this) GW238.out) | (rw [add_block]; exact Nat.ne_of_lt (Nat.lt_of_lt_of_le (by have := World.block_lt_of_cell? _ _ hw227_0; first | rwa [add_block] at this | exact this) GW238.out)) | (show (Addr.add _ _).block ≠ _; rw [add_block]; exact Nat.ne_of_lt (Nat.lt_of_lt_of_le (by have := World.block_lt_of_cell? _ _ hw227_0; first | rwa [add_block] at this | exact this) GW238.out)) | (dsimp only; exact Nat.ne_of_lt (Nat.lt_of_lt_of_le (by have := World.block_lt_of_cell? _ _ hw227_0; first | rwa [add_block] at this | exact this) GW238.out))) _).trans (((cell_far (p := ⟨gb238, _, none⟩) (by first | exact Nat.ne_of_lt (Nat.lt_of_lt_of_le (by have := World.block_lt_of_cell? _ _ hw227_0; first | rwa [add_block] at this | exact this) GW238.out) | (rw [add_block]; exact Nat.ne_of_lt (Nat.lt_of_lt_of_le (by have := World.block_lt_of_cell? _ _ hw227_0; first | rwa [add_block] at this | exact this) GW238.out)) | (show (Addr.add _ _).block ≠ _; rw [add_block]; exact Nat.ne_of_lt (Nat.lt_of_lt_of_le (by have := World.block_lt_of_cell? _ _ hw227_0; first | rwa [add_block] at this | exact this) GW238.out)) | (dsimp only; exact Nat.ne_of_lt (Nat.lt_of_lt_of_le (by have := World.block_lt_of_cell? _ _ hw227_0; first | rwa [add_block] at this | exact this) GW238.out))) _).trans (((cell_far (p := ⟨gb238, _, none⟩) (by first | exact Nat.ne_of_lt (Nat.lt_of_lt_of_le (by have := World.block_lt_of_cell? _ _ hw227_0; first | rwa [add_block] at this | exact this) GW238.out) | (rw [add_block]; exact Nat.ne_of_lt (Nat.lt_of_lt_of_le (by have := World.block_lt_of_cell? _ _ hw227_0; first | rwa [add_block] at this | exact this) GW238.out)) | (show (Addr.add _ _).block ≠ _; rw [add_block]; exact Nat.ne_of_lt (Nat.lt_of_lt_of_le (by have := World.block_lt_of_cell? _ _ hw227_0; first | rwa [add_block] at this | exact this) GW238.out)) | (dsimp only; exact Nat.ne_of_lt (Nat.lt_of_lt_of_le (by have := World.block_lt_of_cell? _ _ hw227_0; first | rwa [add_block] at this | exact this) GW238.out))) _).trans (((cell_far (p := ⟨gb238, _, none⟩) (by first | exact Nat.ne_of_lt (Nat.lt_of_lt_of_le (by have := World.block_lt_of_cell? _ _ hw227_0; first | rwa [add_block] at this | exact this) GW238.out) | (rw [add_block]; exact Nat.ne_of_lt (Nat.lt_of_lt_of_le (by have := World.block_lt_of_cell? _ _ hw227_0; first | rwa [add_block] at this | exact this) GW238.out)) | (show (Addr.add _ _).block ≠ _; rw [add_block]; exact Nat.ne_of_lt (Nat.lt_of_lt_of_le (by have := World.block_lt_of_cell? _ _ hw227_0; first | rwa [add_block] at this | exact this) GW238.out)) | (dsimp only; exact Nat.ne_of_lt (Nat.lt_of_lt_of_le (by have := World.block_lt_of_cell? _ _ hw227_0; first | rwa [add_block] at this | exact this) GW238.out))) _).trans (((cell_far (p := ⟨gb238, _, none⟩) (by first | exact Nat.ne_of_lt (Nat.lt_of_lt_of_le (by have := World.block_lt_of_cell? _ _ hw227_0; first | rwa [add_block] at this | exact this) GW238.out) | (rw [add_block]; exact Nat.ne_of_lt (Nat.lt_of_lt_of_le (by have := World.block_lt_of_cell? _ _ hw227_0; first | rwa [add_block] at this | exact this) GW238.out)) | (show (Addr.add _ _).block ≠ _; rw [add_block]; exact Nat.ne_of_lt (Nat.lt_of_lt_of_le (by have := World.block_lt_of_cell? _ _ hw227_0; first | rwa [add_block] at this | exact this) GW238.out)) | (dsimp only; exact Nat.ne_of_lt (Nat.lt_of_lt_of_le (by have := World.block_lt_of_cell? _ _ hw227_0; first | rwa [add_block] at this | exact this) GW238.out))) _).trans (((cell_far (p := ⟨gb238, _, none⟩) (by first | exact Nat.ne_of_lt (Nat.lt_of_lt_of_le (by have := World.block_lt_of_cell? _ _ hw227_0; first | rwa [add_block] at this | exact this) GW238.out) | (rw [add_block]; exact Nat.ne_of_lt (Nat.lt_of_lt_of_le (by have := World.block_lt_of_cell? _ _ hw227_0; first | rwa [add_block] at this | exact this) GW238.out)) | (show (Addr.add _ _).block ≠ _; rw [add_block]; exact Nat.ne_of_lt (Nat.lt_of_lt_of_le (by have := World.block_lt_of_cell? _ _ hw227_0; first | rwa [add_block] at this | exact this) GW238.out)) | (dsimp only; exact Nat.ne_of_lt (Nat.lt_of_lt_of_le (by have := World.block_lt_of_cell? _ _ hw227_0; first | rwa [add_block] at this | exact this) GW238.out))) _).trans (((cell_far (p := ⟨gb238, _, none⟩) (by first | exact Nat.ne_of_lt (Nat.lt_of_lt_of_le (by have := World.block_lt_of_cell? _ _ hw227_0; first | rwa [add_block] at this | exact this) GW238.out) | (rw [add_block]; exact Nat.ne_of_lt (Nat.lt_of_lt_of_le (by have := World.block_lt_of_cell? _ _ hw227_0; first | rwa [add_block] at this | exact this) GW238.out)) | (show (Addr.add _ _).block ≠ _; rw [add_block]; exact Nat.ne_of_lt (Nat.lt_of_lt_of_le (by have := World.block_lt_of_cell? _ _ hw227_0; first | rwa [add_block] at this | exact this) GW238.out)) | (dsimp only; exact Nat.ne_of_lt (Nat.lt_of_lt_of_le (by have := World.block_lt_of_cell? _ _ hw227_0; first | rwa [add_block] at this | exact this) GW238.out))) _).trans (((cell_far (p := ⟨gb238, _, none⟩) (by first | exact Nat.ne_of_lt (Nat.lt_of_lt_of_le (by have := World.block_lt_of_cell? _ _ hw227_0; first | rwa [add_block] at this | exact this) GW238.out) | (rw [add_block]; exact Nat.ne_of_lt (Nat.lt_of_lt_of_le (by have := World.block_lt_of_cell? _ _ hw227_0; first | rwa [add_block] at this | exact this) GW238.out)) | (show (Addr.add _ _).block ≠ _; rw [add_block]; exact Nat.ne_of_lt (Nat.lt_of_lt_of_le (by have := World.block_lt_of_cell? _ _ hw227_0; first | rwa [add_block] at this | exact this) GW238.out)) | (dsimp only; exact Nat.ne_of_lt (Nat.lt_of_lt_of_le (by have := World.block_lt_of_cell? _ _ hw227_0; first | rwa [add_block] at this | exact this) GW238.out))) _).trans (((cell_far (p := ⟨gb238, _, none⟩) (by first | exact Nat.ne_of_lt (Nat.lt_of_lt_of_le (by have := World.block_lt_of_cell? _ _ hw227_0; first | rwa [add_block] at this | exact this) GW238.out) | (rw [add_block]; exact Nat.ne_of_lt (Nat.lt_of_lt_of_le (by have := World.block_lt_of_cell? _ _ hw227_0; first | rwa [add_block] at this | exact this) GW238.out)) | (show (Addr.add _ _).block ≠ _; rw [add_block]; exact Nat.ne_of_lt (Nat.lt_of_lt_of_le (by have := World.block_lt_of_cell? _ _ hw227_0; first | rwa [add_block] at this | exact this) GW238.out)) | (dsimp only; exact Nat.ne_of_lt (Nat.lt_of_lt_of_le (by have := World.block_lt_of_cell? _ _ hw227_0; first | rwa [add_block] at this | exact this) GW238.out))) _).trans (hHeld.2.2.2.2.2.2.2.2.1)))))))))))))))))))), ((cell_far (p := ⟨gb238, _, none⟩) (by first | exact Nat.ne_of_lt (Nat.lt_of_lt_of_le (by have := World.block_lt_of_cell? _ _ hw227_1; first | rwa [add_block] at this | exact this) GW238.out) | (rw [add_block]; exact Nat.ne_of_lt (Nat.lt_of_lt_of_le (by have := World.block_lt_of_cell? _ _ hw227_1; first | rwa [add_block] at this | exact this) GW238.out)) | (show (Addr.add _ _).block ≠ _; rw [add_block]; exact Nat.ne_of_lt (Nat.lt_of_lt_of_le (by have := World.block_lt_of_cell? _ _ hw227_1; first | rwa [add_block] at this | exact this) GW238.out)) | (dsimp only; exact Nat.ne_of_lt (Nat.lt_of_lt_of_le (by have := World.block_lt_of_cell? _ _ hw227_1; first | rwa [add_block] at this | exact this) GW238.out))) _).trans (((cell_far (p := ⟨gb238, _, none⟩) (by first | exact Nat.ne_of_lt (Nat.lt_of_lt_of_le (by have := World.block_lt_of_cell? _ _ hw227_1; first | rwa [add_block] at this | exact this) GW238.out) | (rw [add_block]; exact Nat.ne_of_lt (Nat.lt_of_lt_of_le (by have := World.block_lt_of_cell? _ _ hw227_1; first | rwa [add_block] at this | exact this) GW238.out)) | (show (Addr.add _ _).block ≠ _; rw [add_block]; exact Nat.ne_of_lt (Nat.lt_of_lt_of_le (by have := World.block_lt_of_cell? _ _ hw227_1; first | rwa [add_block] at this | exact this) GW238.out)) | (dsimp only; exact Nat.ne_of_lt (Nat.lt_of_lt_of_le (by have := World.block_lt_of_cell? _ _ hw227_1; first | rwa [add_block] at this | exact this) GW238.out))) _).trans (((cell_far (p := ⟨gb238, _, none⟩) (by first | exact Nat.ne_of_lt (Nat.lt_of_lt_of_le (by have := World.block_lt_of_cell? _ _ hw227_1; first | rwa [add_block] at this | exact this) GW238.out) | (rw [add_block]; exact Nat.ne_of_lt (Nat.lt_of_lt_of_le (by have := World.block_lt_of_cell? _ _ hw227_1; first | rwa [add_block] at this | exact this) GW238.out)) | (show (Addr.add _ _).block ≠ _; rw [add_block]; exact Nat.ne_of_lt (Nat.lt_of_lt_of_le (by have := World.block_lt_of_cell? _ _ hw227_1; first | rwa [add_block] at this | exact this) GW238.out)) | (dsimp only; exact Nat.ne_of_lt (Nat.lt_of_lt_of_le (by have := World.block_lt_of_cell? _ _ hw227_1; first | rwa [add_block] at this | exact this) GW238.out))) _).trans (((cell_far (p := ⟨gb238, _, none⟩) (by first | exact Nat.ne_of_lt (Nat.lt_of_lt_of_le (by have := World.block_lt_of_cell? _ _ hw227_1; first | rwa [add_block] at this | exact this) GW238.out) | (rw [add_block]; exact Nat.ne_of_lt (Nat.lt_of_lt_of_le (by have := World.block_lt_of_cell? _ _ hw227_1; first | rwa [add_block] at this | exact this) GW238.out)) | (show (Addr.add _ _).block ≠ _; rw [add_block]; exact Nat.ne_of_lt (Nat.lt_of_lt_of_le (by have := World.block_lt_of_cell? _ _ hw227_1; first | rwa [add_block] at this | exact this) GW238.out)) | (dsimp only; exact Nat.ne_of_lt (Nat.lt_of_lt_of_le (by have := World.block_lt_of_cell? _ _ hw227_1; first | rwa [add_block] at this | exact this) GW238.out))) _).trans (((cell_far (p := ⟨gb238, _, none⟩) (by first | exact Nat.ne_of_lt (Nat.lt_of_lt_of_le (by have := World.block_lt_of_cell? _ _ hw227_1; first | rwa [add_block] at this | exact this) GW238.out) | (rw [add_block]; exact Nat.ne_of_lt (Nat.lt_of_lt_of_le (by have := World.block_lt_of_cell? _ _ hw227_1; first | rwa [add_block] at this | exact this) GW238.out)) | (show (Addr.add _ _).block ≠ _; rw [add_block]; exact Nat.ne_of_lt (Nat.lt_of_lt_of_le (by have := World.block_lt_of_cell? _ _ hw227_1; first | rwa [add_block] at this | exact this) GW238.out)) | (dsimp only; exact Nat.ne_of_lt (Nat.lt_of_lt_of_le (by have := World.block_lt_of_cell? _ _ hw227_1; first | rwa [add_block] at this | exact this) GW238.out))) _).trans (((cell_far (p := ⟨gb238, _, none⟩) (by first | exact Nat.ne_of_lt (Nat.lt_of_lt_of_le (by have := World.block_lt_of_cell? _ _ hw227_1; first | rwa [add_block] at this | exact this) GW238.out) | (rw [add_block]; exact Nat.ne_of_lt (Nat.lt_of_lt_of_le (by have := World.block_lt_of_cell? _ _ hw227_1; first | rwa [add_block] at this | exact this) GW238.out)) | (show (Addr.add _ _).block ≠ _; rw [add_block]; exact Nat.ne_of_lt (Nat.lt_of_lt_of_le (by have := World.block_lt_of_cell? _ _ hw227_1; first | rwa [add_block] at this | exact this) GW238.out)) | (dsimp only; exact Nat.ne_of_lt (Nat.lt_of_lt_of_le (by have := World.block_lt_of_cell? _ _ hw227_1; first | rwa [add_block] at this | exact this) GW238.out))) _).trans (((cell_far (p := ⟨gb238, _, none⟩) (by first | exact Nat.ne_of_lt (Nat.lt_of_lt_of_le (by have := World.block_lt_of_cell? _ _ hw227_1; first | rwa [add_block] at this | exact this) GW238.out) | (rw [add_block]; exact Nat.ne_of_lt (Nat.lt_of_lt_of_le (by have := World.block_lt_of_cell? _ _ hw227_1; first | rwa [add_block] at this | exact this) GW238.out)) | (show (Addr.add _ _).block ≠ _; rw [add_block]; exact Nat.ne_of_lt (Nat.lt_of_lt_of_le (by have := World.block_lt_of_cell? _ _ hw227_1; first | rwa [add_block] at this | exact this) GW238.out)) | (dsimp only; exact Nat.ne_of_lt (Nat.lt_of_lt_of_le (by have := World.block_lt_of_cell? _ _ hw227_1; first | rwa [add_block] at this | exact this) GW238.out))) _).trans (((cell_far (p := ⟨gb238, _, none⟩) (by first | exact Nat.ne_of_lt (Nat.lt_of_lt_of_le (by have := World.block_lt_of_cell? _ _ hw227_1; first | rwa [add_block] at this | exact this) GW238.out) | (rw [add_block]; exact Nat.ne_of_lt (Nat.lt_of_lt_of_le (by have := World.block_lt_of_cell? _ _ hw227_1; first | rwa [add_block] at this | exact this) GW238.out)) | (show (Addr.add _ _).block ≠ _; rw [add_block]; exact Nat.ne_of_lt (Nat.lt_of_lt_of_le (by have := World.block_lt_of_cell? _ _ hw227_1; first | rwa [add_block] at this | exact this) GW238.out)) | (dsimp only; exact Nat.ne_of_lt (Nat.lt_of_lt_of_le (by have := World.block_lt_of_cell? _ _ hw227_1; first | rwa [add_block] at this | exact this) GW238.out))) _).trans (((cell_far (p := ⟨gb238, _, none⟩) (by first | exact Nat.ne_of_lt (Nat.lt_of_lt_of_le (by have := World.block_lt_of_cell? _ _ hw227_1; first | rwa [add_block] at this | exact this) GW238.out) | (rw [add_block]; exact Nat.ne_of_lt (Nat.lt_of_lt_of_le (by have := World.block_lt_of_cell? _ _ hw227_1; first | rwa [add_block] at this | exact this) GW238.out)) | (show (Addr.add _ _).block ≠ _; rw [add_block]; exact Nat.ne_of_lt (Nat.lt_of_lt_of_le (by have := World.block_lt_of_cell? _ _ hw227_1; first | rwa [add_block] at this | exact this) GW238.out)) | (dsimp only; exact Nat.ne_of_lt (Nat.lt_of_lt_of_le (by have := World.block_lt_of_cell? _ _ hw227_1; first | rwa [add_block] at this | exact this) GW238.out))) _).trans (((cell_far (p := ⟨gb238, _, none⟩) (by first | exact Nat.ne_of_lt (Nat.lt_of_lt_of_le (by have := World.block_lt_of_cell? _ _ hw227_1; first | rwa [add_block] at this | exact this) GW238.out) | (rw [add_block]; exact Nat.ne_of_lt (Nat.lt_of_lt_of_le (by have := World.block_lt_of_cell? _ _ hw227_1; first | rwa [add_block] at this | exact this) GW238.out)) | (show (Addr.add _ _).block ≠ _; rw [add_block]; exact Nat.ne_of_lt (Nat.lt_of_lt_of_le (by have := World.block_lt_of_cell? _ _ hw227_1; first | rwa [add_block] at this | exact this) GW238.out)) | (dsimp only; exact Nat.ne_of_lt (Nat.lt_of_lt_of_le (by have := World.block_lt_of_cell? _ _ hw227_1; first | rwa [add_block] at this | exact this) GW238.out))) _).trans (hHeld.2.2.2.2.2.2.2.2.2))))))))))))))))))))⟩ (fun hHeld => ?_)
    clear hK K
    refine done_ (done_of HT_.out (by kernel_rfl)) ?_
    have hnb26 := NB238_224.out
    have hnc26 := NB224_238.out
    have hnb27 := NB238_225.out
    have hnc27 := NB225_238.out
    have hcz28_0 : w15.cell? ⟨gb238, 0, none⟩ = some (.bool false) := (blk_cell BK238.out 0).trans rfl
    have hcz28_1 : w15.cell? ⟨gb238, 1, none⟩ = some (.bool false) := (blk_cell BK238.out 1).trans rfl
    have hcz28_2 : w15.cell? ⟨gb238, 2, none⟩ = some (.bool false) := (blk_cell BK238.out 2).trans rfl
    have hcz28_3 : w15.cell? ⟨gb238, 3, none⟩ = some (.bool false) := (blk_cell BK238.out 3).trans rfl
    have hcz28_4 : w15.cell? ⟨gb238, 4, none⟩ = some (.int .i64 0) := (blk_cell BK238.out 4).trans rfl
    have hcz28_5 : w15.cell? ⟨gb238, 5, none⟩ = some (.int .i64 0) := (blk_cell BK238.out 5).trans rfl
    have hcz28_6 : w15.cell? ⟨gb238, 6, none⟩ = some (.string (⟨#[]⟩ : ByteArray)) := (blk_cell BK238.out 6).trans rfl
    have hcz28_7 : w15.cell? ⟨gb238, 7, none⟩ = some (.string (⟨#[]⟩ : ByteArray)) := (blk_cell BK238.out 7).trans rfl
    have hcz28_8 : w15.cell? ⟨gb238, 8, none⟩ = some (.string (⟨#[]⟩ : ByteArray)) := (blk_cell BK238.out 8).trans rfl
    have hcz28_9 : w15.cell? ⟨gb238, 9, none⟩ = some (.bool false) := (blk_cell BK238.out 9).trans rfl
    have hfz28_0 := blk_frozen BK238.out 0
    have hfz28_1 := blk_frozen BK238.out 1
    have hfz28_2 := blk_frozen BK238.out 2
    have hfz28_3 := blk_frozen BK238.out 3
    have hfz28_4 := blk_frozen BK238.out 4
    have hfz28_5 := blk_frozen BK238.out 5
    have hfz28_6 := blk_frozen BK238.out 6
    have hfz28_7 := blk_frozen BK238.out 7
    have hfz28_8 := blk_frozen BK238.out 8
    have hfz28_9 := blk_frozen BK238.out 9
    have hnb29 := NB224_225.out
    have hnc29 := NB225_224.out
    have hcz30_0 : w15.cell? ⟨gb224, 0, none⟩ = some (.bool x225000_1) := (blk_cell BK224.out 0).trans rfl
    have hcz30_1 : w15.cell? ⟨gb224, 1, none⟩ = some (.bool x225001_1) := (blk_cell BK224.out 1).trans rfl
    have hcz30_2 : w15.cell? ⟨gb224, 2, none⟩ = some (.bool x225002_1) := (blk_cell BK224.out 2).trans rfl
    have hcz30_3 : w15.cell? ⟨gb224, 3, none⟩ = some (.bool x225003_1) := (blk_cell BK224.out 3).trans rfl
    have hcz30_4 : w15.cell? ⟨gb224, 4, none⟩ = some (.int .i64 x225004_1) := (blk_cell BK224.out 4).trans rfl
    have hcz30_5 : w15.cell? ⟨gb224, 5, none⟩ = some (.int .i64 x225005_1) := (blk_cell BK224.out 5).trans rfl
    have hcz30_6 : w15.cell? ⟨gb224, 6, none⟩ = some (.string x225006_1) := (blk_cell BK224.out 6).trans rfl
    have hcz30_7 : w15.cell? ⟨gb224, 7, none⟩ = some (.string x225007_1) := (blk_cell BK224.out 7).trans rfl
    have hfz30_0 := blk_frozen BK224.out 0
    have hfz30_1 := blk_frozen BK224.out 1
    have hfz30_2 := blk_frozen BK224.out 2
    have hfz30_3 := blk_frozen BK224.out 3
    have hfz30_4 := blk_frozen BK224.out 4
    have hfz30_5 := blk_frozen BK224.out 5
    have hfz30_6 := blk_frozen BK224.out 6
    have hfz30_7 := blk_frozen BK224.out 7
    try go_wp2
    go_roundg k1
    case measure => have := HK1.out; omega
    case rel => exact ⟨(x6_1), (wrap64 (x7_1 + 1)), (t228), (t229), (t230), (t231), (t232), (t233), (t234), (t235), (x226000_1), (x226001_1), (x226002_1), (x226003_1), (x226004_1), (x226005_1), (x226006_1), (x226007_1), (by first | rfl | (simp; done) | (simp [*]; done)), H', ⟨by have := HK1.out; omega⟩, ⟨by (with_reducible repeat (first | apply Kd.R_alloc | apply Kd.R_drewN | apply Kd.R_drew)); exact Kd.R_mono (Kd.R_far (p := ⟨gb224, 7, none⟩) (Kd.R_far (p := ⟨gb224, 6, none⟩) (Kd.R_far (p := ⟨gb224, 5, none⟩) (Kd.R_far (p := ⟨gb224, 4, none⟩) (Kd.R_far (p := ⟨gb224, 3, none⟩) (Kd.R_far (p := ⟨gb224, 2, none⟩) (Kd.R_far (p := ⟨gb224, 1, none⟩) (Kd.R_far (p := ⟨gb224, 0, none⟩) (Kd.R_far (p := ⟨gb238, 9, none⟩) (Kd.R_far (p := ⟨gb238, 8, none⟩) (Kd.R_far (p := ⟨gb238, 7, none⟩) (Kd.R_far (p := ⟨gb238, 6, none⟩) (Kd.R_far (p := ⟨gb238, 5, none⟩) (Kd.R_far (p := ⟨gb238, 4, none⟩) (Kd.R_far (p := ⟨gb238, 3, none⟩) (Kd.R_far (p := ⟨gb238, 2, none⟩) (Kd.R_far (p := ⟨gb238, 1, none⟩) (Kd.R_far (p := ⟨gb238, 0, none⟩) (Kd.R_types (Kd.R_types HO_6.out BK238.out (by decide)) BK224.out (by decide)) (fun _ hk => hk.1.2) (.bool t228)) (fun _ hk => hk.1.2) (.bool t229)) (fun _ hk => hk.1.2) (.bool t230)) (fun _ hk => hk.1.2) (.bool t231)) (fun _ hk => hk.1.2) (.int .i64 t232)) (fun _ hk => hk.1.2) (.int .i64 t233)) (fun _ hk => hk.1.2) (.string t234)) (fun _ hk => hk.1.2) (.string t235)) (fun _ hk => hk.1.2) (.string t236)) (fun _ hk => hk.1.2) (.bool true)) (fun _ hk => hk.2) (.bool t228)) (fun _ hk => hk.2) (.bool t229)) (fun _ hk => hk.2) (.bool t230)) (fun _ hk => hk.2) (.bool t231)) (fun _ hk => hk.2) (.int .i64 t232)) (fun _ hk => hk.2) (.int .i64 t233)) (fun _ hk => hk.2) (.string t234)) (fun _ hk => hk.2) (.string t235)) (fun _ hk => trivial)⟩, ⟨by (with_reducible repeat (first | refine blk_drewN ?_ _ | refine blk_drew ?_ | refine blk_alloc ?_ _)); refine blk_put (cs := #[.bool t228, .bool t229, .bool t230, .bool t231, .int .i64 t232, .int .i64 t233, .string t234, .string x225007_1]) ?_ 7 _ rfl; (with_reducible repeat (first | refine blk_drewN ?_ _ | refine blk_drew ?_ | refine blk_alloc ?_ _)); refine blk_put (cs := #[.bool t228, .bool t229, .bool t230, .bool t231, .int .i64 t232, .int .i64 t233, .string x225006_1, .string x225007_1]) ?_ 6 _ rfl; (with_reducible repeat (first | refine blk_drewN ?_ _ | refine blk_drew ?_ | refine blk_alloc ?_ _)); refine blk_put (cs := #[.bool t228, .bool t229, .bool t230, .bool t231, .int .i64 t232, .int .i64 x225005_1, .string x225006_1, .string x225007_1]) ?_ 5 _ rfl; (with_reducible repeat (first | refine blk_drewN ?_ _ | refine blk_drew ?_ | refine blk_alloc ?_ _)); refine blk_put (cs := #[.bool t228, .bool t229, .bool t230, .bool t231, .int .i64 x225004_1, .int .i64 x225005_1, .string x225006_1, .string x225007_1]) ?_ 4 _ rfl; (with_reducible repeat (first | refine blk_drewN ?_ _ | refine blk_drew ?_ | refine blk_alloc ?_ _)); refine blk_put (cs := #[.bool t228, .bool t229, .bool t230, .bool x225003_1, .int .i64 x225004_1, .int .i64 x225005_1, .string x225006_1, .string x225007_1]) ?_ 3 _ rfl; (with_reducible repeat (first | refine blk_drewN ?_ _ | refine blk_drew ?_ | refine blk_alloc ?_ _)); refine blk_put (cs := #[.bool t228, .bool t229, .bool x225002_1, .bool x225003_1, .int .i64 x225004_1, .int .i64 x225005_1, .string x225006_1, .string x225007_1]) ?_ 2 _ rfl; (with_reducible repeat (first | refine blk_drewN ?_ _ | refine blk_drew ?_ | refine blk_alloc ?_ _)); refine blk_put (cs := #[.bool t228, .bool x225001_1, .bool x225002_1, .bool x225003_1, .int .i64 x225004_1, .int .i64 x225005_1, .string x225006_1, .string x225007_1]) ?_ 1 _ rfl; (with_reducible repeat (first | refine blk_drewN ?_ _ | refine blk_drew ?_ | refine blk_alloc ?_ _)); refine blk_put (cs := #[.bool x225000_1, .bool x225001_1, .bool x225002_1, .bool x225003_1, .int .i64 x225004_1, .int .i64 x225005_1, .string x225006_1, .string x225007_1]) ?_ 0 _ rfl; (with_reducible repeat (first | refine blk_drewN ?_ _ | refine blk_drew ?_ | refine blk_alloc ?_ _ | refine blk_far ?_ NB224_238.out _)); exact BK224.out⟩, ⟨by (with_reducible repeat (first | refine blk_drewN ?_ _ | refine blk_drew ?_ | refine blk_alloc ?_ _ | refine blk_far ?_ NB225_224.out _ | refine blk_far ?_ NB225_238.out _)); exact BK225.out⟩, ⟨hb_ HB⟩⟩
   rw [if_neg c11] at H
   have c11b0 : (t236.toList == ([] : List UInt8)) = false := beq_eq_false_iff_ne.mpr c11
   have c11b1 : (t236.toList != ([] : List UInt8)) = true := bne_iff_ne.mpr c11
   (try (have c11b2 : (t236 = ByteArray.empty) = False := eq_false (fun h_ => c11 (by rw [h_, ByteArray.toList_eq]; rfl))))
   refine neg_first (p := (x6_1.length < 4398046511104)) (fun c31 => ?_) (fun c31 => ?_)
   ·rw [if_neg c31] at H
    exact absurd H (by simp)
   rw [if_pos c31] at H
   have LMc31 := Aside0.mk c31
   clear c31
   obtain ⟨y240, hy240⟩ : ∃ y_ : List (S45), y_ = (x6_1 ++ [(⟨(rd_T45 l1 x7_1).f0, t236⟩ : S45)]) := ⟨_, rfl⟩
   replace H : (headgateref21_Answer.l0 k1 l1 y240 (wrap64 (x7_1 + 1)) t228 t229 t230 t231 t232 t233 t234 t235) = some (r1, r2, r3, r4, r5, r6, r7, r8, r9, r10) := by first | (rw [hy240]; with_reducible exact H) | (have H2_ := (Option.bind_some _ _).symm.trans H; rw [hy240]; with_reducible exact H2_) | (have H2_ := (Option.bind_some _ _).symm.trans H; with_reducible exact H2_) | with_reducible exact H | (rw [hy240]; exact H) | exact H
   have Ny240 := Aside0.mk hy240
   clear hy240
   have H' := Aside0.mk H
   clear H
   try go_wp2
   have n0_ := Aside0.mk (Kd.R_drew HO_6.out)
   have n1_ := Aside0.mk (blk_drew BK224.out)
   have n2_ := Aside0.mk (blk_drew BK225.out)
   have n3_ := Aside0.mk (below_drew1 HB.out)
   clear HO_6
   clear BK224
   clear BK225
   clear HB
   have HO_6 := n0_
   have BK224 := n1_
   have BK225 := n2_
   have HB := n3_
   clear n0_ n1_ n2_ n3_
   have p227 : 0 ≤ (x7_1 : Int) := of_decide_eq_true (by first | (with_reducible assumption) | assumption)
   have q227 : x7_1 < (l1.length : Int) := of_decide_eq_true (by first | (with_reducible assumption) | assumption)
   obtain ⟨ad227, e227, hx227_0, hx227_1⟩ := at_T45 HR1.out x7_1 p227 q227
   have hw227_1 := hx227_1
   have hw227_0 := hx227_0
   cases e227
   replace hx227_0 := (HB.out.cell (World.block_lt_of_cell? w _ hx227_0)).trans hx227_0
   replace hx227_1 := (HB.out.cell (World.block_lt_of_cell? w _ hx227_1)).trans hx227_1
   replace p227 := eq_true p227
   replace q227 := eq_true q227
   refine start_ (n := 8) (S := fun w' => w'.cell? ⟨gb224, 0, none⟩ = some (.bool x225000_1) ∧ w'.cell? ⟨gb224, 1, none⟩ = some (.bool x225001_1) ∧ w'.cell? ⟨gb224, 2, none⟩ = some (.bool x225002_1) ∧ w'.cell? ⟨gb224, 3, none⟩ = some (.bool x225003_1) ∧ w'.cell? ⟨gb224, 4, none⟩ = some (.int .i64 x225004_1) ∧ w'.cell? ⟨gb224, 5, none⟩ = some (.int .i64 x225005_1) ∧ w'.cell? ⟨gb224, 6, none⟩ = some (.string x225006_1) ∧ w'.cell? ⟨gb224, 7, none⟩ = some (.string x225007_1) ∧ w'.cell? (ad227.add ((x7_1).toNat * 2)) = some (.string ((rd_T45 l1 x7_1).f0)) ∧ w'.cell? ⟨(ad227.add ((x7_1).toNat * 2)).block, (ad227.add ((x7_1).toNat * 2)).off + 1, none⟩ = some (.string ((rd_T45 l1 x7_1).f1))) (ds := []) d12x1 (by kernel_rfl) rfl rfl ⟨(blk_cell BK224.out 0).trans rfl, (blk_cell BK224.out 1).trans rfl, (blk_cell BK224.out 2).trans rfl, (blk_cell BK224.out 3).trans rfl, (blk_cell BK224.out 4).trans rfl, (blk_cell BK224.out 5).trans rfl, (blk_cell BK224.out 6).trans rfl, (blk_cell BK224.out 7).trans rfl, ((HB.out.cell (World.block_lt_of_cell? w _ hw227_0)).trans hw227_0), ((HB.out.cell (World.block_lt_of_cell? w _ hw227_1)).trans hw227_1)⟩ (fun hHeld => ?_); refine with_tabW headgateref21_Answer.tab7 headgateref21_Answer.bits7 (fun HT_ HW_ => ?_)
   generalize wr.drew = w32 at HO_6 BK224 BK225 HB hx227_0 hx227_1 hHeld ⊢
   refine pon_ 1 (some 20) d12x2 HT_.out ?_
   refine pon_ 2 (some 21) d12x3 HT_.out ?_
   refine pon_ 3 (some 22) d12x4 HT_.out ?_
   refine ptk_ 0 (some 19) d12x9 HT_.out HW_.out hHeld ?_
   refine ptk_ 4 (some 23) d12x11 HT_.out HW_.out hHeld ?_
   refine join_ (σ := Nat) 1 d12x16 (fun s_ => [(24, .agg #[.bool t228, .bool t229, .bool t230, .bool t231, .int .i64 t232, .int .i64 t233, .string t234, .string t235, .string t236, .bool true]), (8, .pointer (some ⟨s_, 0, none⟩))]) (fun s_ w' => (w'.cell? ⟨gb224, 0, none⟩ = some (.bool x225000_1) ∧ w'.cell? ⟨gb224, 1, none⟩ = some (.bool x225001_1) ∧ w'.cell? ⟨gb224, 2, none⟩ = some (.bool x225002_1) ∧ w'.cell? ⟨gb224, 3, none⟩ = some (.bool x225003_1) ∧ w'.cell? ⟨gb224, 4, none⟩ = some (.int .i64 x225004_1) ∧ w'.cell? ⟨gb224, 5, none⟩ = some (.int .i64 x225005_1) ∧ w'.cell? ⟨gb224, 6, none⟩ = some (.string x225006_1) ∧ w'.cell? ⟨gb224, 7, none⟩ = some (.string x225007_1) ∧ w'.cell? (ad227.add ((x7_1).toNat * 2)) = some (.string ((rd_T45 l1 x7_1).f0)) ∧ w'.cell? ⟨(ad227.add ((x7_1).toNat * 2)).block, (ad227.add ((x7_1).toNat * 2)).off + 1, none⟩ = some (.string ((rd_T45 l1 x7_1).f1))) ∧ (Kd.R k45 45 w' w.heap.size (fun _ => True) u6 x6_1) ∧ (w'.heap[gb224]? = some (.cells #[.bool x225000_1, .bool x225001_1, .bool x225002_1, .bool x225003_1, .int .i64 x225004_1, .int .i64 x225005_1, .string x225006_1, .string x225007_1] 31 (0, 0))) ∧ (w'.heap[gb225]? = some (.cells #[.bool x226000_1, .bool x226001_1, .bool x226002_1, .bool x226003_1, .int .i64 x226004_1, .int .i64 x226005_1, .string x226006_1, .string x226007_1, .slice none 0 0] 33 (0, 0))) ∧ (w'.heap[s_]? = some (.cells #[.bool false, .bool false, .bool false, .bool false, .int .i64 0, .int .i64 0, .string (⟨#[]⟩ : ByteArray), .string (⟨#[]⟩ : ByteArray), .string (⟨#[]⟩ : ByteArray), .bool false] 63 (0, 0))) ∧ (w.heap.size ≤ s_) ∧ (w.heap.size ≤ s_) ∧ (gb224 ≠ s_) ∧ (s_ ≠ gb224) ∧ (gb225 ≠ s_) ∧ (s_ ≠ gb225) ∧ (Below w.heap.size w w')) ?_ ?_
   rotate_left
   ·intro hCont
    refine two_ (i := 5) (j := 6) (Ni := some 24) (Nj := some 8) d12x14 d12x13 rfl rfl rfl rfl (two_of HT_.out (by kernel_rfl)) (by decide) (by decide) (fun K hK => ?_) (fun K hK => ?_)
    ·skip
     refine goes_ Tryd.func25 (by kernel_rfl) rfl #[.agg #[.bool x225000_1, .bool x225001_1, .bool x225002_1, .bool x225003_1, .int .i64 x225004_1, .int .i64 x225005_1, .string x225006_1, .string x225007_1], .agg #[.string ((rd_T45 l1 x7_1).f0), .string ((rd_T45 l1 x7_1).f1)]] (by rfl) rfl rfl (by (try simp only [List.map_toArray, List.map_cons, List.map_nil]); first | done | rfl | (simp only [List.length_drop, List.length_take]; rfl)) ?_
     with_reducible refine (headgateref21_one.calls k1 x225000_1 x225001_1 x225002_1 x225003_1 x225004_1 x225005_1 x225006_1 x225007_1 ((rd_T45 l1 x7_1).f0) ((rd_T45 l1 x7_1).f1) t228 t229 t230 t231 t232 t233 t234 t235 t236 true _ A9.out).mono ?_
     rintro e w33 ⟨rfl, hb⟩
     refine ⟨_, rfl, ?_⟩
     have n0_ := Aside0.mk (Kd.R_below (by (with_reducible repeat (first | apply Kd.R_alloc | apply Kd.R_drewN | apply Kd.R_drew)); exact HO_6.out) hb)
     have n1_ := Aside0.mk (blk_below (bk_ BK224) hb)
     have n2_ := Aside0.mk (blk_below (bk_ BK225) hb)
     have n3_ := Aside0.mk (below_step (hb_ HB) hb)
     clear HO_6
     clear BK224
     clear BK225
     clear HB
     have HO_6 := n0_
     have BK224 := n1_
     have BK225 := n2_
     have HB := n3_
     clear n0_ n1_ n2_ n3_
     (try clear hb)
     (try clear hb2)
     (try clear hk)
     (try clear hi)
     refine hK.out _ _ ⟨(blk_cell BK224.out 0).trans rfl, (blk_cell BK224.out 1).trans rfl, (blk_cell BK224.out 2).trans rfl, (blk_cell BK224.out 3).trans rfl, (blk_cell BK224.out 4).trans rfl, (blk_cell BK224.out 5).trans rfl, (blk_cell BK224.out 6).trans rfl, (blk_cell BK224.out 7).trans rfl, ((HB.out.cell (World.block_lt_of_cell? w _ hw227_0)).trans hw227_0), ((HB.out.cell (World.block_lt_of_cell? w _ hw227_1)).trans hw227_1)⟩ (fun hHeld => ?_)
     clear hK K
     refine norm_ (a' := ?_) ?_ ?_
     rotate_left
     ·show Act.put _ (some 24) _ = _
      simp only [Act.put, la_, lb_, lc_, i64_w, i32_w]
      rfl
     refine one_ (i := 6) (N := some 8) d12x16 rfl rfl (one_of HT_.out (by kernel_rfl)) (by decide) (fun K hK => ?_)
     refine box_step ?hg (N := 8) ?hd (cs := #[.bool false, .bool false, .bool false, .bool false, .int .i64 0, .int .i64 0, .string (⟨#[]⟩ : ByteArray), .string (⟨#[]⟩ : ByteArray), .string (⟨#[]⟩ : ByteArray), .bool false]) (t := 63) ?hr ?_; (case hd => rfl); (case hg => rfl); (case hr => first | (go_simp; done) | (go_simp; rfl))
     intro gb238 hg w34 hbox hb
     have n0_ := Aside0.mk (Kd.R_below (by (with_reducible repeat (first | apply Kd.R_alloc | apply Kd.R_drewN | apply Kd.R_drew)); exact HO_6.out) hb)
     have n1_ := Aside0.mk (blk_below (bk_ BK224) hb)
     have n2_ := Aside0.mk (blk_below (bk_ BK225) hb)
     have n3_ := Aside0.mk (below_step (hb_ HB) hb)
     have n4_ := Aside0.mk (hbox)
     have n5_ := Aside0.mk ((by rw [hg]; exact (below_size (hb_ HB)) : w.heap.size ≤ gb238))
     have n6_ := Aside0.mk ((by rw [hg]; exact (below_size (hb_ HB)) : w.heap.size ≤ gb238))
     have n7_ := Aside0.mk ((by rw [hg]; exact Nat.ne_of_lt (blk_lt (g := gb224) (o := .cells #[.bool x225000_1, .bool x225001_1, .bool x225002_1, .bool x225003_1, .int .i64 x225004_1, .int .i64 x225005_1, .string x225006_1, .string x225007_1] 31 (0, 0)) (bk_ BK224)) : gb224 ≠ gb238))
     have n8_ := Aside0.mk ((by rw [hg]; exact Nat.ne_of_gt (blk_lt (g := gb224) (o := .cells #[.bool x225000_1, .bool x225001_1, .bool x225002_1, .bool x225003_1, .int .i64 x225004_1, .int .i64 x225005_1, .string x225006_1, .string x225007_1] 31 (0, 0)) (bk_ BK224)) : gb238 ≠ gb224))
     have n9_ := Aside0.mk ((by rw [hg]; exact Nat.ne_of_lt (blk_lt (g := gb225) (o := .cells #[.bool x226000_1, .bool x226001_1, .bool x226002_1, .bool x226003_1, .int .i64 x226004_1, .int .i64 x226005_1, .string x226006_1, .string x226007_1, .slice none 0 0] 33 (0, 0)) (bk_ BK225)) : gb225 ≠ gb238))
     have n10_ := Aside0.mk ((by rw [hg]; exact Nat.ne_of_gt (blk_lt (g := gb225) (o := .cells #[.bool x226000_1, .bool x226001_1, .bool x226002_1, .bool x226003_1, .int .i64 x226004_1, .int .i64 x226005_1, .string x226006_1, .string x226007_1, .slice none 0 0] 33 (0, 0)) (bk_ BK225)) : gb238 ≠ gb225))
     clear HO_6
     clear BK224
     clear BK225
     clear HB
     have HO_6 := n0_
     have BK224 := n1_
     have BK225 := n2_
     have HB := n3_
     have BK238 := n4_
     have GW238 := n5_
     have GE238 := n6_
     have NB224_238 := n7_
     have NB238_224 := n8_
     have NB225_238 := n9_
     have NB238_225 := n10_
     clear n0_ n1_ n2_ n3_ n4_ n5_ n6_ n7_ n8_ n9_ n10_
     clear hb hbox hg
     refine hK.out _ _ ⟨(blk_cell BK224.out 0).trans rfl, (blk_cell BK224.out 1).trans rfl, (blk_cell BK224.out 2).trans rfl, (blk_cell BK224.out 3).trans rfl, (blk_cell BK224.out 4).trans rfl, (blk_cell BK224.out 5).trans rfl, (blk_cell BK224.out 6).trans rfl, (blk_cell BK224.out 7).trans rfl, ((HB.out.cell (World.block_lt_of_cell? w _ hw227_0)).trans hw227_0), ((HB.out.cell (World.block_lt_of_cell? w _ hw227_1)).trans hw227_1)⟩ (fun hHeld => ?_)
     clear hK K
     refine norm_ (a' := ?_) ?_ ?_
     rotate_left
     ·show Act.put _ (some 8) _ = _
      simp only [Act.put, la_, lb_, lc_, i64_w, i32_w]
      rfl
     exact norm_ (by simp only [putAll, Act.put, la_, lb_, lc_]) (hCont (gb238) _ ⟨hHeld, (by (with_reducible repeat (first | apply Kd.R_alloc | apply Kd.R_drewN | apply Kd.R_drew)); exact HO_6.out), (bk_ BK224), (bk_ BK225), (bk_ BK238), GW238.out, GE238.out, NB224_238.out, NB238_224.out, NB225_238.out, NB238_225.out, (hb_ HB)⟩)
    ·skip
     refine box_step ?hg (N := 8) ?hd (cs := #[.bool false, .bool false, .bool false, .bool false, .int .i64 0, .int .i64 0, .string (⟨#[]⟩ : ByteArray), .string (⟨#[]⟩ : ByteArray), .string (⟨#[]⟩ : ByteArray), .bool false]) (t := 63) ?hr ?_; (case hd => rfl); (case hg => rfl); (case hr => first | (go_simp; done) | (go_simp; rfl))
     intro gb238 hg w33 hbox hb
     have n0_ := Aside0.mk (Kd.R_below (by (with_reducible repeat (first | apply Kd.R_alloc | apply Kd.R_drewN | apply Kd.R_drew)); exact HO_6.out) hb)
     have n1_ := Aside0.mk (blk_below (bk_ BK224) hb)
     have n2_ := Aside0.mk (blk_below (bk_ BK225) hb)
     have n3_ := Aside0.mk (below_step (hb_ HB) hb)
     have n4_ := Aside0.mk (hbox)
     have n5_ := Aside0.mk ((by rw [hg]; exact (below_size (hb_ HB)) : w.heap.size ≤ gb238))
     have n6_ := Aside0.mk ((by rw [hg]; exact (below_size (hb_ HB)) : w.heap.size ≤ gb238))
     have n7_ := Aside0.mk ((by rw [hg]; exact Nat.ne_of_lt (blk_lt (g := gb224) (o := .cells #[.bool x225000_1, .bool x225001_1, .bool x225002_1, .bool x225003_1, .int .i64 x225004_1, .int .i64 x225005_1, .string x225006_1, .string x225007_1] 31 (0, 0)) (bk_ BK224)) : gb224 ≠ gb238))
     have n8_ := Aside0.mk ((by rw [hg]; exact Nat.ne_of_gt (blk_lt (g := gb224) (o := .cells #[.bool x225000_1, .bool x225001_1, .bool x225002_1, .bool x225003_1, .int .i64 x225004_1, .int .i64 x225005_1, .string x225006_1, .string x225007_1] 31 (0, 0)) (bk_ BK224)) : gb238 ≠ gb224))
     have n9_ := Aside0.mk ((by rw [hg]; exact Nat.ne_of_lt (blk_lt (g := gb225) (o := .cells #[.bool x226000_1, .bool x226001_1, .bool x226002_1, .bool x226003_1, .int .i64 x226004_1, .int .i64 x226005_1, .string x226006_1, .string x226007_1, .slice none 0 0] 33 (0, 0)) (bk_ BK225)) : gb225 ≠ gb238))
     have n10_ := Aside0.mk ((by rw [hg]; exact Nat.ne_of_gt (blk_lt (g := gb225) (o := .cells #[.bool x226000_1, .bool x226001_1, .bool x226002_1, .bool x226003_1, .int .i64 x226004_1, .int .i64 x226005_1, .string x226006_1, .string x226007_1, .slice none 0 0] 33 (0, 0)) (bk_ BK225)) : gb238 ≠ gb225))
     clear HO_6
     clear BK224
     clear BK225
     clear HB
     have HO_6 := n0_
     have BK224 := n1_
     have BK225 := n2_
     have HB := n3_
     have BK238 := n4_
     have GW238 := n5_
     have GE238 := n6_
     have NB224_238 := n7_
     have NB238_224 := n8_
     have NB225_238 := n9_
     have NB238_225 := n10_
     clear n0_ n1_ n2_ n3_ n4_ n5_ n6_ n7_ n8_ n9_ n10_
     clear hb hbox hg
     refine hK.out _ _ ⟨(blk_cell BK224.out 0).trans rfl, (blk_cell BK224.out 1).trans rfl, (blk_cell BK224.out 2).trans rfl, (blk_cell BK224.out 3).trans rfl, (blk_cell BK224.out 4).trans rfl, (blk_cell BK224.out 5).trans rfl, (blk_cell BK224.out 6).trans rfl, (blk_cell BK224.out 7).trans rfl, ((HB.out.cell (World.block_lt_of_cell? w _ hw227_0)).trans hw227_0), ((HB.out.cell (World.block_lt_of_cell? w _ hw227_1)).trans hw227_1)⟩ (fun hHeld => ?_)
     clear hK K
     refine norm_ (a' := ?_) ?_ ?_
     rotate_left
     ·show Act.put _ (some 8) _ = _
      simp only [Act.put, la_, lb_, lc_, i64_w, i32_w]
      rfl
     refine one_ (i := 5) (N := some 24) d12x16 rfl rfl (one_of HT_.out (by kernel_rfl)) (by decide) (fun K hK => ?_)
     refine goes_ Tryd.func25 (by kernel_rfl) rfl #[.agg #[.bool x225000_1, .bool x225001_1, .bool x225002_1, .bool x225003_1, .int .i64 x225004_1, .int .i64 x225005_1, .string x225006_1, .string x225007_1], .agg #[.string ((rd_T45 l1 x7_1).f0), .string ((rd_T45 l1 x7_1).f1)]] (by rfl) rfl rfl (by (try simp only [List.map_toArray, List.map_cons, List.map_nil]); first | done | rfl | (simp only [List.length_drop, List.length_take]; rfl)) ?_
     with_reducible refine (headgateref21_one.calls k1 x225000_1 x225001_1 x225002_1 x225003_1 x225004_1 x225005_1 x225006_1 x225007_1 ((rd_T45 l1 x7_1).f0) ((rd_T45 l1 x7_1).f1) t228 t229 t230 t231 t232 t233 t234 t235 t236 true _ A9.out).mono ?_
     rintro e w34 ⟨rfl, hb⟩
     refine ⟨_, rfl, ?_⟩
     have n0_ := Aside0.mk (Kd.R_below (by (with_reducible repeat (first | apply Kd.R_alloc | apply Kd.R_drewN | apply Kd.R_drew)); exact HO_6.out) hb)
     have n1_ := Aside0.mk (blk_below (bk_ BK224) hb)
     have n2_ := Aside0.mk (blk_below (bk_ BK225) hb)
     have n3_ := Aside0.mk (blk_below (bk_ BK238) hb)
     have n4_ := Aside0.mk (below_step (hb_ HB) hb)
     clear HO_6
     clear BK224
     clear BK225
     clear BK238
     clear HB
     have HO_6 := n0_
     have BK224 := n1_
     have BK225 := n2_
     have BK238 := n3_
     have HB := n4_
     clear n0_ n1_ n2_ n3_ n4_
     (try clear hb)
     (try clear hb2)
     (try clear hk)
     (try clear hi)
     refine hK.out _ _ ⟨(blk_cell BK224.out 0).trans rfl, (blk_cell BK224.out 1).trans rfl, (blk_cell BK224.out 2).trans rfl, (blk_cell BK224.out 3).trans rfl, (blk_cell BK224.out 4).trans rfl, (blk_cell BK224.out 5).trans rfl, (blk_cell BK224.out 6).trans rfl, (blk_cell BK224.out 7).trans rfl, ((HB.out.cell (World.block_lt_of_cell? w _ hw227_0)).trans hw227_0), ((HB.out.cell (World.block_lt_of_cell? w _ hw227_1)).trans hw227_1)⟩ (fun hHeld => ?_)
     clear hK K
     refine norm_ (a' := ?_) ?_ ?_
     rotate_left
     ·show Act.put _ (some 24) _ = _
      simp only [Act.put, la_, lb_, lc_, i64_w, i32_w]
      rfl
     exact norm_ (by simp only [putAll, Act.put, la_, lb_, lc_]) (hCont (gb238) _ ⟨hHeld, (by (with_reducible repeat (first | apply Kd.R_alloc | apply Kd.R_drewN | apply Kd.R_drew)); exact HO_6.out), (bk_ BK224), (bk_ BK225), (bk_ BK238), GW238.out, GE238.out, NB224_238.out, NB238_224.out, NB225_238.out, NB238_225.out, (hb_ HB)⟩)
   rintro gb238 w35 ⟨hS_, h0_, h1_, h2_, h3_, h4_, h5_, h6_, h7_, h8_, h9_, h10_⟩
   have n0_ : Aside0 (Kd.R k45 45 w35 w.heap.size (fun _ => True) u6 x6_1) := ⟨h0_⟩
   have n1_ : Aside0 (w35.heap[gb224]? = some (.cells #[.bool x225000_1, .bool x225001_1, .bool x225002_1, .bool x225003_1, .int .i64 x225004_1, .int .i64 x225005_1, .string x225006_1, .string x225007_1] 31 (0, 0))) := ⟨h1_⟩
   have n2_ : Aside0 (w35.heap[gb225]? = some (.cells #[.bool x226000_1, .bool x226001_1, .bool x226002_1, .bool x226003_1, .int .i64 x226004_1, .int .i64 x226005_1, .string x226006_1, .string x226007_1, .slice none 0 0] 33 (0, 0))) := ⟨h2_⟩
   have n3_ : Aside0 (w35.heap[gb238]? = some (.cells #[.bool false, .bool false, .bool false, .bool false, .int .i64 0, .int .i64 0, .string (⟨#[]⟩ : ByteArray), .string (⟨#[]⟩ : ByteArray), .string (⟨#[]⟩ : ByteArray), .bool false] 63 (0, 0))) := ⟨h3_⟩
   have n4_ : Aside0 (w.heap.size ≤ gb238) := ⟨h4_⟩
   have n5_ : Aside0 (w.heap.size ≤ gb238) := ⟨h5_⟩
   have n6_ : Aside0 (gb224 ≠ gb238) := ⟨h6_⟩
   have n7_ : Aside0 (gb238 ≠ gb224) := ⟨h7_⟩
   have n8_ : Aside0 (gb225 ≠ gb238) := ⟨h8_⟩
   have n9_ : Aside0 (gb238 ≠ gb225) := ⟨h9_⟩
   have n10_ : Aside0 (Below w.heap.size w w35) := ⟨h10_⟩
   clear HO_6
   clear BK224
   clear BK225
   clear HB
   clear h0_ h1_ h2_ h3_ h4_ h5_ h6_ h7_ h8_ h9_ h10_
   have HO_6 := n0_
   have BK224 := n1_
   have BK225 := n2_
   have BK238 := n3_
   have GW238 := n4_
   have GE238 := n5_
   have NB224_238 := n6_
   have NB238_224 := n7_
   have NB225_238 := n8_
   have NB238_225 := n9_
   have HB := n10_
   clear n0_ n1_ n2_ n3_ n4_ n5_ n6_ n7_ n8_ n9_ n10_
   have hHeld : w35.cell? ⟨gb224, 0, none⟩ = some (.bool x225000_1) ∧ w35.cell? ⟨gb224, 1, none⟩ = some (.bool x225001_1) ∧ w35.cell? ⟨gb224, 2, none⟩ = some (.bool x225002_1) ∧ w35.cell? ⟨gb224, 3, none⟩ = some (.bool x225003_1) ∧ w35.cell? ⟨gb224, 4, none⟩ = some (.int .i64 x225004_1) ∧ w35.cell? ⟨gb224, 5, none⟩ = some (.int .i64 x225005_1) ∧ w35.cell? ⟨gb224, 6, none⟩ = some (.string x225006_1) ∧ w35.cell? ⟨gb224, 7, none⟩ = some (.string x225007_1) ∧ w35.cell? (ad227.add ((x7_1).toNat * 2)) = some (.string ((rd_T45 l1 x7_1).f0)) ∧ w35.cell? ⟨(ad227.add ((x7_1).toNat * 2)).block, (ad227.add ((x7_1).toNat * 2)).off + 1, none⟩ = some (.string ((rd_T45 l1 x7_1).f1)) := hS_
   refine norm_ (a' := ?_) ?_ ?_
   rotate_left
   ·simp only [putAll, Act.put, la_, lb_, lc_]
    rfl
   refine one_ (i := 7) (N := none) d12x22 rfl rfl (one_of HT_.out (by kernel_rfl)) (by decide) (fun K hK => ?_)
   have hs36 : w35.cell? ⟨gb238, 0, none⟩ = some (.bool false) := (blk_cell BK238.out 0).trans rfl
   have hfs36 := blk_frozen BK238.out 0
   have hns36_0 := NB224_238.out
   have hns36_1 := NB225_238.out
   have hms36_0 := NB238_224.out
   have hms36_1 := NB238_225.out
   have hs37 : w35.cell? ⟨gb238, 1, none⟩ = some (.bool false) := (blk_cell BK238.out 1).trans rfl
   have hfs37 := blk_frozen BK238.out 1
   have hns37_0 := NB224_238.out
   have hns37_1 := NB225_238.out
   have hms37_0 := NB238_224.out
   have hms37_1 := NB238_225.out
   have hs38 : w35.cell? ⟨gb238, 2, none⟩ = some (.bool false) := (blk_cell BK238.out 2).trans rfl
   have hfs38 := blk_frozen BK238.out 2
   have hns38_0 := NB224_238.out
   have hns38_1 := NB225_238.out
   have hms38_0 := NB238_224.out
   have hms38_1 := NB238_225.out
   have hs39 : w35.cell? ⟨gb238, 3, none⟩ = some (.bool false) := (blk_cell BK238.out 3).trans rfl
   have hfs39 := blk_frozen BK238.out 3
   have hns39_0 := NB224_238.out
   have hns39_1 := NB225_238.out
   have hms39_0 := NB238_224.out
   have hms39_1 := NB238_225.out
   have hs40 : w35.cell? ⟨gb238, 4, none⟩ = some (.int .i64 0) := (blk_cell BK238.out 4).trans rfl
   have hfs40 := blk_frozen BK238.out 4
   have hns40_0 := NB224_238.out
   have hns40_1 := NB225_238.out
   have hms40_0 := NB238_224.out
   have hms40_1 := NB238_225.out
   have hs41 : w35.cell? ⟨gb238, 5, none⟩ = some (.int .i64 0) := (blk_cell BK238.out 5).trans rfl
   have hfs41 := blk_frozen BK238.out 5
   have hns41_0 := NB224_238.out
   have hns41_1 := NB225_238.out
   have hms41_0 := NB238_224.out
   have hms41_1 := NB238_225.out
   have hs42 : w35.cell? ⟨gb238, 6, none⟩ = some (.string (⟨#[]⟩ : ByteArray)) := (blk_cell BK238.out 6).trans rfl
   have hfs42 := blk_frozen BK238.out 6
   have hns42_0 := NB224_238.out
   have hns42_1 := NB225_238.out
   have hms42_0 := NB238_224.out
   have hms42_1 := NB238_225.out
   have hs43 : w35.cell? ⟨gb238, 7, none⟩ = some (.string (⟨#[]⟩ : ByteArray)) := (blk_cell BK238.out 7).trans rfl
   have hfs43 := blk_frozen BK238.out 7
   have hns43_0 := NB224_238.out
   have hns43_1 := NB225_238.out
   have hms43_0 := NB238_224.out
   have hms43_1 := NB238_225.out
   have hs44 : w35.cell? ⟨gb238, 8, none⟩ = some (.string (⟨#[]⟩ : ByteArray)) := (blk_cell BK238.out 8).trans rfl
   have hfs44 := blk_frozen BK238.out 8
   have hns44_0 := NB224_238.out
   have hns44_1 := NB225_238.out
   have hms44_0 := NB238_224.out
   have hms44_1 := NB238_225.out
   have hs45 : w35.cell? ⟨gb238, 9, none⟩ = some (.bool false) := (blk_cell BK238.out 9).trans rfl
   have hfs45 := blk_frozen BK238.out 9
   have hns45_0 := NB224_238.out
   have hns45_1 := NB225_238.out
   have hms45_0 := NB238_224.out
   have hms45_1 := NB238_225.out
   refine skip_ (w1 := ?_) (by rfl) rfl ?_ ?_
   rotate_left
   ·go_simp
    rfl
   refine hK.out _ _ ⟨((cell_far (p := ⟨gb238, _, none⟩) NB224_238.out _).trans (((cell_far (p := ⟨gb238, _, none⟩) NB224_238.out _).trans (((cell_far (p := ⟨gb238, _, none⟩) NB224_238.out _).trans (((cell_far (p := ⟨gb238, _, none⟩) NB224_238.out _).trans (((cell_far (p := ⟨gb238, _, none⟩) NB224_238.out _).trans (((cell_far (p := ⟨gb238, _, none⟩) NB224_238.out _).trans (((cell_far (p := ⟨gb238, _, none⟩) NB224_238.out _).trans (((cell_far (p := ⟨gb238, _, none⟩) NB224_238.out _).trans (((cell_far (p := ⟨gb238, _, none⟩) NB224_238.out _).trans (((cell_far (p := ⟨gb238, _, none⟩) NB224_238.out _).trans (hHeld.1)))))))))))))))))))), ((cell_far (p := ⟨gb238, _, none⟩) NB224_238.out _).trans (((cell_far (p := ⟨gb238, _, none⟩) NB224_238.out _).trans (((cell_far (p := ⟨gb238, _, none⟩) NB224_238.out _).trans (((cell_far (p := ⟨gb238, _, none⟩) NB224_238.out _).trans (((cell_far (p := ⟨gb238, _, none⟩) NB224_238.out _).trans (((cell_far (p := ⟨gb238, _, none⟩) NB224_238.out _).trans (((cell_far (p := ⟨gb238, _, none⟩) NB224_238.out _).trans (((cell_far (p := ⟨gb238, _, none⟩) NB224_238.out _).trans (((cell_far (p := ⟨gb238, _, none⟩) NB224_238.out _).trans (((cell_far (p := ⟨gb238, _, none⟩) NB224_238.out _).trans (hHeld.2.1)))))))))))))))))))), ((cell_far (p := ⟨gb238, _, none⟩) NB224_238.out _).trans (((cell_far (p := ⟨gb238, _, none⟩) NB224_238.out _).trans (((cell_far (p := ⟨gb238, _, none⟩) NB224_238.out _).trans (((cell_far (p := ⟨gb238, _, none⟩) NB224_238.out _).trans (((cell_far (p := ⟨gb238, _, none⟩) NB224_238.out _).trans (((cell_far (p := ⟨gb238, _, none⟩) NB224_238.out _).trans (((cell_far (p := ⟨gb238, _, none⟩) NB224_238.out _).trans (((cell_far (p := ⟨gb238, _, none⟩) NB224_238.out _).trans (((cell_far (p := ⟨gb238, _, none⟩) NB224_238.out _).trans (((cell_far (p := ⟨gb238, _, none⟩) NB224_238.out _).trans (hHeld.2.2.1)))))))))))))))))))), ((cell_far (p := ⟨gb238, _, none⟩) NB224_238.out _).trans (((cell_far (p := ⟨gb238, _, none⟩) NB224_238.out _).trans (((cell_far (p := ⟨gb238, _, none⟩) NB224_238.out _).trans (((cell_far (p := ⟨gb238, _, none⟩) NB224_238.out _).trans (((cell_far (p := ⟨gb238, _, none⟩) NB224_238.out _).trans (((cell_far (p := ⟨gb238, _, none⟩) NB224_238.out _).trans (((cell_far (p := ⟨gb238, _, none⟩) NB224_238.out _).trans (((cell_far (p := ⟨gb238, _, none⟩) NB224_238.out _).trans (((cell_far (p := ⟨gb238, _, none⟩) NB224_238.out _).trans (((cell_far (p := ⟨gb238, _, none⟩) NB224_238.out _).trans (hHeld.2.2.2.1)))))))))))))))))))), ((cell_far (p := ⟨gb238, _, none⟩) NB224_238.out _).trans (((cell_far (p := ⟨gb238, _, none⟩) NB224_238.out _).trans (((cell_far (p := ⟨gb238, _, none⟩) NB224_238.out _).trans (((cell_far (p := ⟨gb238, _, none⟩) NB224_238.out _).trans (((cell_far (p := ⟨gb238, _, none⟩) NB224_238.out _).trans (((cell_far (p := ⟨gb238, _, none⟩) NB224_238.out _).trans (((cell_far (p := ⟨gb238, _, none⟩) NB224_238.out _).trans (((cell_far (p := ⟨gb238, _, none⟩) NB224_238.out _).trans (((cell_far (p := ⟨gb238, _, none⟩) NB224_238.out _).trans (((cell_far (p := ⟨gb238, _, none⟩) NB224_238.out _).trans (hHeld.2.2.2.2.1)))))))))))))))))))), ((cell_far (p := ⟨gb238, _, none⟩) NB224_238.out _).trans (((cell_far (p := ⟨gb238, _, none⟩) NB224_238.out _).trans (((cell_far (p := ⟨gb238, _, none⟩) NB224_238.out _).trans (((cell_far (p := ⟨gb238, _, none⟩) NB224_238.out _).trans (((cell_far (p := ⟨gb238, _, none⟩) NB224_238.out _).trans (((cell_far (p := ⟨gb238, _, none⟩) NB224_238.out _).trans (((cell_far (p := ⟨gb238, _, none⟩) NB224_238.out _).trans (((cell_far (p := ⟨gb238, _, none⟩) NB224_238.out _).trans (((cell_far (p := ⟨gb238, _, none⟩) NB224_238.out _).trans (((cell_far (p := ⟨gb238, _, none⟩) NB224_238.out _).trans (hHeld.2.2.2.2.2.1)))))))))))))))))))), ((cell_far (p := ⟨gb238, _, none⟩) NB224_238.out _).trans (((cell_far (p := ⟨gb238, _, none⟩) NB224_238.out _).trans (((cell_far (p := ⟨gb238, _, none⟩) NB224_238.out _).trans (((cell_far (p := ⟨gb238, _, none⟩) NB224_238.out _).trans (((cell_far (p := ⟨gb238, _, none⟩) NB224_238.out _).trans (((cell_far (p := ⟨gb238, _, none⟩) NB224_238.out _).trans (((cell_far (p := ⟨gb238, _, none⟩) NB224_238.out _).trans (((cell_far (p := ⟨gb238, _, none⟩) NB224_238.out _).trans (((cell_far (p := ⟨gb238, _, none⟩) NB224_238.out _).trans (((cell_far (p := ⟨gb238, _, none⟩) NB224_238.out _).trans (hHeld.2.2.2.2.2.2.1)))))))))))))))))))), ((cell_far (p := ⟨gb238, _, none⟩) NB224_238.out _).trans (((cell_far (p := ⟨gb238, _, none⟩) NB224_238.out _).trans (((cell_far (p := ⟨gb238, _, none⟩) NB224_238.out _).trans (((cell_far (p := ⟨gb238, _, none⟩) NB224_238.out _).trans (((cell_far (p := ⟨gb238, _, none⟩) NB224_238.out _).trans (((cell_far (p := ⟨gb238, _, none⟩) NB224_238.out _).trans (((cell_far (p := ⟨gb238, _, none⟩) NB224_238.out _).trans (((cell_far (p := ⟨gb238, _, none⟩) NB224_238.out _).trans (((cell_far (p := ⟨gb238, _, none⟩) NB224_238.out _).trans (((cell_far (p := ⟨gb238, _, none⟩) NB224_238.out _).trans (hHeld.2.2.2.2.2.2.2.1)))))))))))))))))))), ((cell_far (p := ⟨gb238, _, none⟩) (by first | exact Nat.ne_of_lt (Nat.lt_of_lt_of_le (by have := World.block_lt_of_cell? _ _ hw227_0; first | rwa [add_block] at this | exact this) GW238.out) | (rw [add_block]; exact Nat.ne_of_lt (Nat.lt_of_lt_of_le (by have := World.block_lt_of_cell? _ _ hw227_0; first | rwa [add_block] at this | exact this) GW238.out)) | (show (Addr.add _ _).block ≠ _; rw [add_block]; exact Nat.ne_of_lt (Nat.lt_of_lt_of_le (by have := World.block_lt_of_cell? _ _ hw227_0; first | rwa [add_block] at this | exact this) GW238.out)) | (dsimp only; exact Nat.ne_of_lt (Nat.lt_of_lt_of_le (by have := World.block_lt_of_cell? _ _ hw227_0; first | rwa [add_block] at this | exact this) GW238.out))) _).trans (((cell_far (p := ⟨gb238, _, none⟩) (by first | exact Nat.ne_of_lt (Nat.lt_of_lt_of_le (by have := World.block_lt_of_cell? _ _ hw227_0; first | rwa [add_block] at this | exact this) GW238.out) | (rw [add_block]; exact Nat.ne_of_lt (Nat.lt_of_lt_of_le (by have := World.block_lt_of_cell? _ _ hw227_0; first | rwa [add_block] at this | exact this) GW238.out)) | (show (Addr.add _ _).block ≠ _; rw [add_block]; exact Nat.ne_of_lt (Nat.lt_of_lt_of_le (by have := World.block_lt_of_cell? _ _ hw227_0; first | rwa [add_block] at this | exact this) GW238.out)) | (dsimp only; exact Nat.ne_of_lt (Nat.lt_of_lt_of_le (by have := World.block_lt_of_cell? _ _ hw227_0; first | rwa [add_block] at this | exact this) GW238.out))) _).trans (((cell_far (p := ⟨gb238, _, none⟩) (by first | exact Nat.ne_of_lt (Nat.lt_of_lt_of_le (by have := World.block_lt_of_cell? _ _ hw227_0; first | rwa [add_block] at this | exact this) GW238.out) | (rw [add_block]; exact Nat.ne_of_lt (Nat.lt_of_lt_of_le (by have := World.block_lt_of_cell? _ _ hw227_0; first | rwa [add_block] at this | exact this) GW238.out)) | (show (Addr.add _ _).block ≠ _; rw [add_block]; exact Nat.ne_of_lt (Nat.lt_of_lt_of_le (by have := World.block_lt_of_cell? _ _ hw227_0; first | rwa [add_block] at this | exact this) GW238.out)) | (dsimp only; exact Nat.ne_of_lt (Nat.lt_of_lt_of_le (by have := World.block_lt_of_cell? _ _ hw227_0; first | rwa [add_block] at this | exact this) GW238.out))) _).trans (((cell_far (p := ⟨gb238, _, none⟩) (by first | exact Nat.ne_of_lt (Nat.lt_of_lt_of_le (by have := World.block_lt_of_cell? _ _ hw227_0; first | rwa [add_block] at this | exact this) GW238.out) | (rw [add_block]; exact Nat.ne_of_lt (Nat.lt_of_lt_of_le (by have := World.block_lt_of_cell? _ _ hw227_0; first | rwa [add_block] at this | exact this) GW238.out)) | (show (Addr.add _ _).block ≠ _; rw [add_block]; exact Nat.ne_of_lt (Nat.lt_of_lt_of_le (by have := World.block_lt_of_cell? _ _ hw227_0; first | rwa [add_block] at this | exact this) GW238.out)) | (dsimp only; exact Nat.ne_of_lt (Nat.lt_of_lt_of_le (by have := World.block_lt_of_cell? _ _ hw227_0; first | rwa [add_block] at this | exact this) GW238.out))) _).trans (((cell_far (p := ⟨gb238, _, none⟩) (by first | exact Nat.ne_of_lt (Nat.lt_of_lt_of_le (by have := World.block_lt_of_cell? _ _ hw227_0; first | rwa [add_block] at this | exact this) GW238.out) | (rw [add_block]; exact Nat.ne_of_lt (Nat.lt_of_lt_of_le (by have := World.block_lt_of_cell? _ _ hw227_0; first | rwa [add_block] at this | exact this) GW238.out)) | (show (Addr.add _ _).block ≠ _; rw [add_block]; exact Nat.ne_of_lt (Nat.lt_of_lt_of_le (by have := World.block_lt_of_cell? _ _ hw227_0; first | rwa [add_block] at this | exact this) GW238.out)) | (dsimp only; exact Nat.ne_of_lt (Nat.lt_of_lt_of_le (by have := World.block_lt_of_cell? _ _ hw227_0; first | rwa [add_block] at this | exact this) GW238.out))) _).trans (((cell_far (p := ⟨gb238, _, none⟩) (by first | exact Nat.ne_of_lt (Nat.lt_of_lt_of_le (by have := World.block_lt_of_cell? _ _ hw227_0; first | rwa [add_block] at this | exact this) GW238.out) | (rw [add_block]; exact Nat.ne_of_lt (Nat.lt_of_lt_of_le (by have := World.block_lt_of_cell? _ _ hw227_0; first | rwa [add_block] at this | exact this) GW238.out)) | (show (Addr.add _ _).block ≠ _; rw [add_block]; exact Nat.ne_of_lt (Nat.lt_of_lt_of_le (by have := World.block_lt_of_cell? _ _ hw227_0; first | rwa [add_block] at this | exact this) GW238.out)) | (dsimp only; exact Nat.ne_of_lt (Nat.lt_of_lt_of_le (by have := World.block_lt_of_cell? _ _ hw227_0; first | rwa [add_block] at this | exact this) GW238.out))) _).trans (((cell_far (p := ⟨gb238, _, none⟩) (by first | exact Nat.ne_of_lt (Nat.lt_of_lt_of_le (by have := World.block_lt_of_cell? _ _ hw227_0; first | rwa [add_block] at this | exact this) GW238.out) | (rw [add_block]; exact Nat.ne_of_lt (Nat.lt_of_lt_of_le (by have := World.block_lt_of_cell? _ _ hw227_0; first | rwa [add_block] at this | exact this) GW238.out)) | (show (Addr.add _ _).block ≠ _; rw [add_block]; exact Nat.ne_of_lt (Nat.lt_of_lt_of_le (by have := World.block_lt_of_cell? _ _ hw227_0; first | rwa [add_block] at this | exact this) GW238.out)) | (dsimp only; exact Nat.ne_of_lt (Nat.lt_of_lt_of_le (by have := World.block_lt_of_cell? _ _ hw227_0; first | rwa [add_block] at this | exact this) GW238.out))) _).trans (((cell_far (p := ⟨gb238, _, none⟩) (by first | exact Nat.ne_of_lt (Nat.lt_of_lt_of_le (by have := World.block_lt_of_cell? _ _ hw227_0; first | rwa [add_block] at this | exact this) GW238.out) | (rw [add_block]; exact Nat.ne_of_lt (Nat.lt_of_lt_of_le (by have := World.block_lt_of_cell? _ _ hw227_0; first | rwa [add_block] at this | exact this) GW238.out)) | (show (Addr.add _ _).block ≠ _; rw [add_block]; exact Nat.ne_of_lt (Nat.lt_of_lt_of_le (by have := World.block_lt_of_cell? _ _ hw227_0; first | rwa [add_block] at this | exact this) GW238.out)) | (dsimp only; exact Nat.ne_of_lt (Nat.lt_of_lt_of_le (by have := World.block_lt_of_cell? _ _ hw227_0; first | rwa [add_block] at this | exact this) GW238.out))) _).trans (((cell_far (p := ⟨gb238, _, none⟩) (by first | exact Nat.ne_of_lt (Nat.lt_of_lt_of_le (by have := World.block_lt_of_cell? _ _ hw227_0; first | rwa [add_block] at this | exact this) GW238.out) | (rw [add_block]; exact Nat.ne_of_lt (Nat.lt_of_lt_of_le (by have := World.block_lt_of_cell? _ _ hw227_0; first | rwa [add_block] at this | exact this) GW238.out)) | (show (Addr.add _ _).block ≠ _; rw [add_block]; exact Nat.ne_of_lt (Nat.lt_of_lt_of_le (by have := World.block_lt_of_cell? _ _ hw227_0; first | rwa [add_block] at this | exact this) GW238.out)) | (dsimp only; exact Nat.ne_of_lt (Nat.lt_of_lt_of_le (by have := World.block_lt_of_cell? _ _ hw227_0; first | rwa [add_block] at this | exact this) GW238.out))) _).trans (((cell_far (p := ⟨gb238, _, none⟩) (by first | exact Nat.ne_of_lt (Nat.lt_of_lt_of_le (by have := World.block_lt_of_cell? _ _ hw227_0; first | rwa [add_block] at this | exact this) GW238.out) | (rw [add_block]; exact Nat.ne_of_lt (Nat.lt_of_lt_of_le (by have := World.block_lt_of_cell? _ _ hw227_0; first | rwa [add_block] at this | exact this) GW238.out)) | (show (Addr.add _ _).block ≠ _; rw [add_block]; exact Nat.ne_of_lt (Nat.lt_of_lt_of_le (by have := World.block_lt_of_cell? _ _ hw227_0; first | rwa [add_block] at this | exact this) GW238.out)) | (dsimp only; exact Nat.ne_of_lt (Nat.lt_of_lt_of_le (by have := World.block_lt_of_cell? _ _ hw227_0; first | rwa [add_block] at this | exact this) GW238.out))) _).trans (hHeld.2.2.2.2.2.2.2.2.1)))))))))))))))))))), ((cell_far (p := ⟨gb238, _, none⟩) (by first | exact Nat.ne_of_lt (Nat.lt_of_lt_of_le (by have := World.block_lt_of_cell? _ _ hw227_1; first | rwa [add_block] at this | exact this) GW238.out) | (rw [add_block]; exact Nat.ne_of_lt (Nat.lt_of_lt_of_le (by have := World.block_lt_of_cell? _ _ hw227_1; first | rwa [add_block] at this | exact this) GW238.out)) | (show (Addr.add _ _).block ≠ _; rw [add_block]; exact Nat.ne_of_lt (Nat.lt_of_lt_of_le (by have := World.block_lt_of_cell? _ _ hw227_1; first | rwa [add_block] at this | exact this) GW238.out)) | (dsimp only; exact Nat.ne_of_lt (Nat.lt_of_lt_of_le (by have := World.block_lt_of_cell? _ _ hw227_1; first | rwa [add_block] at this | exact this) GW238.out))) _).trans (((cell_far (p := ⟨gb238, _, none⟩) (by first | exact Nat.ne_of_lt (Nat.lt_of_lt_of_le (by have := World.block_lt_of_cell? _ _ hw227_1; first | rwa [add_block] at this | exact this) GW238.out) | (rw [add_block]; exact Nat.ne_of_lt (Nat.lt_of_lt_of_le (by have := World.block_lt_of_cell? _ _ hw227_1; first | rwa [add_block] at this | exact this) GW238.out)) | (show (Addr.add _ _).block ≠ _; rw [add_block]; exact Nat.ne_of_lt (Nat.lt_of_lt_of_le (by have := World.block_lt_of_cell? _ _ hw227_1; first | rwa [add_block] at this | exact this) GW238.out)) | (dsimp only; exact Nat.ne_of_lt (Nat.lt_of_lt_of_le (by have := World.block_lt_of_cell? _ _ hw227_1; first | rwa [add_block] at this | exact this) GW238.out))) _).trans (((cell_far (p := ⟨gb238, _, none⟩) (by first | exact Nat.ne_of_lt (Nat.lt_of_lt_of_le (by have := World.block_lt_of_cell? _ _ hw227_1; first | rwa [add_block] at this | exact this) GW238.out) | (rw [add_block]; exact Nat.ne_of_lt (Nat.lt_of_lt_of_le (by have := World.block_lt_of_cell? _ _ hw227_1; first | rwa [add_block] at this | exact this) GW238.out)) | (show (Addr.add _ _).block ≠ _; rw [add_block]; exact Nat.ne_of_lt (Nat.lt_of_lt_of_le (by have := World.block_lt_of_cell? _ _ hw227_1; first | rwa [add_block] at this | exact this) GW238.out)) | (dsimp only; exact Nat.ne_of_lt (Nat.lt_of_lt_of_le (by have := World.block_lt_of_cell? _ _ hw227_1; first | rwa [add_block] at this | exact this) GW238.out))) _).trans (((cell_far (p := ⟨gb238, _, none⟩) (by first | exact Nat.ne_of_lt (Nat.lt_of_lt_of_le (by have := World.block_lt_of_cell? _ _ hw227_1; first | rwa [add_block] at this | exact this) GW238.out) | (rw [add_block]; exact Nat.ne_of_lt (Nat.lt_of_lt_of_le (by have := World.block_lt_of_cell? _ _ hw227_1; first | rwa [add_block] at this | exact this) GW238.out)) | (show (Addr.add _ _).block ≠ _; rw [add_block]; exact Nat.ne_of_lt (Nat.lt_of_lt_of_le (by have := World.block_lt_of_cell? _ _ hw227_1; first | rwa [add_block] at this | exact this) GW238.out)) | (dsimp only; exact Nat.ne_of_lt (Nat.lt_of_lt_of_le (by have := World.block_lt_of_cell? _ _ hw227_1; first | rwa [add_block] at this | exact this) GW238.out))) _).trans (((cell_far (p := ⟨gb238, _, none⟩) (by first | exact Nat.ne_of_lt (Nat.lt_of_lt_of_le (by have := World.block_lt_of_cell? _ _ hw227_1; first | rwa [add_block] at this | exact this) GW238.out) | (rw [add_block]; exact Nat.ne_of_lt (Nat.lt_of_lt_of_le (by have := World.block_lt_of_cell? _ _ hw227_1; first | rwa [add_block] at this | exact this) GW238.out)) | (show (Addr.add _ _).block ≠ _; rw [add_block]; exact Nat.ne_of_lt (Nat.lt_of_lt_of_le (by have := World.block_lt_of_cell? _ _ hw227_1; first | rwa [add_block] at this | exact this) GW238.out)) | (dsimp only; exact Nat.ne_of_lt (Nat.lt_of_lt_of_le (by have := World.block_lt_of_cell? _ _ hw227_1; first | rwa [add_block] at this | exact this) GW238.out))) _).trans (((cell_far (p := ⟨gb238, _, none⟩) (by first | exact Nat.ne_of_lt (Nat.lt_of_lt_of_le (by have := World.block_lt_of_cell? _ _ hw227_1; first | rwa [add_block] at this | exact this) GW238.out) | (rw [add_block]; exact Nat.ne_of_lt (Nat.lt_of_lt_of_le (by have := World.block_lt_of_cell? _ _ hw227_1; first | rwa [add_block] at this | exact this) GW238.out)) | (show (Addr.add _ _).block ≠ _; rw [add_block]; exact Nat.ne_of_lt (Nat.lt_of_lt_of_le (by have := World.block_lt_of_cell? _ _ hw227_1; first | rwa [add_block] at this | exact this) GW238.out)) | (dsimp only; exact Nat.ne_of_lt (Nat.lt_of_lt_of_le (by have := World.block_lt_of_cell? _ _ hw227_1; first | rwa [add_block] at this | exact this) GW238.out))) _).trans (((cell_far (p := ⟨gb238, _, none⟩) (by first | exact Nat.ne_of_lt (Nat.lt_of_lt_of_le (by have := World.block_lt_of_cell? _ _ hw227_1; first | rwa [add_block] at this | exact this) GW238.out) | (rw [add_block]; exact Nat.ne_of_lt (Nat.lt_of_lt_of_le (by have := World.block_lt_of_cell? _ _ hw227_1; first | rwa [add_block] at this | exact this) GW238.out)) | (show (Addr.add _ _).block ≠ _; rw [add_block]; exact Nat.ne_of_lt (Nat.lt_of_lt_of_le (by have := World.block_lt_of_cell? _ _ hw227_1; first | rwa [add_block] at this | exact this) GW238.out)) | (dsimp only; exact Nat.ne_of_lt (Nat.lt_of_lt_of_le (by have := World.block_lt_of_cell? _ _ hw227_1; first | rwa [add_block] at this | exact this) GW238.out))) _).trans (((cell_far (p := ⟨gb238, _, none⟩) (by first | exact Nat.ne_of_lt (Nat.lt_of_lt_of_le (by have := World.block_lt_of_cell? _ _ hw227_1; first | rwa [add_block] at this | exact this) GW238.out) | (rw [add_block]; exact Nat.ne_of_lt (Nat.lt_of_lt_of_le (by have := World.block_lt_of_cell? _ _ hw227_1; first | rwa [add_block] at this | exact this) GW238.out)) | (show (Addr.add _ _).block ≠ _; rw [add_block]; exact Nat.ne_of_lt (Nat.lt_of_lt_of_le (by have := World.block_lt_of_cell? _ _ hw227_1; first | rwa [add_block] at this | exact this) GW238.out)) | (dsimp only; exact Nat.ne_of_lt (Nat.lt_of_lt_of_le (by have := World.block_lt_of_cell? _ _ hw227_1; first | rwa [add_block] at this | exact this) GW238.out))) _).trans (((cell_far (p := ⟨gb238, _, none⟩) (by first | exact Nat.ne_of_lt (Nat.lt_of_lt_of_le (by have := World.block_lt_of_cell? _ _ hw227_1; first | rwa [add_block] at this | exact this) GW238.out) | (rw [add_block]; exact Nat.ne_of_lt (Nat.lt_of_lt_of_le (by have := World.block_lt_of_cell? _ _ hw227_1; first | rwa [add_block] at this | exact this) GW238.out)) | (show (Addr.add _ _).block ≠ _; rw [add_block]; exact Nat.ne_of_lt (Nat.lt_of_lt_of_le (by have := World.block_lt_of_cell? _ _ hw227_1; first | rwa [add_block] at this | exact this) GW238.out)) | (dsimp only; exact Nat.ne_of_lt (Nat.lt_of_lt_of_le (by have := World.block_lt_of_cell? _ _ hw227_1; first | rwa [add_block] at this | exact this) GW238.out))) _).trans (((cell_far (p := ⟨gb238, _, none⟩) (by first | exact Nat.ne_of_lt (Nat.lt_of_lt_of_le (by have := World.block_lt_of_cell? _ _ hw227_1; first | rwa [add_block] at this | exact this) GW238.out) | (rw [add_block]; exact Nat.ne_of_lt (Nat.lt_of_lt_of_le (by have := World.block_lt_of_cell? _ _ hw227_1; first | rwa [add_block] at this | exact this) GW238.out)) | (show (Addr.add _ _).block ≠ _; rw [add_block]; exact Nat.ne_of_lt (Nat.lt_of_lt_of_le (by have := World.block_lt_of_cell? _ _ hw227_1; first | rwa [add_block] at this | exact this) GW238.out)) | (dsimp only; exact Nat.ne_of_lt (Nat.lt_of_lt_of_le (by have := World.block_lt_of_cell? _ _ hw227_1; first | rwa [add_block] at this | exact this) GW238.out))) _).trans (hHeld.2.2.2.2.2.2.2.2.2))))))))))))))))))))⟩ (fun hHeld => ?_)
   clear hK K
   refine done_ (done_of HT_.out (by kernel_rfl)) ?_
   have hnb46 := NB238_224.out
   have hnc46 := NB224_238.out
   have hnb47 := NB238_225.out
   have hnc47 := NB225_238.out
   have hcz48_0 : w35.cell? ⟨gb238, 0, none⟩ = some (.bool false) := (blk_cell BK238.out 0).trans rfl
   have hcz48_1 : w35.cell? ⟨gb238, 1, none⟩ = some (.bool false) := (blk_cell BK238.out 1).trans rfl
   have hcz48_2 : w35.cell? ⟨gb238, 2, none⟩ = some (.bool false) := (blk_cell BK238.out 2).trans rfl
   have hcz48_3 : w35.cell? ⟨gb238, 3, none⟩ = some (.bool false) := (blk_cell BK238.out 3).trans rfl
   have hcz48_4 : w35.cell? ⟨gb238, 4, none⟩ = some (.int .i64 0) := (blk_cell BK238.out 4).trans rfl
   have hcz48_5 : w35.cell? ⟨gb238, 5, none⟩ = some (.int .i64 0) := (blk_cell BK238.out 5).trans rfl
   have hcz48_6 : w35.cell? ⟨gb238, 6, none⟩ = some (.string (⟨#[]⟩ : ByteArray)) := (blk_cell BK238.out 6).trans rfl
   have hcz48_7 : w35.cell? ⟨gb238, 7, none⟩ = some (.string (⟨#[]⟩ : ByteArray)) := (blk_cell BK238.out 7).trans rfl
   have hcz48_8 : w35.cell? ⟨gb238, 8, none⟩ = some (.string (⟨#[]⟩ : ByteArray)) := (blk_cell BK238.out 8).trans rfl
   have hcz48_9 : w35.cell? ⟨gb238, 9, none⟩ = some (.bool false) := (blk_cell BK238.out 9).trans rfl
   have hfz48_0 := blk_frozen BK238.out 0
   have hfz48_1 := blk_frozen BK238.out 1
   have hfz48_2 := blk_frozen BK238.out 2
   have hfz48_3 := blk_frozen BK238.out 3
   have hfz48_4 := blk_frozen BK238.out 4
   have hfz48_5 := blk_frozen BK238.out 5
   have hfz48_6 := blk_frozen BK238.out 6
   have hfz48_7 := blk_frozen BK238.out 7
   have hfz48_8 := blk_frozen BK238.out 8
   have hfz48_9 := blk_frozen BK238.out 9
   have hnb49 := NB224_225.out
   have hnc49 := NB225_224.out
   have hcz50_0 : w35.cell? ⟨gb224, 0, none⟩ = some (.bool x225000_1) := (blk_cell BK224.out 0).trans rfl
   have hcz50_1 : w35.cell? ⟨gb224, 1, none⟩ = some (.bool x225001_1) := (blk_cell BK224.out 1).trans rfl
   have hcz50_2 : w35.cell? ⟨gb224, 2, none⟩ = some (.bool x225002_1) := (blk_cell BK224.out 2).trans rfl
   have hcz50_3 : w35.cell? ⟨gb224, 3, none⟩ = some (.bool x225003_1) := (blk_cell BK224.out 3).trans rfl
   have hcz50_4 : w35.cell? ⟨gb224, 4, none⟩ = some (.int .i64 x225004_1) := (blk_cell BK224.out 4).trans rfl
   have hcz50_5 : w35.cell? ⟨gb224, 5, none⟩ = some (.int .i64 x225005_1) := (blk_cell BK224.out 5).trans rfl
   have hcz50_6 : w35.cell? ⟨gb224, 6, none⟩ = some (.string x225006_1) := (blk_cell BK224.out 6).trans rfl
   have hcz50_7 : w35.cell? ⟨gb224, 7, none⟩ = some (.string x225007_1) := (blk_cell BK224.out 7).trans rfl
   have hfz50_0 := blk_frozen BK224.out 0
   have hfz50_1 := blk_frozen BK224.out 1
   have hfz50_2 := blk_frozen BK224.out 2
   have hfz50_3 := blk_frozen BK224.out 3
   have hfz50_4 := blk_frozen BK224.out 4
   have hfz50_5 := blk_frozen BK224.out 5
   have hfz50_6 := blk_frozen BK224.out 6
   have hfz50_7 := blk_frozen BK224.out 7
   try go_wp2
   have n0_ : Aside0 (Kd.R k45 45 ((((((((((((((((((w35.setCell ⟨gb238, 0, none⟩ (.bool t228)).setCell ⟨gb238, 1, none⟩ (.bool t229)).setCell ⟨gb238, 2, none⟩ (.bool t230)).setCell ⟨gb238, 3, none⟩ (.bool t231)).setCell ⟨gb238, 4, none⟩ (.int .i64 t232)).setCell ⟨gb238, 5, none⟩ (.int .i64 t233)).setCell ⟨gb238, 6, none⟩ (.string t234)).setCell ⟨gb238, 7, none⟩ (.string t235)).setCell ⟨gb238, 8, none⟩ (.string t236)).setCell ⟨gb238, 9, none⟩ (.bool true)).setCell ⟨gb224, 0, none⟩ (.bool t228)).setCell ⟨gb224, 1, none⟩ (.bool t229)).setCell ⟨gb224, 2, none⟩ (.bool t230)).setCell ⟨gb224, 3, none⟩ (.bool t231)).setCell ⟨gb224, 4, none⟩ (.int .i64 t232)).setCell ⟨gb224, 5, none⟩ (.int .i64 t233)).setCell ⟨gb224, 6, none⟩ (.string t234)).setCell ⟨gb224, 7, none⟩ (.string t235)) w.heap.size (fun _ => True) u6 x6_1) := ⟨by (with_reducible repeat (first | apply Kd.R_alloc | apply Kd.R_drewN | apply Kd.R_drew)); exact Kd.R_mono (Kd.R_far (p := ⟨gb224, 7, none⟩) (Kd.R_far (p := ⟨gb224, 6, none⟩) (Kd.R_far (p := ⟨gb224, 5, none⟩) (Kd.R_far (p := ⟨gb224, 4, none⟩) (Kd.R_far (p := ⟨gb224, 3, none⟩) (Kd.R_far (p := ⟨gb224, 2, none⟩) (Kd.R_far (p := ⟨gb224, 1, none⟩) (Kd.R_far (p := ⟨gb224, 0, none⟩) (Kd.R_far (p := ⟨gb238, 9, none⟩) (Kd.R_far (p := ⟨gb238, 8, none⟩) (Kd.R_far (p := ⟨gb238, 7, none⟩) (Kd.R_far (p := ⟨gb238, 6, none⟩) (Kd.R_far (p := ⟨gb238, 5, none⟩) (Kd.R_far (p := ⟨gb238, 4, none⟩) (Kd.R_far (p := ⟨gb238, 3, none⟩) (Kd.R_far (p := ⟨gb238, 2, none⟩) (Kd.R_far (p := ⟨gb238, 1, none⟩) (Kd.R_far (p := ⟨gb238, 0, none⟩) (Kd.R_types (Kd.R_types HO_6.out BK238.out (by decide)) BK224.out (by decide)) (fun _ hk => hk.1.2) (.bool t228)) (fun _ hk => hk.1.2) (.bool t229)) (fun _ hk => hk.1.2) (.bool t230)) (fun _ hk => hk.1.2) (.bool t231)) (fun _ hk => hk.1.2) (.int .i64 t232)) (fun _ hk => hk.1.2) (.int .i64 t233)) (fun _ hk => hk.1.2) (.string t234)) (fun _ hk => hk.1.2) (.string t235)) (fun _ hk => hk.1.2) (.string t236)) (fun _ hk => hk.1.2) (.bool true)) (fun _ hk => hk.2) (.bool t228)) (fun _ hk => hk.2) (.bool t229)) (fun _ hk => hk.2) (.bool t230)) (fun _ hk => hk.2) (.bool t231)) (fun _ hk => hk.2) (.int .i64 t232)) (fun _ hk => hk.2) (.int .i64 t233)) (fun _ hk => hk.2) (.string t234)) (fun _ hk => hk.2) (.string t235)) (fun _ hk => trivial)⟩
   have n1_ : Aside0 (((((((((((((((((((w35.setCell ⟨gb238, 0, none⟩ (.bool t228)).setCell ⟨gb238, 1, none⟩ (.bool t229)).setCell ⟨gb238, 2, none⟩ (.bool t230)).setCell ⟨gb238, 3, none⟩ (.bool t231)).setCell ⟨gb238, 4, none⟩ (.int .i64 t232)).setCell ⟨gb238, 5, none⟩ (.int .i64 t233)).setCell ⟨gb238, 6, none⟩ (.string t234)).setCell ⟨gb238, 7, none⟩ (.string t235)).setCell ⟨gb238, 8, none⟩ (.string t236)).setCell ⟨gb238, 9, none⟩ (.bool true)).setCell ⟨gb224, 0, none⟩ (.bool t228)).setCell ⟨gb224, 1, none⟩ (.bool t229)).setCell ⟨gb224, 2, none⟩ (.bool t230)).setCell ⟨gb224, 3, none⟩ (.bool t231)).setCell ⟨gb224, 4, none⟩ (.int .i64 t232)).setCell ⟨gb224, 5, none⟩ (.int .i64 t233)).setCell ⟨gb224, 6, none⟩ (.string t234)).setCell ⟨gb224, 7, none⟩ (.string t235)).heap[gb224]? = some (.cells #[.bool t228, .bool t229, .bool t230, .bool t231, .int .i64 t232, .int .i64 t233, .string t234, .string t235] 31 (0, 0))) := ⟨by (with_reducible repeat (first | refine blk_drewN ?_ _ | refine blk_drew ?_ | refine blk_alloc ?_ _)); refine blk_put (cs := #[.bool t228, .bool t229, .bool t230, .bool t231, .int .i64 t232, .int .i64 t233, .string t234, .string x225007_1]) ?_ 7 _ rfl; (with_reducible repeat (first | refine blk_drewN ?_ _ | refine blk_drew ?_ | refine blk_alloc ?_ _)); refine blk_put (cs := #[.bool t228, .bool t229, .bool t230, .bool t231, .int .i64 t232, .int .i64 t233, .string x225006_1, .string x225007_1]) ?_ 6 _ rfl; (with_reducible repeat (first | refine blk_drewN ?_ _ | refine blk_drew ?_ | refine blk_alloc ?_ _)); refine blk_put (cs := #[.bool t228, .bool t229, .bool t230, .bool t231, .int .i64 t232, .int .i64 x225005_1, .string x225006_1, .string x225007_1]) ?_ 5 _ rfl; (with_reducible repeat (first | refine blk_drewN ?_ _ | refine blk_drew ?_ | refine blk_alloc ?_ _)); refine blk_put (cs := #[.bool t228, .bool t229, .bool t230, .bool t231, .int .i64 x225004_1, .int .i64 x225005_1, .string x225006_1, .string x225007_1]) ?_ 4 _ rfl; (with_reducible repeat (first | refine blk_drewN ?_ _ | refine blk_drew ?_ | refine blk_alloc ?_ _)); refine blk_put (cs := #[.bool t228, .bool t229, .bool t230, .bool x225003_1, .int .i64 x225004_1, .int .i64 x225005_1, .string x225006_1, .string x225007_1]) ?_ 3 _ rfl; (with_reducible repeat (first | refine blk_drewN ?_ _ | refine blk_drew ?_ | refine blk_alloc ?_ _)); refine blk_put (cs := #[.bool t228, .bool t229, .bool x225002_1, .bool x225003_1, .int .i64 x225004_1, .int .i64 x225005_1, .string x225006_1, .string x225007_1]) ?_ 2 _ rfl; (with_reducible repeat (first | refine blk_drewN ?_ _ | refine blk_drew ?_ | refine blk_alloc ?_ _)); refine blk_put (cs := #[.bool t228, .bool x225001_1, .bool x225002_1, .bool x225003_1, .int .i64 x225004_1, .int .i64 x225005_1, .string x225006_1, .string x225007_1]) ?_ 1 _ rfl; (with_reducible repeat (first | refine blk_drewN ?_ _ | refine blk_drew ?_ | refine blk_alloc ?_ _)); refine blk_put (cs := #[.bool x225000_1, .bool x225001_1, .bool x225002_1, .bool x225003_1, .int .i64 x225004_1, .int .i64 x225005_1, .string x225006_1, .string x225007_1]) ?_ 0 _ rfl; (with_reducible repeat (first | refine blk_drewN ?_ _ | refine blk_drew ?_ | refine blk_alloc ?_ _ | refine blk_far ?_ NB224_238.out _)); exact BK224.out⟩
   have n2_ : Aside0 (((((((((((((((((((w35.setCell ⟨gb238, 0, none⟩ (.bool t228)).setCell ⟨gb238, 1, none⟩ (.bool t229)).setCell ⟨gb238, 2, none⟩ (.bool t230)).setCell ⟨gb238, 3, none⟩ (.bool t231)).setCell ⟨gb238, 4, none⟩ (.int .i64 t232)).setCell ⟨gb238, 5, none⟩ (.int .i64 t233)).setCell ⟨gb238, 6, none⟩ (.string t234)).setCell ⟨gb238, 7, none⟩ (.string t235)).setCell ⟨gb238, 8, none⟩ (.string t236)).setCell ⟨gb238, 9, none⟩ (.bool true)).setCell ⟨gb224, 0, none⟩ (.bool t228)).setCell ⟨gb224, 1, none⟩ (.bool t229)).setCell ⟨gb224, 2, none⟩ (.bool t230)).setCell ⟨gb224, 3, none⟩ (.bool t231)).setCell ⟨gb224, 4, none⟩ (.int .i64 t232)).setCell ⟨gb224, 5, none⟩ (.int .i64 t233)).setCell ⟨gb224, 6, none⟩ (.string t234)).setCell ⟨gb224, 7, none⟩ (.string t235)).heap[gb225]? = some (.cells #[.bool x226000_1, .bool x226001_1, .bool x226002_1, .bool x226003_1, .int .i64 x226004_1, .int .i64 x226005_1, .string x226006_1, .string x226007_1, .slice none 0 0] 33 (0, 0))) := ⟨by (with_reducible repeat (first | refine blk_drewN ?_ _ | refine blk_drew ?_ | refine blk_alloc ?_ _ | refine blk_far ?_ NB225_224.out _ | refine blk_far ?_ NB225_238.out _)); exact BK225.out⟩
   have n3_ : Aside0 (((((((((((((((((((w35.setCell ⟨gb238, 0, none⟩ (.bool t228)).setCell ⟨gb238, 1, none⟩ (.bool t229)).setCell ⟨gb238, 2, none⟩ (.bool t230)).setCell ⟨gb238, 3, none⟩ (.bool t231)).setCell ⟨gb238, 4, none⟩ (.int .i64 t232)).setCell ⟨gb238, 5, none⟩ (.int .i64 t233)).setCell ⟨gb238, 6, none⟩ (.string t234)).setCell ⟨gb238, 7, none⟩ (.string t235)).setCell ⟨gb238, 8, none⟩ (.string t236)).setCell ⟨gb238, 9, none⟩ (.bool true)).setCell ⟨gb224, 0, none⟩ (.bool t228)).setCell ⟨gb224, 1, none⟩ (.bool t229)).setCell ⟨gb224, 2, none⟩ (.bool t230)).setCell ⟨gb224, 3, none⟩ (.bool t231)).setCell ⟨gb224, 4, none⟩ (.int .i64 t232)).setCell ⟨gb224, 5, none⟩ (.int .i64 t233)).setCell ⟨gb224, 6, none⟩ (.string t234)).setCell ⟨gb224, 7, none⟩ (.string t235)).heap[gb238]? = some (.cells #[.bool t228, .bool t229, .bool t230, .bool t231, .int .i64 t232, .int .i64 t233, .string t234, .string t235, .string t236, .bool true] 63 (0, 0))) := ⟨by (with_reducible repeat (first | refine blk_drewN ?_ _ | refine blk_drew ?_ | refine blk_alloc ?_ _ | refine blk_far ?_ NB238_224.out _)); refine blk_put (cs := #[.bool t228, .bool t229, .bool t230, .bool t231, .int .i64 t232, .int .i64 t233, .string t234, .string t235, .string t236, .bool false]) ?_ 9 _ rfl; (with_reducible repeat (first | refine blk_drewN ?_ _ | refine blk_drew ?_ | refine blk_alloc ?_ _)); refine blk_put (cs := #[.bool t228, .bool t229, .bool t230, .bool t231, .int .i64 t232, .int .i64 t233, .string t234, .string t235, .string (⟨#[]⟩ : ByteArray), .bool false]) ?_ 8 _ rfl; (with_reducible repeat (first | refine blk_drewN ?_ _ | refine blk_drew ?_ | refine blk_alloc ?_ _)); refine blk_put (cs := #[.bool t228, .bool t229, .bool t230, .bool t231, .int .i64 t232, .int .i64 t233, .string t234, .string (⟨#[]⟩ : ByteArray), .string (⟨#[]⟩ : ByteArray), .bool false]) ?_ 7 _ rfl; (with_reducible repeat (first | refine blk_drewN ?_ _ | refine blk_drew ?_ | refine blk_alloc ?_ _)); refine blk_put (cs := #[.bool t228, .bool t229, .bool t230, .bool t231, .int .i64 t232, .int .i64 t233, .string (⟨#[]⟩ : ByteArray), .string (⟨#[]⟩ : ByteArray), .string (⟨#[]⟩ : ByteArray), .bool false]) ?_ 6 _ rfl; (with_reducible repeat (first | refine blk_drewN ?_ _ | refine blk_drew ?_ | refine blk_alloc ?_ _)); refine blk_put (cs := #[.bool t228, .bool t229, .bool t230, .bool t231, .int .i64 t232, .int .i64 0, .string (⟨#[]⟩ : ByteArray), .string (⟨#[]⟩ : ByteArray), .string (⟨#[]⟩ : ByteArray), .bool false]) ?_ 5 _ rfl; (with_reducible repeat (first | refine blk_drewN ?_ _ | refine blk_drew ?_ | refine blk_alloc ?_ _)); refine blk_put (cs := #[.bool t228, .bool t229, .bool t230, .bool t231, .int .i64 0, .int .i64 0, .string (⟨#[]⟩ : ByteArray), .string (⟨#[]⟩ : ByteArray), .string (⟨#[]⟩ : ByteArray), .bool false]) ?_ 4 _ rfl; (with_reducible repeat (first | refine blk_drewN ?_ _ | refine blk_drew ?_ | refine blk_alloc ?_ _)); refine blk_put (cs := #[.bool t228, .bool t229, .bool t230, .bool false, .int .i64 0, .int .i64 0, .string (⟨#[]⟩ : ByteArray), .string (⟨#[]⟩ : ByteArray), .string (⟨#[]⟩ : ByteArray), .bool false]) ?_ 3 _ rfl; (with_reducible repeat (first | refine blk_drewN ?_ _ | refine blk_drew ?_ | refine blk_alloc ?_ _)); refine blk_put (cs := #[.bool t228, .bool t229, .bool false, .bool false, .int .i64 0, .int .i64 0, .string (⟨#[]⟩ : ByteArray), .string (⟨#[]⟩ : ByteArray), .string (⟨#[]⟩ : ByteArray), .bool false]) ?_ 2 _ rfl; (with_reducible repeat (first | refine blk_drewN ?_ _ | refine blk_drew ?_ | refine blk_alloc ?_ _)); refine blk_put (cs := #[.bool t228, .bool false, .bool false, .bool false, .int .i64 0, .int .i64 0, .string (⟨#[]⟩ : ByteArray), .string (⟨#[]⟩ : ByteArray), .string (⟨#[]⟩ : ByteArray), .bool false]) ?_ 1 _ rfl; (with_reducible repeat (first | refine blk_drewN ?_ _ | refine blk_drew ?_ | refine blk_alloc ?_ _)); refine blk_put (cs := #[.bool false, .bool false, .bool false, .bool false, .int .i64 0, .int .i64 0, .string (⟨#[]⟩ : ByteArray), .string (⟨#[]⟩ : ByteArray), .string (⟨#[]⟩ : ByteArray), .bool false]) ?_ 0 _ rfl; (with_reducible repeat (first | refine blk_drewN ?_ _ | refine blk_drew ?_ | refine blk_alloc ?_ _)); exact BK238.out⟩
   have n4_ : Aside0 (Below w.heap.size w ((((((((((((((((((w35.setCell ⟨gb238, 0, none⟩ (.bool t228)).setCell ⟨gb238, 1, none⟩ (.bool t229)).setCell ⟨gb238, 2, none⟩ (.bool t230)).setCell ⟨gb238, 3, none⟩ (.bool t231)).setCell ⟨gb238, 4, none⟩ (.int .i64 t232)).setCell ⟨gb238, 5, none⟩ (.int .i64 t233)).setCell ⟨gb238, 6, none⟩ (.string t234)).setCell ⟨gb238, 7, none⟩ (.string t235)).setCell ⟨gb238, 8, none⟩ (.string t236)).setCell ⟨gb238, 9, none⟩ (.bool true)).setCell ⟨gb224, 0, none⟩ (.bool t228)).setCell ⟨gb224, 1, none⟩ (.bool t229)).setCell ⟨gb224, 2, none⟩ (.bool t230)).setCell ⟨gb224, 3, none⟩ (.bool t231)).setCell ⟨gb224, 4, none⟩ (.int .i64 t232)).setCell ⟨gb224, 5, none⟩ (.int .i64 t233)).setCell ⟨gb224, 6, none⟩ (.string t234)).setCell ⟨gb224, 7, none⟩ (.string t235))) := ⟨hb_ HB⟩
   (try clear HO_6)
   (try clear BK224)
   (try clear BK225)
   (try clear BK238)
   (try clear HB)
   generalize ((((((((((((((((((w35.setCell ⟨gb238, 0, none⟩ (.bool t228)).setCell ⟨gb238, 1, none⟩ (.bool t229)).setCell ⟨gb238, 2, none⟩ (.bool t230)).setCell ⟨gb238, 3, none⟩ (.bool t231)).setCell ⟨gb238, 4, none⟩ (.int .i64 t232)).setCell ⟨gb238, 5, none⟩ (.int .i64 t233)).setCell ⟨gb238, 6, none⟩ (.string t234)).setCell ⟨gb238, 7, none⟩ (.string t235)).setCell ⟨gb238, 8, none⟩ (.string t236)).setCell ⟨gb238, 9, none⟩ (.bool true)).setCell ⟨gb224, 0, none⟩ (.bool t228)).setCell ⟨gb224, 1, none⟩ (.bool t229)).setCell ⟨gb224, 2, none⟩ (.bool t230)).setCell ⟨gb224, 3, none⟩ (.bool t231)).setCell ⟨gb224, 4, none⟩ (.int .i64 t232)).setCell ⟨gb224, 5, none⟩ (.int .i64 t233)).setCell ⟨gb224, 6, none⟩ (.string t234)).setCell ⟨gb224, 7, none⟩ (.string t235)) = w51 at n0_ n1_ n2_ n3_ n4_ ⊢
   have HO_6 := n0_
   have BK224 := n1_
   have BK225 := n2_
   have BK238 := n3_
   have HB := n4_
   clear n0_ n1_ n2_ n3_ n4_
   have n0_ := Aside0.mk (Kd.R_drew HO_6.out)
   have n1_ := Aside0.mk (blk_drew BK224.out)
   have n2_ := Aside0.mk (blk_drew BK225.out)
   have n3_ := Aside0.mk (blk_drew BK238.out)
   have n4_ := Aside0.mk (below_drew1 HB.out)
   clear HO_6
   clear BK224
   clear BK225
   clear BK238
   clear HB
   have HO_6 := n0_
   have BK224 := n1_
   have BK225 := n2_
   have BK238 := n3_
   have HB := n4_
   clear n0_ n1_ n2_ n3_ n4_
   have p239 : 0 ≤ (x7_1 : Int) := of_decide_eq_true (by first | (with_reducible assumption) | assumption)
   have q239 : x7_1 < (l1.length : Int) := of_decide_eq_true (by first | (with_reducible assumption) | assumption)
   obtain ⟨ad239, e239, hx239_0, hx239_1⟩ := at_T45 HR1.out x7_1 p239 q239
   have hw239_1 := hx239_1
   have hw239_0 := hx239_0
   obtain rfl : ad227 = ad239 := (by injection e239)
   replace hx239_0 := (HB.out.cell (World.block_lt_of_cell? w _ hx239_0)).trans hx239_0
   replace hx239_1 := (HB.out.cell (World.block_lt_of_cell? w _ hx239_1)).trans hx239_1
   replace p239 := eq_true p239
   replace q239 := eq_true q239
   refine start_ (n := 12) (S := fun w' => w'.cell? ⟨gb238, 0, none⟩ = some (.bool t228) ∧ w'.cell? ⟨gb238, 1, none⟩ = some (.bool t229) ∧ w'.cell? ⟨gb238, 2, none⟩ = some (.bool t230) ∧ w'.cell? ⟨gb238, 3, none⟩ = some (.bool t231) ∧ w'.cell? ⟨gb238, 4, none⟩ = some (.int .i64 t232) ∧ w'.cell? ⟨gb238, 5, none⟩ = some (.int .i64 t233) ∧ w'.cell? ⟨gb238, 6, none⟩ = some (.string t234) ∧ w'.cell? ⟨gb238, 7, none⟩ = some (.string t235) ∧ w'.cell? ⟨gb238, 8, none⟩ = some (.string t236) ∧ w'.cell? ⟨gb238, 9, none⟩ = some (.bool true) ∧ w'.cell? (ad227.add ((x7_1).toNat * 2)) = some (.string ((rd_T45 l1 x7_1).f0)) ∧ w'.cell? ⟨(ad227.add ((x7_1).toNat * 2)).block, (ad227.add ((x7_1).toNat * 2)).off + 1, none⟩ = some (.string ((rd_T45 l1 x7_1).f1))) (ds := []) d12x0 (by kernel_rfl) rfl rfl ⟨(blk_cell BK238.out 0).trans rfl, (blk_cell BK238.out 1).trans rfl, (blk_cell BK238.out 2).trans rfl, (blk_cell BK238.out 3).trans rfl, (blk_cell BK238.out 4).trans rfl, (blk_cell BK238.out 5).trans rfl, (blk_cell BK238.out 6).trans rfl, (blk_cell BK238.out 7).trans rfl, (blk_cell BK238.out 8).trans rfl, (blk_cell BK238.out 9).trans rfl, ((HB.out.cell (World.block_lt_of_cell? w _ hw239_0)).trans hw239_0), ((HB.out.cell (World.block_lt_of_cell? w _ hw239_1)).trans hw239_1)⟩ (fun hHeld => ?_); refine with_tabW headgateref21_Answer.tab12 headgateref21_Answer.bits12 (fun HT_ HW_ => ?_)
   generalize w51.drew = w52 at HO_6 BK224 BK225 BK238 HB hx239_0 hx239_1 hHeld ⊢
   refine pon_ 0 (some 34) d12x5 HT_.out ?_
   refine pon_ 1 (some 35) d12x6 HT_.out ?_
   refine pon_ 2 (some 36) d12x7 HT_.out ?_
   refine pon_ 3 (some 37) d12x8 HT_.out ?_
   refine pon_ 4 (some 38) d12x10 HT_.out ?_
   refine pon_ 6 (some 40) d12x12 HT_.out ?_
   refine ptk_ 5 (some 39) d12x15 HT_.out HW_.out hHeld ?_
   refine ptk_ 7 (some 41) d12x17 HT_.out HW_.out hHeld ?_
   refine pon_ 8 (some 42) d12x18 HT_.out ?_
   refine one_ (i := 9) (N := some 43) d12x19 rfl rfl (one_of HT_.out (by kernel_rfl)) (by decide) (fun K hK => ?_)
   refine value_ (w1 := ?_) (v := ?_) (by rfl) rfl ?_ ?_
   rotate_left 2
   ·go_simp
    constructor
    ·rfl
    ·rfl
   refine hK.out _ _ ⟨(blk_cell (blk_alloc BK238.out _) 0).trans rfl, (blk_cell (blk_alloc BK238.out _) 1).trans rfl, (blk_cell (blk_alloc BK238.out _) 2).trans rfl, (blk_cell (blk_alloc BK238.out _) 3).trans rfl, (blk_cell (blk_alloc BK238.out _) 4).trans rfl, (blk_cell (blk_alloc BK238.out _) 5).trans rfl, (blk_cell (blk_alloc BK238.out _) 6).trans rfl, (blk_cell (blk_alloc BK238.out _) 7).trans rfl, (blk_cell (blk_alloc BK238.out _) 8).trans rfl, (blk_cell (blk_alloc BK238.out _) 9).trans rfl, (World.cell?_alloc_lt _ _ _ (World.block_lt_of_cell? _ _ (((HB.out.cell (World.block_lt_of_cell? w _ hw239_0)).trans hw239_0)))).trans (((HB.out.cell (World.block_lt_of_cell? w _ hw239_0)).trans hw239_0)), (World.cell?_alloc_lt _ _ _ (World.block_lt_of_cell? _ _ (((HB.out.cell (World.block_lt_of_cell? w _ hw239_1)).trans hw239_1)))).trans (((HB.out.cell (World.block_lt_of_cell? w _ hw239_1)).trans hw239_1))⟩ (fun hHeld => ?_)
   clear hK K
   refine norm_ (a' := ?_) ?_ ?_
   rotate_left
   ·show Act.put _ (some 43) _ = _
    simp only [Act.put, la_, lb_, lc_, i64_w, i32_w]
    rfl
   refine one_ (i := 10) (N := some 44) d12x20 rfl rfl (one_of HT_.out (by kernel_rfl)) (by decide) (fun K hK => ?_)
   refine Kd.R_append_step k45 (w0 := w) w.heap.size (by rfl) (.tmp 34) (.tmp 43) 24 45 (.agg #[(.string ⟨#[]⟩), (.string ⟨#[]⟩)]) 32 rfl Tryd.underlying24 info45 rfl (by decide) (by omega) u6 x6_1 (⟨(rd_T45 l1 x7_1).f0, t236⟩ : S45) [.string ((rd_T45 l1 x7_1).f0), .string t236] (fun _ => True) (fun _ => False) rfl rfl ?aP (fun _ hk => hk.elim) ?aF ?aO ?aB ?aS ?aL ?_
   (case aP => exact k45_mkM _ _ _ (⟨(rd_T45 l1 x7_1).f0, t236⟩ : S45))
   (case aB => exact (hb_ HB))
   (case aF => exact (fun _ _ => trivial))
   (case aO => exact (by (with_reducible repeat (first | apply Kd.R_alloc | apply Kd.R_drewN | apply Kd.R_drew)); exact HO_6.out))
   (case aS => exact (below_size (hb_ HB)))
   (case aL => have := LMc31.out; omega)
   intro v241 w53 ho hb hg hat
   rw [← Ny240.out] at ho
   have n0_ := Aside0.mk (blk_grown (g := gb224) (o := .cells #[.bool t228, .bool t229, .bool t230, .bool t231, .int .i64 t232, .int .i64 t233, .string t234, .string t235] 31 (0, 0)) (bk_ BK224) hg (Kd.R_ne HO_6.out BK224.out (by decide)))
   have n1_ := Aside0.mk (blk_grown (g := gb225) (o := .cells #[.bool x226000_1, .bool x226001_1, .bool x226002_1, .bool x226003_1, .int .i64 x226004_1, .int .i64 x226005_1, .string x226006_1, .string x226007_1, .slice none 0 0] 33 (0, 0)) (bk_ BK225) hg (Kd.R_ne HO_6.out BK225.out (by decide)))
   have n2_ := Aside0.mk (blk_grown (g := gb238) (o := .cells #[.bool t228, .bool t229, .bool t230, .bool t231, .int .i64 t232, .int .i64 t233, .string t234, .string t235, .string t236, .bool true] 63 (0, 0)) (bk_ BK238) hg (Kd.R_ne HO_6.out BK238.out (by decide)))
   have n3_ := Aside0.mk (hb)
   have n4_ := Aside0.mk (ho)
   clear BK224
   clear BK225
   clear BK238
   clear HB
   clear HO_6
   have BK224 := n0_
   have BK225 := n1_
   have BK238 := n2_
   have HB := n3_
   have HO242 := n4_
   clear n0_ n1_ n2_ n3_ n4_
   clear ho hb hg hat
   refine hK.out _ _ ⟨(blk_cell BK238.out 0).trans rfl, (blk_cell BK238.out 1).trans rfl, (blk_cell BK238.out 2).trans rfl, (blk_cell BK238.out 3).trans rfl, (blk_cell BK238.out 4).trans rfl, (blk_cell BK238.out 5).trans rfl, (blk_cell BK238.out 6).trans rfl, (blk_cell BK238.out 7).trans rfl, (blk_cell BK238.out 8).trans rfl, (blk_cell BK238.out 9).trans rfl, ((HB.out.cell (World.block_lt_of_cell? w _ hw239_0)).trans hw239_0), ((HB.out.cell (World.block_lt_of_cell? w _ hw239_1)).trans hw239_1)⟩ (fun hHeld => ?_)
   clear hK K
   refine norm_ (a' := ?_) ?_ ?_
   rotate_left
   ·show Act.put _ (some 44) _ = _
    simp only [Act.put, la_, lb_, lc_, i64_w, i32_w]
    rfl
   refine pon_ 11 (some 6) d12x21 HT_.out ?_
   refine done_ (done_of HT_.out (by kernel_rfl)) ?_
   try go_wp2
   go_roundg k1
   case measure => have := HK1.out; omega
   case rel => exact ⟨(y240), (wrap64 (x7_1 + 1)), (t228), (t229), (t230), (t231), (t232), (t233), (t234), (t235), (x226000_1), (x226001_1), (x226002_1), (x226003_1), (x226004_1), (x226005_1), (x226006_1), (x226007_1), (by first | rfl | (simp; done) | (simp [*]; done)), H', ⟨by have := HK1.out; omega⟩, ⟨by (with_reducible repeat (first | apply Kd.R_alloc | apply Kd.R_drewN | apply Kd.R_drew)); exact HO242.out⟩, ⟨bk_ BK224⟩, ⟨bk_ BK225⟩, ⟨hb_ HB⟩⟩
end Go.Proofs.YtclcnkmefldpiaaDoor.P
