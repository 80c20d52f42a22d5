-- joined by this session's wip/tools/pack.py: words of the kit's print, cut to what the claim names; functions printed by a patched copy of the printer; walks and lemmas of this session; Lean checks it
import Derived.Test.YthglbmihbmneaaaGreatDoorBa5
import Derived.Maps.Own
import Derived.Maps.OwnOps
import Derived.Maps.Views
import Derived.Carry
import Derived.Lib.SliceRun
namespace Go.Proofs.YthglbmihbmneaaaGreatDoor.P
open Go.RowKit Go.Proofs.YthglbmihbmneaaaGreatDoorW.PrintWords Go.Proofs.YthglbmihbmneaaaGreatDoorW.PrintLast Go.Proofs.YthglbmihbmneaaaGreatDoorW.PrintMore
attribute [local go_sem] max2_int min2_int max_two min_two max_three min_three max_four min_four   -- for this text's walks alone
set_option linter.unusedVariables false
set_option linter.unusedSimpArgs false
set_option linter.unnecessarySimpa false
def headgatelaw22_wakes.f (k : Nat)  : Option (Bool) := (headgateref20_Head.f k 3 true 135 9).bind fun t202 => ((headgateref20_With.f k t202 (⟨#[73, 110, 105, 116, 105, 97, 116, 111, 114, 78, 97, 109, 101, 61, 105, 113, 110, 46, 50, 48, 50, 48, 45, 48, 49, 46, 97, 0, 84, 97, 114, 103, 101, 116, 78, 97, 109, 101, 61, 105, 113, 110, 46, 50, 48, 50, 48, 45, 48, 49, 46, 116, 0]⟩ : ByteArray) 24 5).bind fun bt203 => ((login_First.f).bind fun bt206 => ((login_Step.f k bt206.1 bt206.2.1 bt206.2.2.1 bt206.2.2.2.1 bt206.2.2.2.2.1 bt206.2.2.2.2.2.1 bt206.2.2.2.2.2.2.1 bt206.2.2.2.2.2.2.2.1 bt206.2.2.2.2.2.2.2.2.1 bt206.2.2.2.2.2.2.2.2.2.1 bt206.2.2.2.2.2.2.2.2.2.2.1 bt206.2.2.2.2.2.2.2.2.2.2.2 (⟨#[105, 113, 110, 46, 50, 48, 50, 48, 45, 48, 49, 46, 116]⟩ : ByteArray) bt203.1 bt203.2).bind fun bt218 => (if bt218.2.2.2.2.2.2.2.2.2.2.2.2.2.2 = true then (if bt218.1 = 3 then (if bt218.2.2.2.2.2.2.2.2.2.2.1 = 5 then (if bt218.2.2.2.2.2.2.2.2.2.2.2.1 = 2 then (if (bt218.2.2.2.2.2.2.2.2.2.2.2.2.1.size : Int) = 48 then (if 0 < (bt218.2.2.2.2.2.2.2.2.2.2.2.2.1.size : Int) then (if (bt bt218.2.2.2.2.2.2.2.2.2.2.2.2.1 0) = 35 then (if 1 < (bt218.2.2.2.2.2.2.2.2.2.2.2.2.1.size : Int) then (if (bt bt218.2.2.2.2.2.2.2.2.2.2.2.2.1 1) = 135 then (if 36 < (bt218.2.2.2.2.2.2.2.2.2.2.2.2.1.size : Int) then (if (bt bt218.2.2.2.2.2.2.2.2.2.2.2.2.1 36) = 0 then (some (bt218.2.2.2.2.2.2.2.2.1.toList == ([105, 113, 110, 46, 50, 48, 50, 48, 45, 48, 49, 46, 97] : List UInt8))) else (none)) else (none)) else (none)) else (none)) else (none)) else (none)) else (none)) else (none)) else (none)) else (none)) else (none)))))
theorem headgatelaw22_wakes.mono : ∀ k, LeO (headgatelaw22_wakes.f k ) (headgatelaw22_wakes.f (k + 1) ) := by
 intro  k
 unfold headgatelaw22_wakes.f
 repeat' first
   | (with_reducible exact headgateref20_Head.mono _ _ _ _ _)
   | (with_reducible exact headgateref20_With.mono _ _ _ _ _)
   | (with_reducible exact login_Step.mono _ _ _ _ _ _ _ _ _ _ _ _ _ _ _ _)
   | (with_reducible exact LeO.refl _)
   | (with_reducible exact LeO.none _)
   | (with_reducible refine LeO.ite ?_ ?_)
   | (with_reducible refine LeO.bind ?_ (fun _ => ?_))
   | exact headgateref20_Head.mono _ _ _ _ _
   | exact headgateref20_With.mono _ _ _ _ _
   | exact login_Step.mono _ _ _ _ _ _ _ _ _ _ _ _ _ _ _ _
   | exact LeO.none _
   | refine LeO.ite ?_ ?_
   | refine LeO.bind ?_ (fun _ => ?_)
def headgatelaw22_wakes.T2 : Bool × List (List Nat × List Nat) := (true, [([], []), ([], []), ([0, 1, 0], [0, 1]), ([2], [2]), ([3], [3]), ([3], [3]), ([3], [3]), ([], []), ([], []), ([7, 4, 2, 0, 1, 2, 3, 4, 7, 8], [4, 7]), ([8, 5, 9, 0, 1, 2, 3, 4, 5, 7, 8, 9], [5, 8]), ([6, 10, 0, 1, 2, 3, 4, 5, 6, 7, 8, 9, 10], [6])])
def headgatelaw22_wakes.B2 : List Nat := [0, 0, 3, 7, 15, 15, 15, 0, 0, 415, 959, 2047]
theorem headgatelaw22_wakes.tab2 : rtab .any (opsOf Tryz.f8 2) = headgatelaw22_wakes.T2 := by kernel_rfl
theorem headgatelaw22_wakes.bits2 : waitsOk headgatelaw22_wakes.T2.2 headgatelaw22_wakes.B2 = true := by kernel_rfl
abbrev d8x0 : Array Bool := #[false, false, false, false, false, false, false, false, false, false, false, false]
abbrev d8x1 : Array Bool := dB 12 2
abbrev d8x2 : Array Bool := dB 12 258
abbrev d8x3 : Array Bool := dB 12 130
abbrev d8x4 : Array Bool := dB 12 386
abbrev d8x5 : Array Bool := dB 12 3
abbrev d8x6 : Array Bool := dB 12 259
abbrev d8x7 : Array Bool := dB 12 131
abbrev d8x8 : Array Bool := dB 12 387
abbrev d8x9 : Array Bool := dB 12 7
abbrev d8x10 : Array Bool := dB 12 263
abbrev d8x11 : Array Bool := dB 12 135
abbrev d8x12 : Array Bool := dB 12 391
abbrev d8x13 : Array Bool := dB 12 15
abbrev d8x14 : Array Bool := dB 12 271
abbrev d8x15 : Array Bool := dB 12 143
abbrev d8x16 : Array Bool := dB 12 399
abbrev d8x17 : Array Bool := dB 12 31
abbrev d8x18 : Array Bool := dB 12 287
abbrev d8x19 : Array Bool := dB 12 159
abbrev d8x20 : Array Bool := dB 12 415
abbrev d8x21 : Array Bool := dB 12 63
abbrev d8x22 : Array Bool := dB 12 319
abbrev d8x23 : Array Bool := dB 12 191
abbrev d8x24 : Array Bool := dB 12 447
abbrev d8x25 : Array Bool := dB 12 127
abbrev d8x26 : Array Bool := dB 12 383
abbrev d8x27 : Array Bool := dB 12 255
abbrev d8x28 : Array Bool := dB 12 511
abbrev d8x29 : Array Bool := dB 12 1023
abbrev d8x30 : Array Bool := dB 12 2047
abbrev d8x31 : Array Bool := dB 12 4095
set_option maxHeartbeats 8000000 in
set_option maxRecDepth 100000 in
theorem headgatelaw22_wakes.calls (k : Nat)  (r : Bool) (w : World) (hG : Glob w) (h : headgatelaw22_wakes.f k  = some r) :
  Calls Tryz.prog 8 #[] w fun e w' => e = .returned (.bool r) ∧ Below w.heap.size w w' := by
 have hu35 := Tryz.underlying35
 have hu27 := Tryz.underlying27
 have HG := Aside0.mk hG
 clear hG
 have HB := Aside0.mk (Below.refl w.heap.size w)
 have H : ((headgateref20_Head.f k 3 true 135 9).bind fun t202 => ((headgateref20_With.f k t202 (⟨#[73, 110, 105, 116, 105, 97, 116, 111, 114, 78, 97, 109, 101, 61, 105, 113, 110, 46, 50, 48, 50, 48, 45, 48, 49, 46, 97, 0, 84, 97, 114, 103, 101, 116, 78, 97, 109, 101, 61, 105, 113, 110, 46, 50, 48, 50, 48, 45, 48, 49, 46, 116, 0]⟩ : ByteArray) 24 5).bind fun bt203 => ((login_First.f).bind fun bt206 => ((login_Step.f k bt206.1 bt206.2.1 bt206.2.2.1 bt206.2.2.2.1 bt206.2.2.2.2.1 bt206.2.2.2.2.2.1 bt206.2.2.2.2.2.2.1 bt206.2.2.2.2.2.2.2.1 bt206.2.2.2.2.2.2.2.2.1 bt206.2.2.2.2.2.2.2.2.2.1 bt206.2.2.2.2.2.2.2.2.2.2.1 bt206.2.2.2.2.2.2.2.2.2.2.2 (⟨#[105, 113, 110, 46, 50, 48, 50, 48, 45, 48, 49, 46, 116]⟩ : ByteArray) bt203.1 bt203.2).bind fun bt218 => (if bt218.2.2.2.2.2.2.2.2.2.2.2.2.2.2 = true then (if bt218.1 = 3 then (if bt218.2.2.2.2.2.2.2.2.2.2.1 = 5 then (if bt218.2.2.2.2.2.2.2.2.2.2.2.1 = 2 then (if (bt218.2.2.2.2.2.2.2.2.2.2.2.2.1.size : Int) = 48 then (if 0 < (bt218.2.2.2.2.2.2.2.2.2.2.2.2.1.size : Int) then (if (bt bt218.2.2.2.2.2.2.2.2.2.2.2.2.1 0) = 35 then (if 1 < (bt218.2.2.2.2.2.2.2.2.2.2.2.2.1.size : Int) then (if (bt bt218.2.2.2.2.2.2.2.2.2.2.2.2.1 1) = 135 then (if 36 < (bt218.2.2.2.2.2.2.2.2.2.2.2.2.1.size : Int) then (if (bt bt218.2.2.2.2.2.2.2.2.2.2.2.2.1 36) = 0 then (some (bt218.2.2.2.2.2.2.2.2.1.toList == ([105, 113, 110, 46, 50, 48, 50, 48, 45, 48, 49, 46, 97] : List UInt8))) else (none)) else (none)) else (none)) else (none)) else (none)) else (none)) else (none)) else (none)) else (none)) else (none)) else (none)))))) = some r := h
 clear h
 replace H := Option.bind_eq_some_iff.mp H
 obtain ⟨t202, A10, H⟩ := H
 try dsimp only at H
 have A1 := Aside0.mk A10
 clear A10
 replace H := Option.bind_eq_some_iff.mp H
 obtain ⟨⟨t203, t204⟩, A20, H⟩ := H
 try dsimp only at H
 have A2 := Aside0.mk A20
 clear A20
 replace H := Option.bind_eq_some_iff.mp H
 obtain ⟨⟨t206, t207, t208, t209, t210, t211, t212, t213, t214, t215, t216, t217⟩, A30, H⟩ := H
 try dsimp only at H
 have A3 := Aside0.mk A30
 clear A30
 replace H := Option.bind_eq_some_iff.mp H
 obtain ⟨⟨t218, t219, t220, t221, t222, t223, t224, t225, t226, t227, t228, t229, t230, t231, t232⟩, A40, H⟩ := H
 try dsimp only at H
 have A4 := Aside0.mk A40
 clear A40
 refine neg_first (p := (t232 = true)) (fun c5 => ?_) (fun c5 => ?_)
 ·replace c5 := Bool.eq_false_iff.mpr c5
  subst c5
  have H1 := H
  rw [if_neg (show ¬ (false = true) by decide)] at H1
  clear H
  have H := H1
  clear H1
  cases H
 subst c5
 have H1 := H
 rw [if_pos rfl] at H1
 clear H
 have H := H1
 clear H1
 refine neg_first (p := (t218 = 3)) (fun c6 => ?_) (fun c6 => ?_)
 ·rw [if_neg c6] at H
  have c6b0 : (t218 == 3) = false := beq_eq_false_iff_ne.mpr c6
  have c6b1 : (t218 != 3) = true := bne_iff_ne.mpr c6
  cases H
 rw [if_pos c6] at H
 have c6b0 : (t218 == 3) = true := beq_iff_eq.mpr c6
 have c6b1 : (t218 != 3) = false := bne_eq_false_iff_eq.mpr c6
 clear c6
 refine neg_first (p := (t228 = 5)) (fun c7 => ?_) (fun c7 => ?_)
 ·rw [if_neg c7] at H
  have c7b0 : (t228 == 5) = false := beq_eq_false_iff_ne.mpr c7
  have c7b1 : (t228 != 5) = true := bne_iff_ne.mpr c7
  cases H
 rw [if_pos c7] at H
 have c7b0 : (t228 == 5) = true := beq_iff_eq.mpr c7
 have c7b1 : (t228 != 5) = false := bne_eq_false_iff_eq.mpr c7
 clear c7
 refine neg_first (p := (t229 = 2)) (fun c8 => ?_) (fun c8 => ?_)
 ·rw [if_neg c8] at H
  have c8b0 : (t229 == 2) = false := beq_eq_false_iff_ne.mpr c8
  have c8b1 : (t229 != 2) = true := bne_iff_ne.mpr c8
  cases H
 rw [if_pos c8] at H
 have c8b0 : (t229 == 2) = true := beq_iff_eq.mpr c8
 have c8b1 : (t229 != 2) = false := bne_eq_false_iff_eq.mpr c8
 clear c8
 refine neg_first (p := ((t230.size : Int) = 48)) (fun c9 => ?_) (fun c9 => ?_)
 ·rw [if_neg c9] at H
  have c9b0 : ((t230.size : Int) == 48) = false := beq_eq_false_iff_ne.mpr c9
  have c9b1 : ((t230.size : Int) != 48) = true := bne_iff_ne.mpr c9
  cases H
 rw [if_pos c9] at H
 have c9b0 : ((t230.size : Int) == 48) = true := beq_iff_eq.mpr c9
 have c9b1 : ((t230.size : Int) != 48) = false := bne_eq_false_iff_eq.mpr c9
 clear c9
 refine neg_first (p := (0 < (t230.size : Int))) (fun c10 => ?_) (fun c10 => ?_)
 ·rw [if_neg c10] at H
  exact absurd H (by simp)
 rw [if_pos c10] at H
 have c10b0 : decide (0 < (t230.size : Int)) = true := decide_eq_true c10
 have c10b1 : decide (0 < t230.size) = true := decide_eq_true (by omega)
 clear c10
 refine neg_first (p := ((bt t230 0) = 35)) (fun c12 => ?_) (fun c12 => ?_)
 ·rw [if_neg c12] at H
  have c12b0 : ((bt t230 0) == 35) = false := beq_eq_false_iff_ne.mpr c12
  have c12b1 : ((bt t230 0) != 35) = true := bne_iff_ne.mpr c12
  cases H
 rw [if_pos c12] at H
 have c12b0 : ((bt t230 0) == 35) = true := beq_iff_eq.mpr c12
 have c12b1 : ((bt t230 0) != 35) = false := bne_eq_false_iff_eq.mpr c12
 clear c12
 refine neg_first (p := (1 < (t230.size : Int))) (fun c13 => ?_) (fun c13 => ?_)
 ·rw [if_neg c13] at H
  exact absurd H (by simp)
 rw [if_pos c13] at H
 have c13b0 : decide (1 < (t230.size : Int)) = true := decide_eq_true c13
 have c13b1 : decide (1 < t230.size) = true := decide_eq_true (by omega)
 clear c13
 refine neg_first (p := ((bt t230 1) = 135)) (fun c15 => ?_) (fun c15 => ?_)
 ·rw [if_neg c15] at H
  have c15b0 : ((bt t230 1) == 135) = false := beq_eq_false_iff_ne.mpr c15
  have c15b1 : ((bt t230 1) != 135) = true := bne_iff_ne.mpr c15
  cases H
 rw [if_pos c15] at H
 have c15b0 : ((bt t230 1) == 135) = true := beq_iff_eq.mpr c15
 have c15b1 : ((bt t230 1) != 135) = false := bne_eq_false_iff_eq.mpr c15
 clear c15
 refine neg_first (p := (36 < (t230.size : Int))) (fun c16 => ?_) (fun c16 => ?_)
 ·rw [if_neg c16] at H
  exact absurd H (by simp)
 rw [if_pos c16] at H
 have c16b0 : decide (36 < (t230.size : Int)) = true := decide_eq_true c16
 have c16b1 : decide (36 < t230.size) = true := decide_eq_true (by omega)
 clear c16
 refine neg_first (p := ((bt t230 36) = 0)) (fun c18 => ?_) (fun c18 => ?_)
 ·rw [if_neg c18] at H
  have c18b0 : ((bt t230 36) == 0) = false := beq_eq_false_iff_ne.mpr c18
  have c18b1 : ((bt t230 36) != 0) = true := bne_iff_ne.mpr c18
  cases H
 rw [if_pos c18] at H
 have c18b0 : ((bt t230 36) == 0) = true := beq_iff_eq.mpr c18
 have c18b1 : ((bt t230 36) != 0) = false := bne_eq_false_iff_eq.mpr c18
 clear c18
 obtain rfl := Option.some.inj H
 go_enter Tryz.func8, Tryz.ntmps8
 try go_wp2_with (first | ((with_reducible refine gate_callee (f := 18) rfl ?_); refine goesL_ (some 5) rfl rfl Tryz.func18 (by kernel_rfl) rfl #[.int .i64 3, .bool true, .int .i64 135, .int .u32 9] rfl (by (try simp only [List.map_toArray, List.map_cons, List.map_nil]); first | done | rfl | (simp only [List.length_drop, List.length_take]; rfl)) ?_; (with_reducible refine (headgateref20_Head.calls k 3 true 135 9 t202 _ A1.out).mono ?_); rintro e w19 ⟨rfl, hb⟩; refine ⟨_, rfl, ?_⟩; have n0_ := Aside0.mk (below_step (hb_ HB) hb); clear HB; have HB := n0_; clear n0_; (try clear hb); (try clear hb2); (try clear hk); (try clear hi)) | ((with_reducible refine gate_callee (f := 17) rfl ?_); refine goesL_ (some 7) rfl rfl Tryz.func17 (by kernel_rfl) rfl #[.agg #[.string t202, .string (⟨#[73, 110, 105, 116, 105, 97, 116, 111, 114, 78, 97, 109, 101, 61, 105, 113, 110, 46, 50, 48, 50, 48, 45, 48, 49, 46, 97, 0, 84, 97, 114, 103, 101, 116, 78, 97, 109, 101, 61, 105, 113, 110, 46, 50, 48, 50, 48, 45, 48, 49, 46, 116, 0]⟩ : ByteArray)], .int .i64 24, .int .u32 5] rfl (by (try simp only [List.map_toArray, List.map_cons, List.map_nil]); first | done | rfl | (simp only [List.length_drop, List.length_take]; rfl)) ?_; (with_reducible refine (headgateref20_With.calls k t202 (⟨#[73, 110, 105, 116, 105, 97, 116, 111, 114, 78, 97, 109, 101, 61, 105, 113, 110, 46, 50, 48, 50, 48, 45, 48, 49, 46, 97, 0, 84, 97, 114, 103, 101, 116, 78, 97, 109, 101, 61, 105, 113, 110, 46, 50, 48, 50, 48, 45, 48, 49, 46, 116, 0]⟩ : ByteArray) 24 5 t203 t204 _ A2.out).mono ?_); rintro e w20 ⟨rfl, hb⟩; refine ⟨_, rfl, ?_⟩; have n0_ := Aside0.mk (below_step (hb_ HB) hb); clear HB; have HB := n0_; clear n0_; (try clear hb); (try clear hb2); (try clear hk); (try clear hi)) | ((with_reducible refine gate_dst (N := 1) rfl ?_); (try (refine gate_guard (by rfl) ?_; dsimp only)); refine box_event ?hg (N := 1) ?hd (cs := #[.string (⟨#[]⟩ : ByteArray), .string (⟨#[]⟩ : ByteArray)]) (t := 35) ?hr ?_; (case hd => rfl); (case hg => rfl); (case hr => first | (go_simp; done) | (go_simp; rfl)); intro gb205 hg w21 hbox hb; have n0_ := Aside0.mk (below_step (hb_ HB) hb); have n1_ := Aside0.mk (hbox); have n2_ := Aside0.mk ((by rw [hg]; exact (below_size (hb_ HB)) : w.heap.size ≤ gb205)); have n3_ := Aside0.mk ((by rw [hg]; exact (below_size (hb_ HB)) : w.heap.size ≤ gb205)); clear HB; have HB := n0_; have BK205 := n1_; have GW205 := n2_; have GE205 := n3_; clear n0_ n1_ n2_ n3_; clear hb hbox hg; have hcz22_0 : w21.cell? ⟨gb205, 0, none⟩ = some (.string (⟨#[]⟩ : ByteArray)) := (blk_cell BK205.out 0).trans rfl; have hcz22_1 : w21.cell? ⟨gb205, 1, none⟩ = some (.string (⟨#[]⟩ : ByteArray)) := (blk_cell BK205.out 1).trans rfl; have hfz22_0 := blk_frozen BK205.out 0; have hfz22_1 := blk_frozen BK205.out 1))
 have n0_ : Aside0 (((w21.setCell ⟨gb205, 0, none⟩ (.string t203)).setCell ⟨gb205, 1, none⟩ (.string t204)).heap[gb205]? = some (.cells #[.string t203, .string t204] 35 (0, 0))) := ⟨by (with_reducible repeat (first | refine blk_drewN ?_ _ | refine blk_drew ?_ | refine blk_alloc ?_ _)); refine blk_put (cs := #[.string t203, .string (⟨#[]⟩ : ByteArray)]) ?_ 1 _ rfl; (with_reducible repeat (first | refine blk_drewN ?_ _ | refine blk_drew ?_ | refine blk_alloc ?_ _)); refine blk_put (cs := #[.string (⟨#[]⟩ : ByteArray), .string (⟨#[]⟩ : ByteArray)]) ?_ 0 _ rfl; (with_reducible repeat (first | refine blk_drewN ?_ _ | refine blk_drew ?_ | refine blk_alloc ?_ _)); exact BK205.out⟩
 have n1_ : Aside0 (Below w.heap.size w ((w21.setCell ⟨gb205, 0, none⟩ (.string t203)).setCell ⟨gb205, 1, none⟩ (.string t204))) := ⟨hb_ HB⟩
 (try clear BK205)
 (try clear HB)
 generalize ((w21.setCell ⟨gb205, 0, none⟩ (.string t203)).setCell ⟨gb205, 1, none⟩ (.string t204)) = w23 at n0_ n1_ ⊢
 have BK205 := n0_
 have HB := n1_
 clear n0_ n1_
 have n0_ := Aside0.mk (blk_drew BK205.out)
 have n1_ := Aside0.mk (below_drew1 HB.out)
 clear BK205
 clear HB
 have BK205 := n0_
 have HB := n1_
 clear n0_ n1_
 refine start_ (n := 12) (S := fun w' => w'.cell? ⟨gb205, 0, none⟩ = some (.string t203) ∧ w'.cell? ⟨gb205, 1, none⟩ = some (.string t204)) (ds := []) d8x0 (by kernel_rfl) rfl rfl ⟨(blk_cell BK205.out 0).trans rfl, (blk_cell BK205.out 1).trans rfl⟩ (fun hHeld => ?_); refine with_tabW headgatelaw22_wakes.tab2 headgatelaw22_wakes.bits2 (fun HT_ HW_ => ?_)
 generalize w23.drew = w24 at BK205 HB hHeld ⊢
 refine ptk_ 1 (some 10) d8x1 HT_.out HW_.out hHeld ?_
 refine join_ (σ := Nat × Nat) 3 d8x28 (fun s_ => [(9, .agg #[.int .i64 t206, .bool t207, .bool t208, .bool t209, .bool t210, .bool t211, .int .i64 t212, .int .i64 t213, .string t214, .string t215, .int .u32 t216, .int .u32 t217]), (11, .tuple #[.agg #[.int .i64 t218, .bool t219, .bool t220, .bool t221, .bool t222, .bool t223, .int .i64 t224, .int .i64 t225, .string t226, .string t227, .int .u32 t228, .int .u32 t229], .agg #[.string t230, .string t231], .bool true]), (2, .pointer (some ⟨s_.1, 0, none⟩)), (3, .pointer (some ⟨s_.2, 0, none⟩)), (8, .tuple #[.agg #[.int .i64 t218, .bool t219, .bool t220, .bool t221, .bool t222, .bool t223, .int .i64 t224, .int .i64 t225, .string t226, .string t227, .int .u32 t228, .int .u32 t229], .agg #[.string t230, .string t231], .bool true]), (12, .agg #[.int .i64 t218, .bool t219, .bool t220, .bool t221, .bool t222, .bool t223, .int .i64 t224, .int .i64 t225, .string t226, .string t227, .int .u32 t228, .int .u32 t229]), (13, .agg #[.string t230, .string t231]), (14, .bool true)]) (fun s_ w' => (w'.cell? ⟨gb205, 0, none⟩ = some (.string t203) ∧ w'.cell? ⟨gb205, 1, none⟩ = some (.string t204)) ∧ (w'.heap[gb205]? = some (.cells #[.string t203, .string t204] 35 (0, 0))) ∧ (w'.heap[s_.1]? = some (.cells #[.int .i64 0, .bool false, .bool false, .bool false, .bool false, .bool false, .int .i64 0, .int .i64 0, .string (⟨#[]⟩ : ByteArray), .string (⟨#[]⟩ : ByteArray), .int .u32 0, .int .u32 0] 27 (0, 0))) ∧ (w'.heap[s_.2]? = some (.cells #[.string (⟨#[]⟩ : ByteArray), .string (⟨#[]⟩ : ByteArray)] 35 (0, 0))) ∧ (w.heap.size ≤ s_.1) ∧ (w.heap.size ≤ s_.1) ∧ (gb205 ≠ s_.1) ∧ (s_.1 ≠ gb205) ∧ (s_.2 ≠ s_.1) ∧ (s_.1 ≠ s_.2) ∧ (w.heap.size ≤ s_.2) ∧ (w.heap.size ≤ s_.2) ∧ (gb205 ≠ s_.2) ∧ (s_.2 ≠ gb205) ∧ (Below w.heap.size w w')) ?_ ?_
 rotate_left
 ·intro hJ0_2_7_8
  refine join_ (σ := Nat) 4 d8x27 (fun s_ => [(9, .agg #[.int .i64 t206, .bool t207, .bool t208, .bool t209, .bool t210, .bool t211, .int .i64 t212, .int .i64 t213, .string t214, .string t215, .int .u32 t216, .int .u32 t217]), (11, .tuple #[.agg #[.int .i64 t218, .bool t219, .bool t220, .bool t221, .bool t222, .bool t223, .int .i64 t224, .int .i64 t225, .string t226, .string t227, .int .u32 t228, .int .u32 t229], .agg #[.string t230, .string t231], .bool true]), (2, .pointer (some ⟨s_, 0, none⟩)), (8, .tuple #[.agg #[.int .i64 t218, .bool t219, .bool t220, .bool t221, .bool t222, .bool t223, .int .i64 t224, .int .i64 t225, .string t226, .string t227, .int .u32 t228, .int .u32 t229], .agg #[.string t230, .string t231], .bool true]), (12, .agg #[.int .i64 t218, .bool t219, .bool t220, .bool t221, .bool t222, .bool t223, .int .i64 t224, .int .i64 t225, .string t226, .string t227, .int .u32 t228, .int .u32 t229]), (13, .agg #[.string t230, .string t231]), (14, .bool true)]) (fun s_ w' => (w'.cell? ⟨gb205, 0, none⟩ = some (.string t203) ∧ w'.cell? ⟨gb205, 1, none⟩ = some (.string t204)) ∧ (w'.heap[gb205]? = some (.cells #[.string t203, .string t204] 35 (0, 0))) ∧ (w'.heap[s_]? = some (.cells #[.int .i64 0, .bool false, .bool false, .bool false, .bool false, .bool false, .int .i64 0, .int .i64 0, .string (⟨#[]⟩ : ByteArray), .string (⟨#[]⟩ : ByteArray), .int .u32 0, .int .u32 0] 27 (0, 0))) ∧ (w.heap.size ≤ s_) ∧ (w.heap.size ≤ s_) ∧ (gb205 ≠ s_) ∧ (s_ ≠ gb205) ∧ (Below w.heap.size w w')) ?_ ?_
  rotate_left
  ·intro hJ0_2_7
   refine join_ (σ := Nat) 4 d8x26 (fun s_ => [(9, .agg #[.int .i64 t206, .bool t207, .bool t208, .bool t209, .bool t210, .bool t211, .int .i64 t212, .int .i64 t213, .string t214, .string t215, .int .u32 t216, .int .u32 t217]), (11, .tuple #[.agg #[.int .i64 t218, .bool t219, .bool t220, .bool t221, .bool t222, .bool t223, .int .i64 t224, .int .i64 t225, .string t226, .string t227, .int .u32 t228, .int .u32 t229], .agg #[.string t230, .string t231], .bool true]), (3, .pointer (some ⟨s_, 0, none⟩)), (8, .tuple #[.agg #[.int .i64 t218, .bool t219, .bool t220, .bool t221, .bool t222, .bool t223, .int .i64 t224, .int .i64 t225, .string t226, .string t227, .int .u32 t228, .int .u32 t229], .agg #[.string t230, .string t231], .bool true]), (12, .agg #[.int .i64 t218, .bool t219, .bool t220, .bool t221, .bool t222, .bool t223, .int .i64 t224, .int .i64 t225, .string t226, .string t227, .int .u32 t228, .int .u32 t229]), (13, .agg #[.string t230, .string t231]), (14, .bool true)]) (fun s_ w' => (w'.cell? ⟨gb205, 0, none⟩ = some (.string t203) ∧ w'.cell? ⟨gb205, 1, none⟩ = some (.string t204)) ∧ (w'.heap[gb205]? = some (.cells #[.string t203, .string t204] 35 (0, 0))) ∧ (w'.heap[s_]? = some (.cells #[.string (⟨#[]⟩ : ByteArray), .string (⟨#[]⟩ : ByteArray)] 35 (0, 0))) ∧ (w.heap.size ≤ s_) ∧ (w.heap.size ≤ s_) ∧ (gb205 ≠ s_) ∧ (s_ ≠ gb205) ∧ (Below w.heap.size w w')) ?_ ?_
   rotate_left
   ·intro hJ0_2_8
    refine join_ (σ := Nat × Nat) 8 d8x8 (fun s_ => [(9, .agg #[.int .i64 t206, .bool t207, .bool t208, .bool t209, .bool t210, .bool t211, .int .i64 t212, .int .i64 t213, .string t214, .string t215, .int .u32 t216, .int .u32 t217]), (2, .pointer (some ⟨s_.1, 0, none⟩)), (3, .pointer (some ⟨s_.2, 0, none⟩))]) (fun s_ w' => (w'.cell? ⟨gb205, 0, none⟩ = some (.string t203) ∧ w'.cell? ⟨gb205, 1, none⟩ = some (.string t204)) ∧ (w'.heap[gb205]? = some (.cells #[.string t203, .string t204] 35 (0, 0))) ∧ (w'.heap[s_.1]? = some (.cells #[.int .i64 0, .bool false, .bool false, .bool false, .bool false, .bool false, .int .i64 0, .int .i64 0, .string (⟨#[]⟩ : ByteArray), .string (⟨#[]⟩ : ByteArray), .int .u32 0, .int .u32 0] 27 (0, 0))) ∧ (w'.heap[s_.2]? = some (.cells #[.string (⟨#[]⟩ : ByteArray), .string (⟨#[]⟩ : ByteArray)] 35 (0, 0))) ∧ (w.heap.size ≤ s_.1) ∧ (w.heap.size ≤ s_.1) ∧ (gb205 ≠ s_.1) ∧ (s_.1 ≠ gb205) ∧ (s_.2 ≠ s_.1) ∧ (s_.1 ≠ s_.2) ∧ (w.heap.size ≤ s_.2) ∧ (w.heap.size ≤ s_.2) ∧ (gb205 ≠ s_.2) ∧ (s_.2 ≠ gb205) ∧ (Below w.heap.size w w')) ?_ ?_
    rotate_left
    ·intro hJ0_7_8
     refine join_ (σ := Unit) 5 d8x25 (fun s_ => [(9, .agg #[.int .i64 t206, .bool t207, .bool t208, .bool t209, .bool t210, .bool t211, .int .i64 t212, .int .i64 t213, .string t214, .string t215, .int .u32 t216, .int .u32 t217]), (11, .tuple #[.agg #[.int .i64 t218, .bool t219, .bool t220, .bool t221, .bool t222, .bool t223, .int .i64 t224, .int .i64 t225, .string t226, .string t227, .int .u32 t228, .int .u32 t229], .agg #[.string t230, .string t231], .bool true]), (8, .tuple #[.agg #[.int .i64 t218, .bool t219, .bool t220, .bool t221, .bool t222, .bool t223, .int .i64 t224, .int .i64 t225, .string t226, .string t227, .int .u32 t228, .int .u32 t229], .agg #[.string t230, .string t231], .bool true]), (12, .agg #[.int .i64 t218, .bool t219, .bool t220, .bool t221, .bool t222, .bool t223, .int .i64 t224, .int .i64 t225, .string t226, .string t227, .int .u32 t228, .int .u32 t229]), (13, .agg #[.string t230, .string t231]), (14, .bool true)]) (fun s_ w' => (w'.cell? ⟨gb205, 0, none⟩ = some (.string t203) ∧ w'.cell? ⟨gb205, 1, none⟩ = some (.string t204)) ∧ (w'.heap[gb205]? = some (.cells #[.string t203, .string t204] 35 (0, 0))) ∧ (Below w.heap.size w w')) ?_ ?_
     rotate_left
     ·intro hJ0_2
      refine join_ (σ := Nat) 9 d8x7 (fun s_ => [(9, .agg #[.int .i64 t206, .bool t207, .bool t208, .bool t209, .bool t210, .bool t211, .int .i64 t212, .int .i64 t213, .string t214, .string t215, .int .u32 t216, .int .u32 t217]), (2, .pointer (some ⟨s_, 0, none⟩))]) (fun s_ w' => (w'.cell? ⟨gb205, 0, none⟩ = some (.string t203) ∧ w'.cell? ⟨gb205, 1, none⟩ = some (.string t204)) ∧ (w'.heap[gb205]? = some (.cells #[.string t203, .string t204] 35 (0, 0))) ∧ (w'.heap[s_]? = some (.cells #[.int .i64 0, .bool false, .bool false, .bool false, .bool false, .bool false, .int .i64 0, .int .i64 0, .string (⟨#[]⟩ : ByteArray), .string (⟨#[]⟩ : ByteArray), .int .u32 0, .int .u32 0] 27 (0, 0))) ∧ (w.heap.size ≤ s_) ∧ (w.heap.size ≤ s_) ∧ (gb205 ≠ s_) ∧ (s_ ≠ gb205) ∧ (Below w.heap.size w w')) ?_ ?_
      rotate_left
      ·intro hJ0_7
       refine join_ (σ := Nat) 9 d8x6 (fun s_ => [(9, .agg #[.int .i64 t206, .bool t207, .bool t208, .bool t209, .bool t210, .bool t211, .int .i64 t212, .int .i64 t213, .string t214, .string t215, .int .u32 t216, .int .u32 t217]), (3, .pointer (some ⟨s_, 0, none⟩))]) (fun s_ w' => (w'.cell? ⟨gb205, 0, none⟩ = some (.string t203) ∧ w'.cell? ⟨gb205, 1, none⟩ = some (.string t204)) ∧ (w'.heap[gb205]? = some (.cells #[.string t203, .string t204] 35 (0, 0))) ∧ (w'.heap[s_]? = some (.cells #[.string (⟨#[]⟩ : ByteArray), .string (⟨#[]⟩ : ByteArray)] 35 (0, 0))) ∧ (w.heap.size ≤ s_) ∧ (w.heap.size ≤ s_) ∧ (gb205 ≠ s_) ∧ (s_ ≠ gb205) ∧ (Below w.heap.size w w')) ?_ ?_
       rotate_left
       ·intro hJ0_8
        refine join_ (σ := Nat × Nat) 9 d8x4 (fun s_ => [(2, .pointer (some ⟨s_.1, 0, none⟩)), (3, .pointer (some ⟨s_.2, 0, none⟩))]) (fun s_ w' => (w'.cell? ⟨gb205, 0, none⟩ = some (.string t203) ∧ w'.cell? ⟨gb205, 1, none⟩ = some (.string t204)) ∧ (w'.heap[gb205]? = some (.cells #[.string t203, .string t204] 35 (0, 0))) ∧ (w'.heap[s_.1]? = some (.cells #[.int .i64 0, .bool false, .bool false, .bool false, .bool false, .bool false, .int .i64 0, .int .i64 0, .string (⟨#[]⟩ : ByteArray), .string (⟨#[]⟩ : ByteArray), .int .u32 0, .int .u32 0] 27 (0, 0))) ∧ (w'.heap[s_.2]? = some (.cells #[.string (⟨#[]⟩ : ByteArray), .string (⟨#[]⟩ : ByteArray)] 35 (0, 0))) ∧ (w.heap.size ≤ s_.1) ∧ (w.heap.size ≤ s_.1) ∧ (gb205 ≠ s_.1) ∧ (s_.1 ≠ gb205) ∧ (s_.2 ≠ s_.1) ∧ (s_.1 ≠ s_.2) ∧ (w.heap.size ≤ s_.2) ∧ (w.heap.size ≤ s_.2) ∧ (gb205 ≠ s_.2) ∧ (s_.2 ≠ gb205) ∧ (Below w.heap.size w w')) ?_ ?_
        rotate_left
        ·intro hJ7_8
         refine join_ (σ := Unit) 10 d8x5 (fun s_ => [(9, .agg #[.int .i64 t206, .bool t207, .bool t208, .bool t209, .bool t210, .bool t211, .int .i64 t212, .int .i64 t213, .string t214, .string t215, .int .u32 t216, .int .u32 t217])]) (fun s_ w' => (w'.cell? ⟨gb205, 0, none⟩ = some (.string t203) ∧ w'.cell? ⟨gb205, 1, none⟩ = some (.string t204)) ∧ (w'.heap[gb205]? = some (.cells #[.string t203, .string t204] 35 (0, 0))) ∧ (Below w.heap.size w w')) ?_ ?_
         rotate_left
         ·intro hJ0
          refine join_ (σ := Nat) 10 d8x3 (fun s_ => [(2, .pointer (some ⟨s_, 0, none⟩))]) (fun s_ w' => (w'.cell? ⟨gb205, 0, none⟩ = some (.string t203) ∧ w'.cell? ⟨gb205, 1, none⟩ = some (.string t204)) ∧ (w'.heap[gb205]? = some (.cells #[.string t203, .string t204] 35 (0, 0))) ∧ (w'.heap[s_]? = some (.cells #[.int .i64 0, .bool false, .bool false, .bool false, .bool false, .bool false, .int .i64 0, .int .i64 0, .string (⟨#[]⟩ : ByteArray), .string (⟨#[]⟩ : ByteArray), .int .u32 0, .int .u32 0] 27 (0, 0))) ∧ (w.heap.size ≤ s_) ∧ (w.heap.size ≤ s_) ∧ (gb205 ≠ s_) ∧ (s_ ≠ gb205) ∧ (Below w.heap.size w w')) ?_ ?_
          rotate_left
          ·intro hJ7
           refine join_ (σ := Nat) 10 d8x2 (fun s_ => [(3, .pointer (some ⟨s_, 0, none⟩))]) (fun s_ w' => (w'.cell? ⟨gb205, 0, none⟩ = some (.string t203) ∧ w'.cell? ⟨gb205, 1, none⟩ = some (.string t204)) ∧ (w'.heap[gb205]? = some (.cells #[.string t203, .string t204] 35 (0, 0))) ∧ (w'.heap[s_]? = some (.cells #[.string (⟨#[]⟩ : ByteArray), .string (⟨#[]⟩ : ByteArray)] 35 (0, 0))) ∧ (w.heap.size ≤ s_) ∧ (w.heap.size ≤ s_) ∧ (gb205 ≠ s_) ∧ (s_ ≠ gb205) ∧ (Below w.heap.size w w')) ?_ ?_
           rotate_left
           ·intro hJ8
            refine three_ (i := 0) (j := 7) (k := 8) (Ni := some 9) (Nj := some 2) (Nk := some 3) d8x5 d8x3 d8x2 rfl rfl rfl rfl rfl rfl (three_of HT_.out (by kernel_rfl)) (by decide) (by decide) (by decide) (fun K hK => ?_) (fun K hK => ?_) (fun K hK => ?_)
            ·skip
             refine goes_ Tryz.func5 (by kernel_rfl) rfl #[] (by rfl) rfl rfl (by (try simp only [List.map_toArray, List.map_cons, List.map_nil]); first | done | rfl | (simp only [List.length_drop, List.length_take]; rfl)) ?_
             with_reducible refine (login_First.calls  t206 t207 t208 t209 t210 t211 t212 t213 t214 t215 t216 t217 _ A3.out).mono ?_
             rintro e w25 ⟨rfl, hb⟩
             refine ⟨_, rfl, ?_⟩
             have n0_ := Aside0.mk (blk_below (bk_ BK205) hb)
             have n1_ := Aside0.mk (below_step (hb_ HB) hb)
             clear BK205
             clear HB
             have BK205 := n0_
             have HB := n1_
             clear n0_ n1_
             (try clear hb)
             (try clear hb2)
             (try clear hk)
             (try clear hi)
             refine hK.out _ _ ⟨(blk_cell BK205.out 0).trans rfl, (blk_cell BK205.out 1).trans rfl⟩ (fun hHeld => ?_)
             clear hK K
             refine norm_ (a' := ?_) ?_ ?_
             rotate_left
             ·show Act.put _ (some 9) _ = _
              simp only [Act.put, la_, lb_, lc_, i64_w, i32_w]
              rfl
             exact norm_ (by first | (simp only [putAll, Act.put, la_, lb_, lc_]; done) | (simp only [putAll, Act.put, la_, lb_, lc_]; rfl)) (hJ0 () _ ⟨hHeld, (bk_ BK205), (hb_ HB)⟩)
            ·skip
             refine box_step ?hg (N := 2) ?hd (cs := #[.int .i64 0, .bool false, .bool false, .bool false, .bool false, .bool false, .int .i64 0, .int .i64 0, .string (⟨#[]⟩ : ByteArray), .string (⟨#[]⟩ : ByteArray), .int .u32 0, .int .u32 0]) (t := 27) ?hr ?_; (case hd => rfl); (case hg => rfl); (case hr => first | (go_simp; done) | (go_simp; rfl))
             intro gb233 hg w25 hbox hb
             have n0_ := Aside0.mk (blk_below (bk_ BK205) hb)
             have n1_ := Aside0.mk (below_step (hb_ HB) hb)
             have n2_ := Aside0.mk (hbox)
             have n3_ := Aside0.mk ((by rw [hg]; exact (below_size (hb_ HB)) : w.heap.size ≤ gb233))
             have n4_ := Aside0.mk ((by rw [hg]; exact (below_size (hb_ HB)) : w.heap.size ≤ gb233))
             have n5_ := Aside0.mk ((by rw [hg]; exact Nat.ne_of_lt (blk_lt (g := gb205) (o := .cells #[.string t203, .string t204] 35 (0, 0)) (bk_ BK205)) : gb205 ≠ gb233))
             have n6_ := Aside0.mk ((by rw [hg]; exact Nat.ne_of_gt (blk_lt (g := gb205) (o := .cells #[.string t203, .string t204] 35 (0, 0)) (bk_ BK205)) : gb233 ≠ gb205))
             clear BK205
             clear HB
             have BK205 := n0_
             have HB := n1_
             have BK233 := n2_
             have GW233 := n3_
             have GE233 := n4_
             have NB205_233 := n5_
             have NB233_205 := n6_
             clear n0_ n1_ n2_ n3_ n4_ n5_ n6_
             clear hb hbox hg
             refine hK.out _ _ ⟨(blk_cell BK205.out 0).trans rfl, (blk_cell BK205.out 1).trans rfl⟩ (fun hHeld => ?_)
             clear hK K
             refine norm_ (a' := ?_) ?_ ?_
             rotate_left
             ·show Act.put _ (some 2) _ = _
              simp only [Act.put, la_, lb_, lc_, i64_w, i32_w]
              rfl
             exact norm_ (by first | (simp only [putAll, Act.put, la_, lb_, lc_]; done) | (simp only [putAll, Act.put, la_, lb_, lc_]; rfl)) (hJ7 (gb233) _ ⟨hHeld, (bk_ BK205), (bk_ BK233), GW233.out, GE233.out, NB205_233.out, NB233_205.out, (hb_ HB)⟩)
            ·skip
             refine box_step ?hg (N := 3) ?hd (cs := #[.string (⟨#[]⟩ : ByteArray), .string (⟨#[]⟩ : ByteArray)]) (t := 35) ?hr ?_; (case hd => rfl); (case hg => rfl); (case hr => first | (go_simp; done) | (go_simp; rfl))
             intro gb234 hg w25 hbox hb
             have n0_ := Aside0.mk (blk_below (bk_ BK205) hb)
             have n1_ := Aside0.mk (below_step (hb_ HB) hb)
             have n2_ := Aside0.mk (hbox)
             have n3_ := Aside0.mk ((by rw [hg]; exact (below_size (hb_ HB)) : w.heap.size ≤ gb234))
             have n4_ := Aside0.mk ((by rw [hg]; exact (below_size (hb_ HB)) : w.heap.size ≤ gb234))
             have n5_ := Aside0.mk ((by rw [hg]; exact Nat.ne_of_lt (blk_lt (g := gb205) (o := .cells #[.string t203, .string t204] 35 (0, 0)) (bk_ BK205)) : gb205 ≠ gb234))
             have n6_ := Aside0.mk ((by rw [hg]; exact Nat.ne_of_gt (blk_lt (g := gb205) (o := .cells #[.string t203, .string t204] 35 (0, 0)) (bk_ BK205)) : gb234 ≠ gb205))
             clear BK205
             clear HB
             have BK205 := n0_
             have HB := n1_
             have BK234 := n2_
             have GW234 := n3_
             have GE234 := n4_
             have NB205_234 := n5_
             have NB234_205 := n6_
             clear n0_ n1_ n2_ n3_ n4_ n5_ n6_
             clear hb hbox hg
             refine hK.out _ _ ⟨(blk_cell BK205.out 0).trans rfl, (blk_cell BK205.out 1).trans rfl⟩ (fun hHeld => ?_)
             clear hK K
             refine norm_ (a' := ?_) ?_ ?_
             rotate_left
             ·show Act.put _ (some 3) _ = _
              simp only [Act.put, la_, lb_, lc_, i64_w, i32_w]
              rfl
             exact norm_ (by first | (simp only [putAll, Act.put, la_, lb_, lc_]; done) | (simp only [putAll, Act.put, la_, lb_, lc_]; rfl)) (hJ8 (gb234) _ ⟨hHeld, (bk_ BK205), (bk_ BK234), GW234.out, GE234.out, NB205_234.out, NB234_205.out, (hb_ HB)⟩)
           ·skip
            rintro gb234 w26 ⟨hS_, h0_, h1_, h2_, h3_, h4_, h5_, h6_⟩
            have n0_ : Aside0 (w26.heap[gb205]? = some (.cells #[.string t203, .string t204] 35 (0, 0))) := ⟨h0_⟩
            have n1_ : Aside0 (w26.heap[gb234]? = some (.cells #[.string (⟨#[]⟩ : ByteArray), .string (⟨#[]⟩ : ByteArray)] 35 (0, 0))) := ⟨h1_⟩
            have n2_ : Aside0 (w.heap.size ≤ gb234) := ⟨h2_⟩
            have n3_ : Aside0 (w.heap.size ≤ gb234) := ⟨h3_⟩
            have n4_ : Aside0 (gb205 ≠ gb234) := ⟨h4_⟩
            have n5_ : Aside0 (gb234 ≠ gb205) := ⟨h5_⟩
            have n6_ : Aside0 (Below w.heap.size w w26) := ⟨h6_⟩
            clear BK205
            clear HB
            clear h0_ h1_ h2_ h3_ h4_ h5_ h6_
            have BK205 := n0_
            have BK234 := n1_
            have GW234 := n2_
            have GE234 := n3_
            have NB205_234 := n4_
            have NB234_205 := n5_
            have HB := n6_
            clear n0_ n1_ n2_ n3_ n4_ n5_ n6_
            have hHeld : w26.cell? ⟨gb205, 0, none⟩ = some (.string t203) ∧ w26.cell? ⟨gb205, 1, none⟩ = some (.string t204) := hS_
            refine norm_ (a' := ?_) ?_ ?_
            rotate_left
            ·simp only [putAll, Act.put, la_, lb_, lc_]
             rfl
            refine two_ (i := 0) (j := 7) (Ni := some 9) (Nj := some 2) d8x6 d8x4 rfl rfl rfl rfl (two_of HT_.out (by kernel_rfl)) (by decide) (by decide) (fun K hK => ?_) (fun K hK => ?_)
            ·skip
             refine goes_ Tryz.func5 (by kernel_rfl) rfl #[] (by rfl) rfl rfl (by (try simp only [List.map_toArray, List.map_cons, List.map_nil]); first | done | rfl | (simp only [List.length_drop, List.length_take]; rfl)) ?_
             with_reducible refine (login_First.calls  t206 t207 t208 t209 t210 t211 t212 t213 t214 t215 t216 t217 _ A3.out).mono ?_
             rintro e w27 ⟨rfl, hb⟩
             refine ⟨_, rfl, ?_⟩
             have n0_ := Aside0.mk (blk_below (bk_ BK205) hb)
             have n1_ := Aside0.mk (blk_below (bk_ BK234) hb)
             have n2_ := Aside0.mk (below_step (hb_ HB) hb)
             clear BK205
             clear BK234
             clear HB
             have BK205 := n0_
             have BK234 := n1_
             have HB := n2_
             clear n0_ n1_ n2_
             (try clear hb)
             (try clear hb2)
             (try clear hk)
             (try clear hi)
             refine hK.out _ _ ⟨(blk_cell BK205.out 0).trans rfl, (blk_cell BK205.out 1).trans rfl⟩ (fun hHeld => ?_)
             clear hK K
             refine norm_ (a' := ?_) ?_ ?_
             rotate_left
             ·show Act.put _ (some 9) _ = _
              simp only [Act.put, la_, lb_, lc_, i64_w, i32_w]
              rfl
             exact norm_ (by first | (simp only [putAll, Act.put, la_, lb_, lc_]; done) | (simp only [putAll, Act.put, la_, lb_, lc_]; rfl)) (hJ0_8 (gb234) _ ⟨hHeld, (bk_ BK205), (bk_ BK234), GW234.out, GE234.out, NB205_234.out, NB234_205.out, (hb_ HB)⟩)
            ·skip
             refine box_step ?hg (N := 2) ?hd (cs := #[.int .i64 0, .bool false, .bool false, .bool false, .bool false, .bool false, .int .i64 0, .int .i64 0, .string (⟨#[]⟩ : ByteArray), .string (⟨#[]⟩ : ByteArray), .int .u32 0, .int .u32 0]) (t := 27) ?hr ?_; (case hd => rfl); (case hg => rfl); (case hr => first | (go_simp; done) | (go_simp; rfl))
             intro gb233 hg w27 hbox hb
             have n0_ := Aside0.mk (blk_below (bk_ BK205) hb)
             have n1_ := Aside0.mk (blk_below (bk_ BK234) hb)
             have n2_ := Aside0.mk (below_step (hb_ HB) hb)
             have n3_ := Aside0.mk (hbox)
             have n4_ := Aside0.mk ((by rw [hg]; exact (below_size (hb_ HB)) : w.heap.size ≤ gb233))
             have n5_ := Aside0.mk ((by rw [hg]; exact (below_size (hb_ HB)) : w.heap.size ≤ gb233))
             have n6_ := Aside0.mk ((by rw [hg]; exact Nat.ne_of_lt (blk_lt (g := gb205) (o := .cells #[.string t203, .string t204] 35 (0, 0)) (bk_ BK205)) : gb205 ≠ gb233))
             have n7_ := Aside0.mk ((by rw [hg]; exact Nat.ne_of_gt (blk_lt (g := gb205) (o := .cells #[.string t203, .string t204] 35 (0, 0)) (bk_ BK205)) : gb233 ≠ gb205))
             have n8_ := Aside0.mk ((by rw [hg]; exact Nat.ne_of_lt (blk_lt (g := gb234) (o := .cells #[.string (⟨#[]⟩ : ByteArray), .string (⟨#[]⟩ : ByteArray)] 35 (0, 0)) (bk_ BK234)) : gb234 ≠ gb233))
             have n9_ := Aside0.mk ((by rw [hg]; exact Nat.ne_of_gt (blk_lt (g := gb234) (o := .cells #[.string (⟨#[]⟩ : ByteArray), .string (⟨#[]⟩ : ByteArray)] 35 (0, 0)) (bk_ BK234)) : gb233 ≠ gb234))
             clear BK205
             clear BK234
             clear HB
             have BK205 := n0_
             have BK234 := n1_
             have HB := n2_
             have BK233 := n3_
             have GW233 := n4_
             have GE233 := n5_
             have NB205_233 := n6_
             have NB233_205 := n7_
             have NB234_233 := n8_
             have NB233_234 := n9_
             clear n0_ n1_ n2_ n3_ n4_ n5_ n6_ n7_ n8_ n9_
             clear hb hbox hg
             refine hK.out _ _ ⟨(blk_cell BK205.out 0).trans rfl, (blk_cell BK205.out 1).trans rfl⟩ (fun hHeld => ?_)
             clear hK K
             refine norm_ (a' := ?_) ?_ ?_
             rotate_left
             ·show Act.put _ (some 2) _ = _
              simp only [Act.put, la_, lb_, lc_, i64_w, i32_w]
              rfl
             exact norm_ (by first | (simp only [putAll, Act.put, la_, lb_, lc_]; done) | (simp only [putAll, Act.put, la_, lb_, lc_]; rfl)) (hJ7_8 (gb233, gb234) _ ⟨hHeld, (bk_ BK205), (bk_ BK233), (bk_ BK234), GW233.out, GE233.out, NB205_233.out, NB233_205.out, NB234_233.out, NB233_234.out, GW234.out, GE234.out, NB205_234.out, NB234_205.out, (hb_ HB)⟩)
          ·skip
           rintro gb233 w26 ⟨hS_, h0_, h1_, h2_, h3_, h4_, h5_, h6_⟩
           have n0_ : Aside0 (w26.heap[gb205]? = some (.cells #[.string t203, .string t204] 35 (0, 0))) := ⟨h0_⟩
           have n1_ : Aside0 (w26.heap[gb233]? = some (.cells #[.int .i64 0, .bool false, .bool false, .bool false, .bool false, .bool false, .int .i64 0, .int .i64 0, .string (⟨#[]⟩ : ByteArray), .string (⟨#[]⟩ : ByteArray), .int .u32 0, .int .u32 0] 27 (0, 0))) := ⟨h1_⟩
           have n2_ : Aside0 (w.heap.size ≤ gb233) := ⟨h2_⟩
           have n3_ : Aside0 (w.heap.size ≤ gb233) := ⟨h3_⟩
           have n4_ : Aside0 (gb205 ≠ gb233) := ⟨h4_⟩
           have n5_ : Aside0 (gb233 ≠ gb205) := ⟨h5_⟩
           have n6_ : Aside0 (Below w.heap.size w w26) := ⟨h6_⟩
           clear BK205
           clear HB
           clear h0_ h1_ h2_ h3_ h4_ h5_ h6_
           have BK205 := n0_
           have BK233 := n1_
           have GW233 := n2_
           have GE233 := n3_
           have NB205_233 := n4_
           have NB233_205 := n5_
           have HB := n6_
           clear n0_ n1_ n2_ n3_ n4_ n5_ n6_
           have hHeld : w26.cell? ⟨gb205, 0, none⟩ = some (.string t203) ∧ w26.cell? ⟨gb205, 1, none⟩ = some (.string t204) := hS_
           refine norm_ (a' := ?_) ?_ ?_
           rotate_left
           ·simp only [putAll, Act.put, la_, lb_, lc_]
            rfl
           refine two_ (i := 0) (j := 8) (Ni := some 9) (Nj := some 3) d8x7 d8x4 rfl rfl rfl rfl (two_of HT_.out (by kernel_rfl)) (by decide) (by decide) (fun K hK => ?_) (fun K hK => ?_)
           ·skip
            refine goes_ Tryz.func5 (by kernel_rfl) rfl #[] (by rfl) rfl rfl (by (try simp only [List.map_toArray, List.map_cons, List.map_nil]); first | done | rfl | (simp only [List.length_drop, List.length_take]; rfl)) ?_
            with_reducible refine (login_First.calls  t206 t207 t208 t209 t210 t211 t212 t213 t214 t215 t216 t217 _ A3.out).mono ?_
            rintro e w27 ⟨rfl, hb⟩
            refine ⟨_, rfl, ?_⟩
            have n0_ := Aside0.mk (blk_below (bk_ BK205) hb)
            have n1_ := Aside0.mk (blk_below (bk_ BK233) hb)
            have n2_ := Aside0.mk (below_step (hb_ HB) hb)
            clear BK205
            clear BK233
            clear HB
            have BK205 := n0_
            have BK233 := n1_
            have HB := n2_
            clear n0_ n1_ n2_
            (try clear hb)
            (try clear hb2)
            (try clear hk)
            (try clear hi)
            refine hK.out _ _ ⟨(blk_cell BK205.out 0).trans rfl, (blk_cell BK205.out 1).trans rfl⟩ (fun hHeld => ?_)
            clear hK K
            refine norm_ (a' := ?_) ?_ ?_
            rotate_left
            ·show Act.put _ (some 9) _ = _
             simp only [Act.put, la_, lb_, lc_, i64_w, i32_w]
             rfl
            exact norm_ (by first | (simp only [putAll, Act.put, la_, lb_, lc_]; done) | (simp only [putAll, Act.put, la_, lb_, lc_]; rfl)) (hJ0_7 (gb233) _ ⟨hHeld, (bk_ BK205), (bk_ BK233), GW233.out, GE233.out, NB205_233.out, NB233_205.out, (hb_ HB)⟩)
           ·skip
            refine box_step ?hg (N := 3) ?hd (cs := #[.string (⟨#[]⟩ : ByteArray), .string (⟨#[]⟩ : ByteArray)]) (t := 35) ?hr ?_; (case hd => rfl); (case hg => rfl); (case hr => first | (go_simp; done) | (go_simp; rfl))
            intro gb234 hg w27 hbox hb
            have n0_ := Aside0.mk (blk_below (bk_ BK205) hb)
            have n1_ := Aside0.mk (blk_below (bk_ BK233) hb)
            have n2_ := Aside0.mk (below_step (hb_ HB) hb)
            have n3_ := Aside0.mk (hbox)
            have n4_ := Aside0.mk ((by rw [hg]; exact (below_size (hb_ HB)) : w.heap.size ≤ gb234))
            have n5_ := Aside0.mk ((by rw [hg]; exact (below_size (hb_ HB)) : w.heap.size ≤ gb234))
            have n6_ := Aside0.mk ((by rw [hg]; exact Nat.ne_of_lt (blk_lt (g := gb205) (o := .cells #[.string t203, .string t204] 35 (0, 0)) (bk_ BK205)) : gb205 ≠ gb234))
            have n7_ := Aside0.mk ((by rw [hg]; exact Nat.ne_of_gt (blk_lt (g := gb205) (o := .cells #[.string t203, .string t204] 35 (0, 0)) (bk_ BK205)) : gb234 ≠ gb205))
            have n8_ := Aside0.mk ((by rw [hg]; exact Nat.ne_of_lt (blk_lt (g := gb233) (o := .cells #[.int .i64 0, .bool false, .bool false, .bool false, .bool false, .bool false, .int .i64 0, .int .i64 0, .string (⟨#[]⟩ : ByteArray), .string (⟨#[]⟩ : ByteArray), .int .u32 0, .int .u32 0] 27 (0, 0)) (bk_ BK233)) : gb233 ≠ gb234))
            have n9_ := Aside0.mk ((by rw [hg]; exact Nat.ne_of_gt (blk_lt (g := gb233) (o := .cells #[.int .i64 0, .bool false, .bool false, .bool false, .bool false, .bool false, .int .i64 0, .int .i64 0, .string (⟨#[]⟩ : ByteArray), .string (⟨#[]⟩ : ByteArray), .int .u32 0, .int .u32 0] 27 (0, 0)) (bk_ BK233)) : gb234 ≠ gb233))
            clear BK205
            clear BK233
            clear HB
            have BK205 := n0_
            have BK233 := n1_
            have HB := n2_
            have BK234 := n3_
            have GW234 := n4_
            have GE234 := n5_
            have NB205_234 := n6_
            have NB234_205 := n7_
            have NB233_234 := n8_
            have NB234_233 := n9_
            clear n0_ n1_ n2_ n3_ n4_ n5_ n6_ n7_ n8_ n9_
            clear hb hbox hg
            refine hK.out _ _ ⟨(blk_cell BK205.out 0).trans rfl, (blk_cell BK205.out 1).trans rfl⟩ (fun hHeld => ?_)
            clear hK K
            refine norm_ (a' := ?_) ?_ ?_
            rotate_left
            ·show Act.put _ (some 3) _ = _
             simp only [Act.put, la_, lb_, lc_, i64_w, i32_w]
             rfl
            exact norm_ (by first | (simp only [putAll, Act.put, la_, lb_, lc_]; done) | (simp only [putAll, Act.put, la_, lb_, lc_]; rfl)) (hJ7_8 (gb233, gb234) _ ⟨hHeld, (bk_ BK205), (bk_ BK233), (bk_ BK234), GW233.out, GE233.out, NB205_233.out, NB233_205.out, NB234_233.out, NB233_234.out, GW234.out, GE234.out, NB205_234.out, NB234_205.out, (hb_ HB)⟩)
         ·skip
          rintro _ w26 ⟨hS_, h0_, h1_⟩
          have n0_ : Aside0 (w26.heap[gb205]? = some (.cells #[.string t203, .string t204] 35 (0, 0))) := ⟨h0_⟩
          have n1_ : Aside0 (Below w.heap.size w w26) := ⟨h1_⟩
          clear BK205
          clear HB
          clear h0_ h1_
          have BK205 := n0_
          have HB := n1_
          clear n0_ n1_
          have hHeld : w26.cell? ⟨gb205, 0, none⟩ = some (.string t203) ∧ w26.cell? ⟨gb205, 1, none⟩ = some (.string t204) := hS_
          refine norm_ (a' := ?_) ?_ ?_
          rotate_left
          ·simp only [putAll, Act.put, la_, lb_, lc_]
           rfl
          refine three_ (i := 2) (j := 7) (k := 8) (Ni := some 11) (Nj := some 2) (Nk := some 3) d8x9 d8x7 d8x6 rfl rfl rfl rfl rfl rfl (three_of HT_.out (by kernel_rfl)) (by decide) (by decide) (by decide) (fun K hK => ?_) (fun K hK => ?_) (fun K hK => ?_)
          ·skip
           refine goes_ Tryz.func9 (by kernel_rfl) rfl #[.agg #[.int .i64 t206, .bool t207, .bool t208, .bool t209, .bool t210, .bool t211, .int .i64 t212, .int .i64 t213, .string t214, .string t215, .int .u32 t216, .int .u32 t217], .string (⟨#[105, 113, 110, 46, 50, 48, 50, 48, 45, 48, 49, 46, 116]⟩ : ByteArray), .agg #[.string t203, .string t204]] (by rfl) rfl rfl (by (try simp only [List.map_toArray, List.map_cons, List.map_nil]); first | done | rfl | (simp only [List.length_drop, List.length_take]; rfl)) ?_
           with_reducible refine (login_Step.calls k t206 t207 t208 t209 t210 t211 t212 t213 t214 t215 t216 t217 (⟨#[105, 113, 110, 46, 50, 48, 50, 48, 45, 48, 49, 46, 116]⟩ : ByteArray) t203 t204 t218 t219 t220 t221 t222 t223 t224 t225 t226 t227 t228 t229 t230 t231 true _ ?side1 A4.out).mono ?_
           (case side1 => first | ((refine Glob.keep HG.out ?_); (repeat (first | (with_reducible first | exact HB.out | apply below_alloc | apply pw_below_drewN | apply below_drew1 | refine below_set ?_ GE205.out) | exact HB.out)); done) | exact HG.out)
           rintro e w27 ⟨rfl, hb⟩
           refine ⟨_, rfl, ?_⟩
           have n0_ := Aside0.mk (blk_below (bk_ BK205) hb)
           have n1_ := Aside0.mk (below_step (hb_ HB) hb)
           clear BK205
           clear HB
           have BK205 := n0_
           have HB := n1_
           clear n0_ n1_
           (try clear hb)
           (try clear hb2)
           (try clear hk)
           (try clear hi)
           refine hK.out _ _ ⟨(blk_cell BK205.out 0).trans rfl, (blk_cell BK205.out 1).trans rfl⟩ (fun hHeld => ?_)
           clear hK K
           refine norm_ (a' := ?_) ?_ ?_
           rotate_left
           ·show Act.put _ (some 11) _ = _
            simp only [Act.put, la_, lb_, lc_, i64_w, i32_w]
            rfl
           refine pon_ 3 (some 8) d8x13 HT_.out ?_
           refine pon_ 4 (some 12) d8x17 HT_.out ?_
           refine pon_ 5 (some 13) d8x21 HT_.out ?_
           refine pon_ 6 (some 14) d8x25 HT_.out ?_
           exact norm_ (by first | (simp only [putAll, Act.put, la_, lb_, lc_]; done) | (simp only [putAll, Act.put, la_, lb_, lc_]; rfl)) (hJ0_2 () _ ⟨hHeld, (bk_ BK205), (hb_ HB)⟩)
          ·skip
           refine box_step ?hg (N := 2) ?hd (cs := #[.int .i64 0, .bool false, .bool false, .bool false, .bool false, .bool false, .int .i64 0, .int .i64 0, .string (⟨#[]⟩ : ByteArray), .string (⟨#[]⟩ : ByteArray), .int .u32 0, .int .u32 0]) (t := 27) ?hr ?_; (case hd => rfl); (case hg => rfl); (case hr => first | (go_simp; done) | (go_simp; rfl))
           intro gb233 hg w27 hbox hb
           have n0_ := Aside0.mk (blk_below (bk_ BK205) hb)
           have n1_ := Aside0.mk (below_step (hb_ HB) hb)
           have n2_ := Aside0.mk (hbox)
           have n3_ := Aside0.mk ((by rw [hg]; exact (below_size (hb_ HB)) : w.heap.size ≤ gb233))
           have n4_ := Aside0.mk ((by rw [hg]; exact (below_size (hb_ HB)) : w.heap.size ≤ gb233))
           have n5_ := Aside0.mk ((by rw [hg]; exact Nat.ne_of_lt (blk_lt (g := gb205) (o := .cells #[.string t203, .string t204] 35 (0, 0)) (bk_ BK205)) : gb205 ≠ gb233))
           have n6_ := Aside0.mk ((by rw [hg]; exact Nat.ne_of_gt (blk_lt (g := gb205) (o := .cells #[.string t203, .string t204] 35 (0, 0)) (bk_ BK205)) : gb233 ≠ gb205))
           clear BK205
           clear HB
           have BK205 := n0_
           have HB := n1_
           have BK233 := n2_
           have GW233 := n3_
           have GE233 := n4_
           have NB205_233 := n5_
           have NB233_205 := n6_
           clear n0_ n1_ n2_ n3_ n4_ n5_ n6_
           clear hb hbox hg
           refine hK.out _ _ ⟨(blk_cell BK205.out 0).trans rfl, (blk_cell BK205.out 1).trans rfl⟩ (fun hHeld => ?_)
           clear hK K
           refine norm_ (a' := ?_) ?_ ?_
           rotate_left
           ·show Act.put _ (some 2) _ = _
            simp only [Act.put, la_, lb_, lc_, i64_w, i32_w]
            rfl
           exact norm_ (by first | (simp only [putAll, Act.put, la_, lb_, lc_]; done) | (simp only [putAll, Act.put, la_, lb_, lc_]; rfl)) (hJ0_7 (gb233) _ ⟨hHeld, (bk_ BK205), (bk_ BK233), GW233.out, GE233.out, NB205_233.out, NB233_205.out, (hb_ HB)⟩)
          ·skip
           refine box_step ?hg (N := 3) ?hd (cs := #[.string (⟨#[]⟩ : ByteArray), .string (⟨#[]⟩ : ByteArray)]) (t := 35) ?hr ?_; (case hd => rfl); (case hg => rfl); (case hr => first | (go_simp; done) | (go_simp; rfl))
           intro gb234 hg w27 hbox hb
           have n0_ := Aside0.mk (blk_below (bk_ BK205) hb)
           have n1_ := Aside0.mk (below_step (hb_ HB) hb)
           have n2_ := Aside0.mk (hbox)
           have n3_ := Aside0.mk ((by rw [hg]; exact (below_size (hb_ HB)) : w.heap.size ≤ gb234))
           have n4_ := Aside0.mk ((by rw [hg]; exact (below_size (hb_ HB)) : w.heap.size ≤ gb234))
           have n5_ := Aside0.mk ((by rw [hg]; exact Nat.ne_of_lt (blk_lt (g := gb205) (o := .cells #[.string t203, .string t204] 35 (0, 0)) (bk_ BK205)) : gb205 ≠ gb234))
           have n6_ := Aside0.mk ((by rw [hg]; exact Nat.ne_of_gt (blk_lt (g := gb205) (o := .cells #[.string t203, .string t204] 35 (0, 0)) (bk_ BK205)) : gb234 ≠ gb205))
           clear BK205
           clear HB
           have BK205 := n0_
           have HB := n1_
           have BK234 := n2_
           have GW234 := n3_
           have GE234 := n4_
           have NB205_234 := n5_
           have NB234_205 := n6_
           clear n0_ n1_ n2_ n3_ n4_ n5_ n6_
           clear hb hbox hg
           refine hK.out _ _ ⟨(blk_cell BK205.out 0).trans rfl, (blk_cell BK205.out 1).trans rfl⟩ (fun hHeld => ?_)
           clear hK K
           refine norm_ (a' := ?_) ?_ ?_
           rotate_left
           ·show Act.put _ (some 3) _ = _
            simp only [Act.put, la_, lb_, lc_, i64_w, i32_w]
            rfl
           exact norm_ (by first | (simp only [putAll, Act.put, la_, lb_, lc_]; done) | (simp only [putAll, Act.put, la_, lb_, lc_]; rfl)) (hJ0_8 (gb234) _ ⟨hHeld, (bk_ BK205), (bk_ BK234), GW234.out, GE234.out, NB205_234.out, NB234_205.out, (hb_ HB)⟩)
        ·skip
         rintro ⟨gb233, gb234⟩ w27 ⟨hS_, h0_, h1_, h2_, h3_, h4_, h5_, h6_, h7_, h8_, h9_, h10_, h11_, h12_, h13_⟩
         have n0_ : Aside0 (w27.heap[gb205]? = some (.cells #[.string t203, .string t204] 35 (0, 0))) := ⟨h0_⟩
         have n1_ : Aside0 (w27.heap[gb233]? = some (.cells #[.int .i64 0, .bool false, .bool false, .bool false, .bool false, .bool false, .int .i64 0, .int .i64 0, .string (⟨#[]⟩ : ByteArray), .string (⟨#[]⟩ : ByteArray), .int .u32 0, .int .u32 0] 27 (0, 0))) := ⟨h1_⟩
         have n2_ : Aside0 (w27.heap[gb234]? = some (.cells #[.string (⟨#[]⟩ : ByteArray), .string (⟨#[]⟩ : ByteArray)] 35 (0, 0))) := ⟨h2_⟩
         have n3_ : Aside0 (w.heap.size ≤ gb233) := ⟨h3_⟩
         have n4_ : Aside0 (w.heap.size ≤ gb233) := ⟨h4_⟩
         have n5_ : Aside0 (gb205 ≠ gb233) := ⟨h5_⟩
         have n6_ : Aside0 (gb233 ≠ gb205) := ⟨h6_⟩
         have n7_ : Aside0 (gb234 ≠ gb233) := ⟨h7_⟩
         have n8_ : Aside0 (gb233 ≠ gb234) := ⟨h8_⟩
         have n9_ : Aside0 (w.heap.size ≤ gb234) := ⟨h9_⟩
         have n10_ : Aside0 (w.heap.size ≤ gb234) := ⟨h10_⟩
         have n11_ : Aside0 (gb205 ≠ gb234) := ⟨h11_⟩
         have n12_ : Aside0 (gb234 ≠ gb205) := ⟨h12_⟩
         have n13_ : Aside0 (Below w.heap.size w w27) := ⟨h13_⟩
         clear BK205
         clear HB
         clear h0_ h1_ h2_ h3_ h4_ h5_ h6_ h7_ h8_ h9_ h10_ h11_ h12_ h13_
         have BK205 := n0_
         have BK233 := n1_
         have BK234 := n2_
         have GW233 := n3_
         have GE233 := n4_
         have NB205_233 := n5_
         have NB233_205 := n6_
         have NB234_233 := n7_
         have NB233_234 := n8_
         have GW234 := n9_
         have GE234 := n10_
         have NB205_234 := n11_
         have NB234_205 := n12_
         have HB := n13_
         clear n0_ n1_ n2_ n3_ n4_ n5_ n6_ n7_ n8_ n9_ n10_ n11_ n12_ n13_
         have hHeld : w27.cell? ⟨gb205, 0, none⟩ = some (.string t203) ∧ w27.cell? ⟨gb205, 1, none⟩ = some (.string t204) := hS_
         refine norm_ (a' := ?_) ?_ ?_
         rotate_left
         ·simp only [putAll, Act.put, la_, lb_, lc_]
          rfl
         refine one_ (i := 0) (N := some 9) d8x8 rfl rfl (one_of HT_.out (by kernel_rfl)) (by decide) (fun K hK => ?_)
         refine goes_ Tryz.func5 (by kernel_rfl) rfl #[] (by rfl) rfl rfl (by (try simp only [List.map_toArray, List.map_cons, List.map_nil]); first | done | rfl | (simp only [List.length_drop, List.length_take]; rfl)) ?_
         with_reducible refine (login_First.calls  t206 t207 t208 t209 t210 t211 t212 t213 t214 t215 t216 t217 _ A3.out).mono ?_
         rintro e w28 ⟨rfl, hb⟩
         refine ⟨_, rfl, ?_⟩
         have n0_ := Aside0.mk (blk_below (bk_ BK205) hb)
         have n1_ := Aside0.mk (blk_below (bk_ BK233) hb)
         have n2_ := Aside0.mk (blk_below (bk_ BK234) hb)
         have n3_ := Aside0.mk (below_step (hb_ HB) hb)
         clear BK205
         clear BK233
         clear BK234
         clear HB
         have BK205 := n0_
         have BK233 := n1_
         have BK234 := n2_
         have HB := n3_
         clear n0_ n1_ n2_ n3_
         (try clear hb)
         (try clear hb2)
         (try clear hk)
         (try clear hi)
         refine hK.out _ _ ⟨(blk_cell BK205.out 0).trans rfl, (blk_cell BK205.out 1).trans rfl⟩ (fun hHeld => ?_)
         clear hK K
         refine norm_ (a' := ?_) ?_ ?_
         rotate_left
         ·show Act.put _ (some 9) _ = _
          simp only [Act.put, la_, lb_, lc_, i64_w, i32_w]
          rfl
         exact norm_ (by first | (simp only [putAll, Act.put, la_, lb_, lc_]; done) | (simp only [putAll, Act.put, la_, lb_, lc_]; rfl)) (hJ0_7_8 (gb233, gb234) _ ⟨hHeld, (bk_ BK205), (bk_ BK233), (bk_ BK234), GW233.out, GE233.out, NB205_233.out, NB233_205.out, NB234_233.out, NB233_234.out, GW234.out, GE234.out, NB205_234.out, NB234_205.out, (hb_ HB)⟩)
       ·skip
        rintro gb234 w27 ⟨hS_, h0_, h1_, h2_, h3_, h4_, h5_, h6_⟩
        have n0_ : Aside0 (w27.heap[gb205]? = some (.cells #[.string t203, .string t204] 35 (0, 0))) := ⟨h0_⟩
        have n1_ : Aside0 (w27.heap[gb234]? = some (.cells #[.string (⟨#[]⟩ : ByteArray), .string (⟨#[]⟩ : ByteArray)] 35 (0, 0))) := ⟨h1_⟩
        have n2_ : Aside0 (w.heap.size ≤ gb234) := ⟨h2_⟩
        have n3_ : Aside0 (w.heap.size ≤ gb234) := ⟨h3_⟩
        have n4_ : Aside0 (gb205 ≠ gb234) := ⟨h4_⟩
        have n5_ : Aside0 (gb234 ≠ gb205) := ⟨h5_⟩
        have n6_ : Aside0 (Below w.heap.size w w27) := ⟨h6_⟩
        clear BK205
        clear HB
        clear h0_ h1_ h2_ h3_ h4_ h5_ h6_
        have BK205 := n0_
        have BK234 := n1_
        have GW234 := n2_
        have GE234 := n3_
        have NB205_234 := n4_
        have NB234_205 := n5_
        have HB := n6_
        clear n0_ n1_ n2_ n3_ n4_ n5_ n6_
        have hHeld : w27.cell? ⟨gb205, 0, none⟩ = some (.string t203) ∧ w27.cell? ⟨gb205, 1, none⟩ = some (.string t204) := hS_
        refine norm_ (a' := ?_) ?_ ?_
        rotate_left
        ·simp only [putAll, Act.put, la_, lb_, lc_]
         rfl
        refine two_ (i := 2) (j := 7) (Ni := some 11) (Nj := some 2) d8x10 d8x8 rfl rfl rfl rfl (two_of HT_.out (by kernel_rfl)) (by decide) (by decide) (fun K hK => ?_) (fun K hK => ?_)
        ·skip
         refine goes_ Tryz.func9 (by kernel_rfl) rfl #[.agg #[.int .i64 t206, .bool t207, .bool t208, .bool t209, .bool t210, .bool t211, .int .i64 t212, .int .i64 t213, .string t214, .string t215, .int .u32 t216, .int .u32 t217], .string (⟨#[105, 113, 110, 46, 50, 48, 50, 48, 45, 48, 49, 46, 116]⟩ : ByteArray), .agg #[.string t203, .string t204]] (by rfl) rfl rfl (by (try simp only [List.map_toArray, List.map_cons, List.map_nil]); first | done | rfl | (simp only [List.length_drop, List.length_take]; rfl)) ?_
         with_reducible refine (login_Step.calls k t206 t207 t208 t209 t210 t211 t212 t213 t214 t215 t216 t217 (⟨#[105, 113, 110, 46, 50, 48, 50, 48, 45, 48, 49, 46, 116]⟩ : ByteArray) t203 t204 t218 t219 t220 t221 t222 t223 t224 t225 t226 t227 t228 t229 t230 t231 true _ ?side1 A4.out).mono ?_
         (case side1 => first | ((refine Glob.keep HG.out ?_); (repeat (first | (with_reducible first | exact HB.out | apply below_alloc | apply pw_below_drewN | apply below_drew1 | refine below_set ?_ GE205.out | refine below_set ?_ GE234.out) | exact HB.out)); done) | exact HG.out)
         rintro e w28 ⟨rfl, hb⟩
         refine ⟨_, rfl, ?_⟩
         have n0_ := Aside0.mk (blk_below (bk_ BK205) hb)
         have n1_ := Aside0.mk (blk_below (bk_ BK234) hb)
         have n2_ := Aside0.mk (below_step (hb_ HB) hb)
         clear BK205
         clear BK234
         clear HB
         have BK205 := n0_
         have BK234 := n1_
         have HB := n2_
         clear n0_ n1_ n2_
         (try clear hb)
         (try clear hb2)
         (try clear hk)
         (try clear hi)
         refine hK.out _ _ ⟨(blk_cell BK205.out 0).trans rfl, (blk_cell BK205.out 1).trans rfl⟩ (fun hHeld => ?_)
         clear hK K
         refine norm_ (a' := ?_) ?_ ?_
         rotate_left
         ·show Act.put _ (some 11) _ = _
          simp only [Act.put, la_, lb_, lc_, i64_w, i32_w]
          rfl
         refine pon_ 3 (some 8) d8x14 HT_.out ?_
         refine pon_ 4 (some 12) d8x18 HT_.out ?_
         refine pon_ 5 (some 13) d8x22 HT_.out ?_
         refine pon_ 6 (some 14) d8x26 HT_.out ?_
         exact norm_ (by first | (simp only [putAll, Act.put, la_, lb_, lc_]; done) | (simp only [putAll, Act.put, la_, lb_, lc_]; rfl)) (hJ0_2_8 (gb234) _ ⟨hHeld, (bk_ BK205), (bk_ BK234), GW234.out, GE234.out, NB205_234.out, NB234_205.out, (hb_ HB)⟩)
        ·skip
         refine box_step ?hg (N := 2) ?hd (cs := #[.int .i64 0, .bool false, .bool false, .bool false, .bool false, .bool false, .int .i64 0, .int .i64 0, .string (⟨#[]⟩ : ByteArray), .string (⟨#[]⟩ : ByteArray), .int .u32 0, .int .u32 0]) (t := 27) ?hr ?_; (case hd => rfl); (case hg => rfl); (case hr => first | (go_simp; done) | (go_simp; rfl))
         intro gb233 hg w28 hbox hb
         have n0_ := Aside0.mk (blk_below (bk_ BK205) hb)
         have n1_ := Aside0.mk (blk_below (bk_ BK234) hb)
         have n2_ := Aside0.mk (below_step (hb_ HB) hb)
         have n3_ := Aside0.mk (hbox)
         have n4_ := Aside0.mk ((by rw [hg]; exact (below_size (hb_ HB)) : w.heap.size ≤ gb233))
         have n5_ := Aside0.mk ((by rw [hg]; exact (below_size (hb_ HB)) : w.heap.size ≤ gb233))
         have n6_ := Aside0.mk ((by rw [hg]; exact Nat.ne_of_lt (blk_lt (g := gb205) (o := .cells #[.string t203, .string t204] 35 (0, 0)) (bk_ BK205)) : gb205 ≠ gb233))
         have n7_ := Aside0.mk ((by rw [hg]; exact Nat.ne_of_gt (blk_lt (g := gb205) (o := .cells #[.string t203, .string t204] 35 (0, 0)) (bk_ BK205)) : gb233 ≠ gb205))
         have n8_ := Aside0.mk ((by rw [hg]; exact Nat.ne_of_lt (blk_lt (g := gb234) (o := .cells #[.string (⟨#[]⟩ : ByteArray), .string (⟨#[]⟩ : ByteArray)] 35 (0, 0)) (bk_ BK234)) : gb234 ≠ gb233))
         have n9_ := Aside0.mk ((by rw [hg]; exact Nat.ne_of_gt (blk_lt (g := gb234) (o := .cells #[.string (⟨#[]⟩ : ByteArray), .string (⟨#[]⟩ : ByteArray)] 35 (0, 0)) (bk_ BK234)) : gb233 ≠ gb234))
         clear BK205
         clear BK234
         clear HB
         have BK205 := n0_
         have BK234 := n1_
         have HB := n2_
         have BK233 := n3_
         have GW233 := n4_
         have GE233 := n5_
         have NB205_233 := n6_
         have NB233_205 := n7_
         have NB234_233 := n8_
         have NB233_234 := n9_
         clear n0_ n1_ n2_ n3_ n4_ n5_ n6_ n7_ n8_ n9_
         clear hb hbox hg
         refine hK.out _ _ ⟨(blk_cell BK205.out 0).trans rfl, (blk_cell BK205.out 1).trans rfl⟩ (fun hHeld => ?_)
         clear hK K
         refine norm_ (a' := ?_) ?_ ?_
         rotate_left
         ·show Act.put _ (some 2) _ = _
          simp only [Act.put, la_, lb_, lc_, i64_w, i32_w]
          rfl
         exact norm_ (by first | (simp only [putAll, Act.put, la_, lb_, lc_]; done) | (simp only [putAll, Act.put, la_, lb_, lc_]; rfl)) (hJ0_7_8 (gb233, gb234) _ ⟨hHeld, (bk_ BK205), (bk_ BK233), (bk_ BK234), GW233.out, GE233.out, NB205_233.out, NB233_205.out, NB234_233.out, NB233_234.out, GW234.out, GE234.out, NB205_234.out, NB234_205.out, (hb_ HB)⟩)
      ·skip
       rintro gb233 w27 ⟨hS_, h0_, h1_, h2_, h3_, h4_, h5_, h6_⟩
       have n0_ : Aside0 (w27.heap[gb205]? = some (.cells #[.string t203, .string t204] 35 (0, 0))) := ⟨h0_⟩
       have n1_ : Aside0 (w27.heap[gb233]? = some (.cells #[.int .i64 0, .bool false, .bool false, .bool false, .bool false, .bool false, .int .i64 0, .int .i64 0, .string (⟨#[]⟩ : ByteArray), .string (⟨#[]⟩ : ByteArray), .int .u32 0, .int .u32 0] 27 (0, 0))) := ⟨h1_⟩
       have n2_ : Aside0 (w.heap.size ≤ gb233) := ⟨h2_⟩
       have n3_ : Aside0 (w.heap.size ≤ gb233) := ⟨h3_⟩
       have n4_ : Aside0 (gb205 ≠ gb233) := ⟨h4_⟩
       have n5_ : Aside0 (gb233 ≠ gb205) := ⟨h5_⟩
       have n6_ : Aside0 (Below w.heap.size w w27) := ⟨h6_⟩
       clear BK205
       clear HB
       clear h0_ h1_ h2_ h3_ h4_ h5_ h6_
       have BK205 := n0_
       have BK233 := n1_
       have GW233 := n2_
       have GE233 := n3_
       have NB205_233 := n4_
       have NB233_205 := n5_
       have HB := n6_
       clear n0_ n1_ n2_ n3_ n4_ n5_ n6_
       have hHeld : w27.cell? ⟨gb205, 0, none⟩ = some (.string t203) ∧ w27.cell? ⟨gb205, 1, none⟩ = some (.string t204) := hS_
       refine norm_ (a' := ?_) ?_ ?_
       rotate_left
       ·simp only [putAll, Act.put, la_, lb_, lc_]
        rfl
       refine two_ (i := 2) (j := 8) (Ni := some 11) (Nj := some 3) d8x11 d8x8 rfl rfl rfl rfl (two_of HT_.out (by kernel_rfl)) (by decide) (by decide) (fun K hK => ?_) (fun K hK => ?_)
       ·skip
        refine goes_ Tryz.func9 (by kernel_rfl) rfl #[.agg #[.int .i64 t206, .bool t207, .bool t208, .bool t209, .bool t210, .bool t211, .int .i64 t212, .int .i64 t213, .string t214, .string t215, .int .u32 t216, .int .u32 t217], .string (⟨#[105, 113, 110, 46, 50, 48, 50, 48, 45, 48, 49, 46, 116]⟩ : ByteArray), .agg #[.string t203, .string t204]] (by rfl) rfl rfl (by (try simp only [List.map_toArray, List.map_cons, List.map_nil]); first | done | rfl | (simp only [List.length_drop, List.length_take]; rfl)) ?_
        with_reducible refine (login_Step.calls k t206 t207 t208 t209 t210 t211 t212 t213 t214 t215 t216 t217 (⟨#[105, 113, 110, 46, 50, 48, 50, 48, 45, 48, 49, 46, 116]⟩ : ByteArray) t203 t204 t218 t219 t220 t221 t222 t223 t224 t225 t226 t227 t228 t229 t230 t231 true _ ?side1 A4.out).mono ?_
        (case side1 => first | ((refine Glob.keep HG.out ?_); (repeat (first | (with_reducible first | exact HB.out | apply below_alloc | apply pw_below_drewN | apply below_drew1 | refine below_set ?_ GE205.out | refine below_set ?_ GE233.out) | exact HB.out)); done) | exact HG.out)
        rintro e w28 ⟨rfl, hb⟩
        refine ⟨_, rfl, ?_⟩
        have n0_ := Aside0.mk (blk_below (bk_ BK205) hb)
        have n1_ := Aside0.mk (blk_below (bk_ BK233) hb)
        have n2_ := Aside0.mk (below_step (hb_ HB) hb)
        clear BK205
        clear BK233
        clear HB
        have BK205 := n0_
        have BK233 := n1_
        have HB := n2_
        clear n0_ n1_ n2_
        (try clear hb)
        (try clear hb2)
        (try clear hk)
        (try clear hi)
        refine hK.out _ _ ⟨(blk_cell BK205.out 0).trans rfl, (blk_cell BK205.out 1).trans rfl⟩ (fun hHeld => ?_)
        clear hK K
        refine norm_ (a' := ?_) ?_ ?_
        rotate_left
        ·show Act.put _ (some 11) _ = _
         simp only [Act.put, la_, lb_, lc_, i64_w, i32_w]
         rfl
        refine pon_ 3 (some 8) d8x15 HT_.out ?_
        refine pon_ 4 (some 12) d8x19 HT_.out ?_
        refine pon_ 5 (some 13) d8x23 HT_.out ?_
        refine pon_ 6 (some 14) d8x27 HT_.out ?_
        exact norm_ (by first | (simp only [putAll, Act.put, la_, lb_, lc_]; done) | (simp only [putAll, Act.put, la_, lb_, lc_]; rfl)) (hJ0_2_7 (gb233) _ ⟨hHeld, (bk_ BK205), (bk_ BK233), GW233.out, GE233.out, NB205_233.out, NB233_205.out, (hb_ HB)⟩)
       ·skip
        refine box_step ?hg (N := 3) ?hd (cs := #[.string (⟨#[]⟩ : ByteArray), .string (⟨#[]⟩ : ByteArray)]) (t := 35) ?hr ?_; (case hd => rfl); (case hg => rfl); (case hr => first | (go_simp; done) | (go_simp; rfl))
        intro gb234 hg w28 hbox hb
        have n0_ := Aside0.mk (blk_below (bk_ BK205) hb)
        have n1_ := Aside0.mk (blk_below (bk_ BK233) hb)
        have n2_ := Aside0.mk (below_step (hb_ HB) hb)
        have n3_ := Aside0.mk (hbox)
        have n4_ := Aside0.mk ((by rw [hg]; exact (below_size (hb_ HB)) : w.heap.size ≤ gb234))
        have n5_ := Aside0.mk ((by rw [hg]; exact (below_size (hb_ HB)) : w.heap.size ≤ gb234))
        have n6_ := Aside0.mk ((by rw [hg]; exact Nat.ne_of_lt (blk_lt (g := gb205) (o := .cells #[.string t203, .string t204] 35 (0, 0)) (bk_ BK205)) : gb205 ≠ gb234))
        have n7_ := Aside0.mk ((by rw [hg]; exact Nat.ne_of_gt (blk_lt (g := gb205) (o := .cells #[.string t203, .string t204] 35 (0, 0)) (bk_ BK205)) : gb234 ≠ gb205))
        have n8_ := Aside0.mk ((by rw [hg]; exact Nat.ne_of_lt (blk_lt (g := gb233) (o := .cells #[.int .i64 0, .bool false, .bool false, .bool false, .bool false, .bool false, .int .i64 0, .int .i64 0, .string (⟨#[]⟩ : ByteArray), .string (⟨#[]⟩ : ByteArray), .int .u32 0, .int .u32 0] 27 (0, 0)) (bk_ BK233)) : gb233 ≠ gb234))
        have n9_ := Aside0.mk ((by rw [hg]; exact Nat.ne_of_gt (blk_lt (g := gb233) (o := .cells #[.int .i64 0, .bool false, .bool false, .bool false, .bool false, .bool false, .int .i64 0, .int .i64 0, .string (⟨#[]⟩ : ByteArray), .string (⟨#[]⟩ : ByteArray), .int .u32 0, .int .u32 0] 27 (0, 0)) (bk_ BK233)) : gb234 ≠ gb233))
        clear BK205
        clear BK233
        clear HB
        have BK205 := n0_
        have BK233 := n1_
        have HB := n2_
        have BK234 := n3_
        have GW234 := n4_
        have GE234 := n5_
        have NB205_234 := n6_
        have NB234_205 := n7_
        have NB233_234 := n8_
        have NB234_233 := n9_
        clear n0_ n1_ n2_ n3_ n4_ n5_ n6_ n7_ n8_ n9_
        clear hb hbox hg
        refine hK.out _ _ ⟨(blk_cell BK205.out 0).trans rfl, (blk_cell BK205.out 1).trans rfl⟩ (fun hHeld => ?_)
        clear hK K
        refine norm_ (a' := ?_) ?_ ?_
        rotate_left
        ·show Act.put _ (some 3) _ = _
         simp only [Act.put, la_, lb_, lc_, i64_w, i32_w]
         rfl
        exact norm_ (by first | (simp only [putAll, Act.put, la_, lb_, lc_]; done) | (simp only [putAll, Act.put, la_, lb_, lc_]; rfl)) (hJ0_7_8 (gb233, gb234) _ ⟨hHeld, (bk_ BK205), (bk_ BK233), (bk_ BK234), GW233.out, GE233.out, NB205_233.out, NB233_205.out, NB234_233.out, NB233_234.out, GW234.out, GE234.out, NB205_234.out, NB234_205.out, (hb_ HB)⟩)
     ·skip
      rintro _ w27 ⟨hS_, h0_, h1_⟩
      have n0_ : Aside0 (w27.heap[gb205]? = some (.cells #[.string t203, .string t204] 35 (0, 0))) := ⟨h0_⟩
      have n1_ : Aside0 (Below w.heap.size w w27) := ⟨h1_⟩
      clear BK205
      clear HB
      clear h0_ h1_
      have BK205 := n0_
      have HB := n1_
      clear n0_ n1_
      have hHeld : w27.cell? ⟨gb205, 0, none⟩ = some (.string t203) ∧ w27.cell? ⟨gb205, 1, none⟩ = some (.string t204) := hS_
      refine norm_ (a' := ?_) ?_ ?_
      rotate_left
      ·simp only [putAll, Act.put, la_, lb_, lc_]
       rfl
      refine two_ (i := 7) (j := 8) (Ni := some 2) (Nj := some 3) d8x27 d8x26 rfl rfl rfl rfl (two_of HT_.out (by kernel_rfl)) (by decide) (by decide) (fun K hK => ?_) (fun K hK => ?_)
      ·skip
       refine box_step ?hg (N := 2) ?hd (cs := #[.int .i64 0, .bool false, .bool false, .bool false, .bool false, .bool false, .int .i64 0, .int .i64 0, .string (⟨#[]⟩ : ByteArray), .string (⟨#[]⟩ : ByteArray), .int .u32 0, .int .u32 0]) (t := 27) ?hr ?_; (case hd => rfl); (case hg => rfl); (case hr => first | (go_simp; done) | (go_simp; rfl))
       intro gb233 hg w28 hbox hb
       have n0_ := Aside0.mk (blk_below (bk_ BK205) hb)
       have n1_ := Aside0.mk (below_step (hb_ HB) hb)
       have n2_ := Aside0.mk (hbox)
       have n3_ := Aside0.mk ((by rw [hg]; exact (below_size (hb_ HB)) : w.heap.size ≤ gb233))
       have n4_ := Aside0.mk ((by rw [hg]; exact (below_size (hb_ HB)) : w.heap.size ≤ gb233))
       have n5_ := Aside0.mk ((by rw [hg]; exact Nat.ne_of_lt (blk_lt (g := gb205) (o := .cells #[.string t203, .string t204] 35 (0, 0)) (bk_ BK205)) : gb205 ≠ gb233))
       have n6_ := Aside0.mk ((by rw [hg]; exact Nat.ne_of_gt (blk_lt (g := gb205) (o := .cells #[.string t203, .string t204] 35 (0, 0)) (bk_ BK205)) : gb233 ≠ gb205))
       clear BK205
       clear HB
       have BK205 := n0_
       have HB := n1_
       have BK233 := n2_
       have GW233 := n3_
       have GE233 := n4_
       have NB205_233 := n5_
       have NB233_205 := n6_
       clear n0_ n1_ n2_ n3_ n4_ n5_ n6_
       clear hb hbox hg
       refine hK.out _ _ ⟨(blk_cell BK205.out 0).trans rfl, (blk_cell BK205.out 1).trans rfl⟩ (fun hHeld => ?_)
       clear hK K
       refine norm_ (a' := ?_) ?_ ?_
       rotate_left
       ·show Act.put _ (some 2) _ = _
        simp only [Act.put, la_, lb_, lc_, i64_w, i32_w]
        rfl
       exact norm_ (by first | (simp only [putAll, Act.put, la_, lb_, lc_]; done) | (simp only [putAll, Act.put, la_, lb_, lc_]; rfl)) (hJ0_2_7 (gb233) _ ⟨hHeld, (bk_ BK205), (bk_ BK233), GW233.out, GE233.out, NB205_233.out, NB233_205.out, (hb_ HB)⟩)
      ·skip
       refine box_step ?hg (N := 3) ?hd (cs := #[.string (⟨#[]⟩ : ByteArray), .string (⟨#[]⟩ : ByteArray)]) (t := 35) ?hr ?_; (case hd => rfl); (case hg => rfl); (case hr => first | (go_simp; done) | (go_simp; rfl))
       intro gb234 hg w28 hbox hb
       have n0_ := Aside0.mk (blk_below (bk_ BK205) hb)
       have n1_ := Aside0.mk (below_step (hb_ HB) hb)
       have n2_ := Aside0.mk (hbox)
       have n3_ := Aside0.mk ((by rw [hg]; exact (below_size (hb_ HB)) : w.heap.size ≤ gb234))
       have n4_ := Aside0.mk ((by rw [hg]; exact (below_size (hb_ HB)) : w.heap.size ≤ gb234))
       have n5_ := Aside0.mk ((by rw [hg]; exact Nat.ne_of_lt (blk_lt (g := gb205) (o := .cells #[.string t203, .string t204] 35 (0, 0)) (bk_ BK205)) : gb205 ≠ gb234))
       have n6_ := Aside0.mk ((by rw [hg]; exact Nat.ne_of_gt (blk_lt (g := gb205) (o := .cells #[.string t203, .string t204] 35 (0, 0)) (bk_ BK205)) : gb234 ≠ gb205))
       clear BK205
       clear HB
       have BK205 := n0_
       have HB := n1_
       have BK234 := n2_
       have GW234 := n3_
       have GE234 := n4_
       have NB205_234 := n5_
       have NB234_205 := n6_
       clear n0_ n1_ n2_ n3_ n4_ n5_ n6_
       clear hb hbox hg
       refine hK.out _ _ ⟨(blk_cell BK205.out 0).trans rfl, (blk_cell BK205.out 1).trans rfl⟩ (fun hHeld => ?_)
       clear hK K
       refine norm_ (a' := ?_) ?_ ?_
       rotate_left
       ·show Act.put _ (some 3) _ = _
        simp only [Act.put, la_, lb_, lc_, i64_w, i32_w]
        rfl
       exact norm_ (by first | (simp only [putAll, Act.put, la_, lb_, lc_]; done) | (simp only [putAll, Act.put, la_, lb_, lc_]; rfl)) (hJ0_2_8 (gb234) _ ⟨hHeld, (bk_ BK205), (bk_ BK234), GW234.out, GE234.out, NB205_234.out, NB234_205.out, (hb_ HB)⟩)
    ·skip
     rintro ⟨gb233, gb234⟩ w28 ⟨hS_, h0_, h1_, h2_, h3_, h4_, h5_, h6_, h7_, h8_, h9_, h10_, h11_, h12_, h13_⟩
     have n0_ : Aside0 (w28.heap[gb205]? = some (.cells #[.string t203, .string t204] 35 (0, 0))) := ⟨h0_⟩
     have n1_ : Aside0 (w28.heap[gb233]? = some (.cells #[.int .i64 0, .bool false, .bool false, .bool false, .bool false, .bool false, .int .i64 0, .int .i64 0, .string (⟨#[]⟩ : ByteArray), .string (⟨#[]⟩ : ByteArray), .int .u32 0, .int .u32 0] 27 (0, 0))) := ⟨h1_⟩
     have n2_ : Aside0 (w28.heap[gb234]? = some (.cells #[.string (⟨#[]⟩ : ByteArray), .string (⟨#[]⟩ : ByteArray)] 35 (0, 0))) := ⟨h2_⟩
     have n3_ : Aside0 (w.heap.size ≤ gb233) := ⟨h3_⟩
     have n4_ : Aside0 (w.heap.size ≤ gb233) := ⟨h4_⟩
     have n5_ : Aside0 (gb205 ≠ gb233) := ⟨h5_⟩
     have n6_ : Aside0 (gb233 ≠ gb205) := ⟨h6_⟩
     have n7_ : Aside0 (gb234 ≠ gb233) := ⟨h7_⟩
     have n8_ : Aside0 (gb233 ≠ gb234) := ⟨h8_⟩
     have n9_ : Aside0 (w.heap.size ≤ gb234) := ⟨h9_⟩
     have n10_ : Aside0 (w.heap.size ≤ gb234) := ⟨h10_⟩
     have n11_ : Aside0 (gb205 ≠ gb234) := ⟨h11_⟩
     have n12_ : Aside0 (gb234 ≠ gb205) := ⟨h12_⟩
     have n13_ : Aside0 (Below w.heap.size w w28) := ⟨h13_⟩
     clear BK205
     clear HB
     clear h0_ h1_ h2_ h3_ h4_ h5_ h6_ h7_ h8_ h9_ h10_ h11_ h12_ h13_
     have BK205 := n0_
     have BK233 := n1_
     have BK234 := n2_
     have GW233 := n3_
     have GE233 := n4_
     have NB205_233 := n5_
     have NB233_205 := n6_
     have NB234_233 := n7_
     have NB233_234 := n8_
     have GW234 := n9_
     have GE234 := n10_
     have NB205_234 := n11_
     have NB234_205 := n12_
     have HB := n13_
     clear n0_ n1_ n2_ n3_ n4_ n5_ n6_ n7_ n8_ n9_ n10_ n11_ n12_ n13_
     have hHeld : w28.cell? ⟨gb205, 0, none⟩ = some (.string t203) ∧ w28.cell? ⟨gb205, 1, none⟩ = some (.string t204) := hS_
     refine norm_ (a' := ?_) ?_ ?_
     rotate_left
     ·simp only [putAll, Act.put, la_, lb_, lc_]
      rfl
     refine one_ (i := 2) (N := some 11) d8x12 rfl rfl (one_of HT_.out (by kernel_rfl)) (by decide) (fun K hK => ?_)
     refine goes_ Tryz.func9 (by kernel_rfl) rfl #[.agg #[.int .i64 t206, .bool t207, .bool t208, .bool t209, .bool t210, .bool t211, .int .i64 t212, .int .i64 t213, .string t214, .string t215, .int .u32 t216, .int .u32 t217], .string (⟨#[105, 113, 110, 46, 50, 48, 50, 48, 45, 48, 49, 46, 116]⟩ : ByteArray), .agg #[.string t203, .string t204]] (by rfl) rfl rfl (by (try simp only [List.map_toArray, List.map_cons, List.map_nil]); first | done | rfl | (simp only [List.length_drop, List.length_take]; rfl)) ?_
     with_reducible refine (login_Step.calls k t206 t207 t208 t209 t210 t211 t212 t213 t214 t215 t216 t217 (⟨#[105, 113, 110, 46, 50, 48, 50, 48, 45, 48, 49, 46, 116]⟩ : ByteArray) t203 t204 t218 t219 t220 t221 t222 t223 t224 t225 t226 t227 t228 t229 t230 t231 true _ ?side1 A4.out).mono ?_
     (case side1 => first | ((refine Glob.keep HG.out ?_); (repeat (first | (with_reducible first | exact HB.out | apply below_alloc | apply pw_below_drewN | apply below_drew1 | refine below_set ?_ GE205.out | refine below_set ?_ GE233.out | refine below_set ?_ GE234.out) | exact HB.out)); done) | exact HG.out)
     rintro e w29 ⟨rfl, hb⟩
     refine ⟨_, rfl, ?_⟩
     have n0_ := Aside0.mk (blk_below (bk_ BK205) hb)
     have n1_ := Aside0.mk (blk_below (bk_ BK233) hb)
     have n2_ := Aside0.mk (blk_below (bk_ BK234) hb)
     have n3_ := Aside0.mk (below_step (hb_ HB) hb)
     clear BK205
     clear BK233
     clear BK234
     clear HB
     have BK205 := n0_
     have BK233 := n1_
     have BK234 := n2_
     have HB := n3_
     clear n0_ n1_ n2_ n3_
     (try clear hb)
     (try clear hb2)
     (try clear hk)
     (try clear hi)
     refine hK.out _ _ ⟨(blk_cell BK205.out 0).trans rfl, (blk_cell BK205.out 1).trans rfl⟩ (fun hHeld => ?_)
     clear hK K
     refine norm_ (a' := ?_) ?_ ?_
     rotate_left
     ·show Act.put _ (some 11) _ = _
      simp only [Act.put, la_, lb_, lc_, i64_w, i32_w]
      rfl
     refine pon_ 3 (some 8) d8x16 HT_.out ?_
     refine pon_ 4 (some 12) d8x20 HT_.out ?_
     refine pon_ 5 (some 13) d8x24 HT_.out ?_
     refine pon_ 6 (some 14) d8x28 HT_.out ?_
     exact norm_ (by first | (simp only [putAll, Act.put, la_, lb_, lc_]; done) | (simp only [putAll, Act.put, la_, lb_, lc_]; rfl)) (hJ0_2_7_8 (gb233, gb234) _ ⟨hHeld, (bk_ BK205), (bk_ BK233), (bk_ BK234), GW233.out, GE233.out, NB205_233.out, NB233_205.out, NB234_233.out, NB233_234.out, GW234.out, GE234.out, NB205_234.out, NB234_205.out, (hb_ HB)⟩)
   ·skip
    rintro gb234 w28 ⟨hS_, h0_, h1_, h2_, h3_, h4_, h5_, h6_⟩
    have n0_ : Aside0 (w28.heap[gb205]? = some (.cells #[.string t203, .string t204] 35 (0, 0))) := ⟨h0_⟩
    have n1_ : Aside0 (w28.heap[gb234]? = some (.cells #[.string (⟨#[]⟩ : ByteArray), .string (⟨#[]⟩ : ByteArray)] 35 (0, 0))) := ⟨h1_⟩
    have n2_ : Aside0 (w.heap.size ≤ gb234) := ⟨h2_⟩
    have n3_ : Aside0 (w.heap.size ≤ gb234) := ⟨h3_⟩
    have n4_ : Aside0 (gb205 ≠ gb234) := ⟨h4_⟩
    have n5_ : Aside0 (gb234 ≠ gb205) := ⟨h5_⟩
    have n6_ : Aside0 (Below w.heap.size w w28) := ⟨h6_⟩
    clear BK205
    clear HB
    clear h0_ h1_ h2_ h3_ h4_ h5_ h6_
    have BK205 := n0_
    have BK234 := n1_
    have GW234 := n2_
    have GE234 := n3_
    have NB205_234 := n4_
    have NB234_205 := n5_
    have HB := n6_
    clear n0_ n1_ n2_ n3_ n4_ n5_ n6_
    have hHeld : w28.cell? ⟨gb205, 0, none⟩ = some (.string t203) ∧ w28.cell? ⟨gb205, 1, none⟩ = some (.string t204) := hS_
    refine norm_ (a' := ?_) ?_ ?_
    rotate_left
    ·simp only [putAll, Act.put, la_, lb_, lc_]
     rfl
    refine one_ (i := 7) (N := some 2) d8x28 rfl rfl (one_of HT_.out (by kernel_rfl)) (by decide) (fun K hK => ?_)
    refine box_step ?hg (N := 2) ?hd (cs := #[.int .i64 0, .bool false, .bool false, .bool false, .bool false, .bool false, .int .i64 0, .int .i64 0, .string (⟨#[]⟩ : ByteArray), .string (⟨#[]⟩ : ByteArray), .int .u32 0, .int .u32 0]) (t := 27) ?hr ?_; (case hd => rfl); (case hg => rfl); (case hr => first | (go_simp; done) | (go_simp; rfl))
    intro gb233 hg w29 hbox hb
    have n0_ := Aside0.mk (blk_below (bk_ BK205) hb)
    have n1_ := Aside0.mk (blk_below (bk_ BK234) hb)
    have n2_ := Aside0.mk (below_step (hb_ HB) hb)
    have n3_ := Aside0.mk (hbox)
    have n4_ := Aside0.mk ((by rw [hg]; exact (below_size (hb_ HB)) : w.heap.size ≤ gb233))
    have n5_ := Aside0.mk ((by rw [hg]; exact (below_size (hb_ HB)) : w.heap.size ≤ gb233))
    have n6_ := Aside0.mk ((by rw [hg]; exact Nat.ne_of_lt (blk_lt (g := gb205) (o := .cells #[.string t203, .string t204] 35 (0, 0)) (bk_ BK205)) : gb205 ≠ gb233))
    have n7_ := Aside0.mk ((by rw [hg]; exact Nat.ne_of_gt (blk_lt (g := gb205) (o := .cells #[.string t203, .string t204] 35 (0, 0)) (bk_ BK205)) : gb233 ≠ gb205))
    have n8_ := Aside0.mk ((by rw [hg]; exact Nat.ne_of_lt (blk_lt (g := gb234) (o := .cells #[.string (⟨#[]⟩ : ByteArray), .string (⟨#[]⟩ : ByteArray)] 35 (0, 0)) (bk_ BK234)) : gb234 ≠ gb233))
    have n9_ := Aside0.mk ((by rw [hg]; exact Nat.ne_of_gt (blk_lt (g := gb234) (o := .cells #[.string (⟨#[]⟩ : ByteArray), .string (⟨#[]⟩ : ByteArray)] 35 (0, 0)) (bk_ BK234)) : gb233 ≠ gb234))
    clear BK205
    clear BK234
    clear HB
    have BK205 := n0_
    have BK234 := n1_
    have HB := n2_
    have BK233 := n3_
    have GW233 := n4_
    have GE233 := n5_
    have NB205_233 := n6_
    have NB233_205 := n7_
    have NB234_233 := n8_
    have NB233_234 := n9_
    clear n0_ n1_ n2_ n3_ n4_ n5_ n6_ n7_ n8_ n9_
    clear hb hbox hg
    refine hK.out _ _ ⟨(blk_cell BK205.out 0).trans rfl, (blk_cell BK205.out 1).trans rfl⟩ (fun hHeld => ?_)
    clear hK K
    refine norm_ (a' := ?_) ?_ ?_
    rotate_left
    ·show Act.put _ (some 2) _ = _
     simp only [Act.put, la_, lb_, lc_, i64_w, i32_w]
     rfl
    exact norm_ (by first | (simp only [putAll, Act.put, la_, lb_, lc_]; done) | (simp only [putAll, Act.put, la_, lb_, lc_]; rfl)) (hJ0_2_7_8 (gb233, gb234) _ ⟨hHeld, (bk_ BK205), (bk_ BK233), (bk_ BK234), GW233.out, GE233.out, NB205_233.out, NB233_205.out, NB234_233.out, NB233_234.out, GW234.out, GE234.out, NB205_234.out, NB234_205.out, (hb_ HB)⟩)
  ·skip
   rintro gb233 w28 ⟨hS_, h0_, h1_, h2_, h3_, h4_, h5_, h6_⟩
   have n0_ : Aside0 (w28.heap[gb205]? = some (.cells #[.string t203, .string t204] 35 (0, 0))) := ⟨h0_⟩
   have n1_ : Aside0 (w28.heap[gb233]? = some (.cells #[.int .i64 0, .bool false, .bool false, .bool false, .bool false, .bool false, .int .i64 0, .int .i64 0, .string (⟨#[]⟩ : ByteArray), .string (⟨#[]⟩ : ByteArray), .int .u32 0, .int .u32 0] 27 (0, 0))) := ⟨h1_⟩
   have n2_ : Aside0 (w.heap.size ≤ gb233) := ⟨h2_⟩
   have n3_ : Aside0 (w.heap.size ≤ gb233) := ⟨h3_⟩
   have n4_ : Aside0 (gb205 ≠ gb233) := ⟨h4_⟩
   have n5_ : Aside0 (gb233 ≠ gb205) := ⟨h5_⟩
   have n6_ : Aside0 (Below w.heap.size w w28) := ⟨h6_⟩
   clear BK205
   clear HB
   clear h0_ h1_ h2_ h3_ h4_ h5_ h6_
   have BK205 := n0_
   have BK233 := n1_
   have GW233 := n2_
   have GE233 := n3_
   have NB205_233 := n4_
   have NB233_205 := n5_
   have HB := n6_
   clear n0_ n1_ n2_ n3_ n4_ n5_ n6_
   have hHeld : w28.cell? ⟨gb205, 0, none⟩ = some (.string t203) ∧ w28.cell? ⟨gb205, 1, none⟩ = some (.string t204) := hS_
   refine norm_ (a' := ?_) ?_ ?_
   rotate_left
   ·simp only [putAll, Act.put, la_, lb_, lc_]
    rfl
   refine one_ (i := 8) (N := some 3) d8x28 rfl rfl (one_of HT_.out (by kernel_rfl)) (by decide) (fun K hK => ?_)
   refine box_step ?hg (N := 3) ?hd (cs := #[.string (⟨#[]⟩ : ByteArray), .string (⟨#[]⟩ : ByteArray)]) (t := 35) ?hr ?_; (case hd => rfl); (case hg => rfl); (case hr => first | (go_simp; done) | (go_simp; rfl))
   intro gb234 hg w29 hbox hb
   have n0_ := Aside0.mk (blk_below (bk_ BK205) hb)
   have n1_ := Aside0.mk (blk_below (bk_ BK233) hb)
   have n2_ := Aside0.mk (below_step (hb_ HB) hb)
   have n3_ := Aside0.mk (hbox)
   have n4_ := Aside0.mk ((by rw [hg]; exact (below_size (hb_ HB)) : w.heap.size ≤ gb234))
   have n5_ := Aside0.mk ((by rw [hg]; exact (below_size (hb_ HB)) : w.heap.size ≤ gb234))
   have n6_ := Aside0.mk ((by rw [hg]; exact Nat.ne_of_lt (blk_lt (g := gb205) (o := .cells #[.string t203, .string t204] 35 (0, 0)) (bk_ BK205)) : gb205 ≠ gb234))
   have n7_ := Aside0.mk ((by rw [hg]; exact Nat.ne_of_gt (blk_lt (g := gb205) (o := .cells #[.string t203, .string t204] 35 (0, 0)) (bk_ BK205)) : gb234 ≠ gb205))
   have n8_ := Aside0.mk ((by rw [hg]; exact Nat.ne_of_lt (blk_lt (g := gb233) (o := .cells #[.int .i64 0, .bool false, .bool false, .bool false, .bool false, .bool false, .int .i64 0, .int .i64 0, .string (⟨#[]⟩ : ByteArray), .string (⟨#[]⟩ : ByteArray), .int .u32 0, .int .u32 0] 27 (0, 0)) (bk_ BK233)) : gb233 ≠ gb234))
   have n9_ := Aside0.mk ((by rw [hg]; exact Nat.ne_of_gt (blk_lt (g := gb233) (o := .cells #[.int .i64 0, .bool false, .bool false, .bool false, .bool false, .bool false, .int .i64 0, .int .i64 0, .string (⟨#[]⟩ : ByteArray), .string (⟨#[]⟩ : ByteArray), .int .u32 0, .int .u32 0] 27 (0, 0)) (bk_ BK233)) : gb234 ≠ gb233))
   clear BK205
   clear BK233
   clear HB
   have BK205 := n0_
   have BK233 := n1_
   have HB := n2_
   have BK234 := n3_
   have GW234 := n4_
   have GE234 := n5_
   have NB205_234 := n6_
   have NB234_205 := n7_
   have NB233_234 := n8_
   have NB234_233 := n9_
   clear n0_ n1_ n2_ n3_ n4_ n5_ n6_ n7_ n8_ n9_
   clear hb hbox hg
   refine hK.out _ _ ⟨(blk_cell BK205.out 0).trans rfl, (blk_cell BK205.out 1).trans rfl⟩ (fun hHeld => ?_)
   clear hK K
   refine norm_ (a' := ?_) ?_ ?_
   rotate_left
   ·show Act.put _ (some 3) _ = _
    simp only [Act.put, la_, lb_, lc_, i64_w, i32_w]
    rfl
   exact norm_ (by first | (simp only [putAll, Act.put, la_, lb_, lc_]; done) | (simp only [putAll, Act.put, la_, lb_, lc_]; rfl)) (hJ0_2_7_8 (gb233, gb234) _ ⟨hHeld, (bk_ BK205), (bk_ BK233), (bk_ BK234), GW233.out, GE233.out, NB205_233.out, NB233_205.out, NB234_233.out, NB233_234.out, GW234.out, GE234.out, NB205_234.out, NB234_205.out, (hb_ HB)⟩)
 rintro ⟨gb233, gb234⟩ w29 ⟨hS_, h0_, h1_, h2_, h3_, h4_, h5_, h6_, h7_, h8_, h9_, h10_, h11_, h12_, h13_⟩
 have n0_ : Aside0 (w29.heap[gb205]? = some (.cells #[.string t203, .string t204] 35 (0, 0))) := ⟨h0_⟩
 have n1_ : Aside0 (w29.heap[gb233]? = some (.cells #[.int .i64 0, .bool false, .bool false, .bool false, .bool false, .bool false, .int .i64 0, .int .i64 0, .string (⟨#[]⟩ : ByteArray), .string (⟨#[]⟩ : ByteArray), .int .u32 0, .int .u32 0] 27 (0, 0))) := ⟨h1_⟩
 have n2_ : Aside0 (w29.heap[gb234]? = some (.cells #[.string (⟨#[]⟩ : ByteArray), .string (⟨#[]⟩ : ByteArray)] 35 (0, 0))) := ⟨h2_⟩
 have n3_ : Aside0 (w.heap.size ≤ gb233) := ⟨h3_⟩
 have n4_ : Aside0 (w.heap.size ≤ gb233) := ⟨h4_⟩
 have n5_ : Aside0 (gb205 ≠ gb233) := ⟨h5_⟩
 have n6_ : Aside0 (gb233 ≠ gb205) := ⟨h6_⟩
 have n7_ : Aside0 (gb234 ≠ gb233) := ⟨h7_⟩
 have n8_ : Aside0 (gb233 ≠ gb234) := ⟨h8_⟩
 have n9_ : Aside0 (w.heap.size ≤ gb234) := ⟨h9_⟩
 have n10_ : Aside0 (w.heap.size ≤ gb234) := ⟨h10_⟩
 have n11_ : Aside0 (gb205 ≠ gb234) := ⟨h11_⟩
 have n12_ : Aside0 (gb234 ≠ gb205) := ⟨h12_⟩
 have n13_ : Aside0 (Below w.heap.size w w29) := ⟨h13_⟩
 clear BK205
 clear HB
 clear h0_ h1_ h2_ h3_ h4_ h5_ h6_ h7_ h8_ h9_ h10_ h11_ h12_ h13_
 have BK205 := n0_
 have BK233 := n1_
 have BK234 := n2_
 have GW233 := n3_
 have GE233 := n4_
 have NB205_233 := n5_
 have NB233_205 := n6_
 have NB234_233 := n7_
 have NB233_234 := n8_
 have GW234 := n9_
 have GE234 := n10_
 have NB205_234 := n11_
 have NB234_205 := n12_
 have HB := n13_
 clear n0_ n1_ n2_ n3_ n4_ n5_ n6_ n7_ n8_ n9_ n10_ n11_ n12_ n13_
 have hHeld : w29.cell? ⟨gb205, 0, none⟩ = some (.string t203) ∧ w29.cell? ⟨gb205, 1, none⟩ = some (.string t204) := hS_
 refine norm_ (a' := ?_) ?_ ?_
 rotate_left
 ·simp only [putAll, Act.put, la_, lb_, lc_]
  rfl
 refine one_ (i := 9) (N := none) d8x29 rfl rfl (one_of HT_.out (by kernel_rfl)) (by decide) (fun K hK => ?_)
 have hs30 : w29.cell? ⟨gb233, 0, none⟩ = some (.int .i64 0) := (blk_cell BK233.out 0).trans rfl
 have hfs30 := blk_frozen BK233.out 0
 have hns30_0 := NB205_233.out
 have hns30_2 := NB234_233.out
 have hms30_0 := NB233_205.out
 have hms30_2 := NB233_234.out
 have hs31 : w29.cell? ⟨gb233, 1, none⟩ = some (.bool false) := (blk_cell BK233.out 1).trans rfl
 have hfs31 := blk_frozen BK233.out 1
 have hns31_0 := NB205_233.out
 have hns31_2 := NB234_233.out
 have hms31_0 := NB233_205.out
 have hms31_2 := NB233_234.out
 have hs32 : w29.cell? ⟨gb233, 2, none⟩ = some (.bool false) := (blk_cell BK233.out 2).trans rfl
 have hfs32 := blk_frozen BK233.out 2
 have hns32_0 := NB205_233.out
 have hns32_2 := NB234_233.out
 have hms32_0 := NB233_205.out
 have hms32_2 := NB233_234.out
 have hs33 : w29.cell? ⟨gb233, 3, none⟩ = some (.bool false) := (blk_cell BK233.out 3).trans rfl
 have hfs33 := blk_frozen BK233.out 3
 have hns33_0 := NB205_233.out
 have hns33_2 := NB234_233.out
 have hms33_0 := NB233_205.out
 have hms33_2 := NB233_234.out
 have hs34 : w29.cell? ⟨gb233, 4, none⟩ = some (.bool false) := (blk_cell BK233.out 4).trans rfl
 have hfs34 := blk_frozen BK233.out 4
 have hns34_0 := NB205_233.out
 have hns34_2 := NB234_233.out
 have hms34_0 := NB233_205.out
 have hms34_2 := NB233_234.out
 have hs35 : w29.cell? ⟨gb233, 5, none⟩ = some (.bool false) := (blk_cell BK233.out 5).trans rfl
 have hfs35 := blk_frozen BK233.out 5
 have hns35_0 := NB205_233.out
 have hns35_2 := NB234_233.out
 have hms35_0 := NB233_205.out
 have hms35_2 := NB233_234.out
 have hs36 : w29.cell? ⟨gb233, 6, none⟩ = some (.int .i64 0) := (blk_cell BK233.out 6).trans rfl
 have hfs36 := blk_frozen BK233.out 6
 have hns36_0 := NB205_233.out
 have hns36_2 := NB234_233.out
 have hms36_0 := NB233_205.out
 have hms36_2 := NB233_234.out
 have hs37 : w29.cell? ⟨gb233, 7, none⟩ = some (.int .i64 0) := (blk_cell BK233.out 7).trans rfl
 have hfs37 := blk_frozen BK233.out 7
 have hns37_0 := NB205_233.out
 have hns37_2 := NB234_233.out
 have hms37_0 := NB233_205.out
 have hms37_2 := NB233_234.out
 have hs38 : w29.cell? ⟨gb233, 8, none⟩ = some (.string (⟨#[]⟩ : ByteArray)) := (blk_cell BK233.out 8).trans rfl
 have hfs38 := blk_frozen BK233.out 8
 have hns38_0 := NB205_233.out
 have hns38_2 := NB234_233.out
 have hms38_0 := NB233_205.out
 have hms38_2 := NB233_234.out
 have hs39 : w29.cell? ⟨gb233, 9, none⟩ = some (.string (⟨#[]⟩ : ByteArray)) := (blk_cell BK233.out 9).trans rfl
 have hfs39 := blk_frozen BK233.out 9
 have hns39_0 := NB205_233.out
 have hns39_2 := NB234_233.out
 have hms39_0 := NB233_205.out
 have hms39_2 := NB233_234.out
 have hs40 : w29.cell? ⟨gb233, 10, none⟩ = some (.int .u32 0) := (blk_cell BK233.out 10).trans rfl
 have hfs40 := blk_frozen BK233.out 10
 have hns40_0 := NB205_233.out
 have hns40_2 := NB234_233.out
 have hms40_0 := NB233_205.out
 have hms40_2 := NB233_234.out
 have hs41 : w29.cell? ⟨gb233, 11, none⟩ = some (.int .u32 0) := (blk_cell BK233.out 11).trans rfl
 have hfs41 := blk_frozen BK233.out 11
 have hns41_0 := NB205_233.out
 have hns41_2 := NB234_233.out
 have hms41_0 := NB233_205.out
 have hms41_2 := NB233_234.out
 refine skip_ (w1 := ?_) (by rfl) rfl ?_ ?_
 rotate_left
 ·go_simp
  rfl
 refine hK.out _ _ ⟨((cell_far (p := ⟨gb233, _, none⟩) NB205_233.out _).trans (((cell_far (p := ⟨gb233, _, none⟩) NB205_233.out _).trans (((cell_far (p := ⟨gb233, _, none⟩) NB205_233.out _).trans (((cell_far (p := ⟨gb233, _, none⟩) NB205_233.out _).trans (((cell_far (p := ⟨gb233, _, none⟩) NB205_233.out _).trans (((cell_far (p := ⟨gb233, _, none⟩) NB205_233.out _).trans (((cell_far (p := ⟨gb233, _, none⟩) NB205_233.out _).trans (((cell_far (p := ⟨gb233, _, none⟩) NB205_233.out _).trans (((cell_far (p := ⟨gb233, _, none⟩) NB205_233.out _).trans (((cell_far (p := ⟨gb233, _, none⟩) NB205_233.out _).trans (((cell_far (p := ⟨gb233, _, none⟩) NB205_233.out _).trans (((cell_far (p := ⟨gb233, _, none⟩) NB205_233.out _).trans (hHeld.1)))))))))))))))))))))))), ((cell_far (p := ⟨gb233, _, none⟩) NB205_233.out _).trans (((cell_far (p := ⟨gb233, _, none⟩) NB205_233.out _).trans (((cell_far (p := ⟨gb233, _, none⟩) NB205_233.out _).trans (((cell_far (p := ⟨gb233, _, none⟩) NB205_233.out _).trans (((cell_far (p := ⟨gb233, _, none⟩) NB205_233.out _).trans (((cell_far (p := ⟨gb233, _, none⟩) NB205_233.out _).trans (((cell_far (p := ⟨gb233, _, none⟩) NB205_233.out _).trans (((cell_far (p := ⟨gb233, _, none⟩) NB205_233.out _).trans (((cell_far (p := ⟨gb233, _, none⟩) NB205_233.out _).trans (((cell_far (p := ⟨gb233, _, none⟩) NB205_233.out _).trans (((cell_far (p := ⟨gb233, _, none⟩) NB205_233.out _).trans (((cell_far (p := ⟨gb233, _, none⟩) NB205_233.out _).trans (hHeld.2))))))))))))))))))))))))⟩ (fun hHeld => ?_)
 clear hK K
 have Z_ : ((((((((((((w29.setCell ⟨gb233, 0, none⟩ (.int .i64 t218)).setCell ⟨gb233, 1, none⟩ (.bool t219)).setCell ⟨gb233, 2, none⟩ (.bool t220)).setCell ⟨gb233, 3, none⟩ (.bool t221)).setCell ⟨gb233, 4, none⟩ (.bool t222)).setCell ⟨gb233, 5, none⟩ (.bool t223)).setCell ⟨gb233, 6, none⟩ (.int .i64 t224)).setCell ⟨gb233, 7, none⟩ (.int .i64 t225)).setCell ⟨gb233, 8, none⟩ (.string t226)).setCell ⟨gb233, 9, none⟩ (.string t227)).setCell ⟨gb233, 10, none⟩ (.int .u32 t228)).setCell ⟨gb233, 11, none⟩ (.int .u32 t229)).heap[gb233]? = some (.cells #[.int .i64 t218, .bool t219, .bool t220, .bool t221, .bool t222, .bool t223, .int .i64 t224, .int .i64 t225, .string t226, .string t227, .int .u32 t228, .int .u32 t229] 27 (0, 0)) := by
   refine blk_put (cs := #[.int .i64 t218, .bool t219, .bool t220, .bool t221, .bool t222, .bool t223, .int .i64 t224, .int .i64 t225, .string t226, .string t227, .int .u32 t228, .int .u32 0]) ?_ 11 _ rfl
   refine blk_put (cs := #[.int .i64 t218, .bool t219, .bool t220, .bool t221, .bool t222, .bool t223, .int .i64 t224, .int .i64 t225, .string t226, .string t227, .int .u32 0, .int .u32 0]) ?_ 10 _ rfl
   refine blk_put (cs := #[.int .i64 t218, .bool t219, .bool t220, .bool t221, .bool t222, .bool t223, .int .i64 t224, .int .i64 t225, .string t226, .string (⟨#[]⟩ : ByteArray), .int .u32 0, .int .u32 0]) ?_ 9 _ rfl
   refine blk_put (cs := #[.int .i64 t218, .bool t219, .bool t220, .bool t221, .bool t222, .bool t223, .int .i64 t224, .int .i64 t225, .string (⟨#[]⟩ : ByteArray), .string (⟨#[]⟩ : ByteArray), .int .u32 0, .int .u32 0]) ?_ 8 _ rfl
   refine blk_put (cs := #[.int .i64 t218, .bool t219, .bool t220, .bool t221, .bool t222, .bool t223, .int .i64 t224, .int .i64 0, .string (⟨#[]⟩ : ByteArray), .string (⟨#[]⟩ : ByteArray), .int .u32 0, .int .u32 0]) ?_ 7 _ rfl
   refine blk_put (cs := #[.int .i64 t218, .bool t219, .bool t220, .bool t221, .bool t222, .bool t223, .int .i64 0, .int .i64 0, .string (⟨#[]⟩ : ByteArray), .string (⟨#[]⟩ : ByteArray), .int .u32 0, .int .u32 0]) ?_ 6 _ rfl
   refine blk_put (cs := #[.int .i64 t218, .bool t219, .bool t220, .bool t221, .bool t222, .bool false, .int .i64 0, .int .i64 0, .string (⟨#[]⟩ : ByteArray), .string (⟨#[]⟩ : ByteArray), .int .u32 0, .int .u32 0]) ?_ 5 _ rfl
   refine blk_put (cs := #[.int .i64 t218, .bool t219, .bool t220, .bool t221, .bool false, .bool false, .int .i64 0, .int .i64 0, .string (⟨#[]⟩ : ByteArray), .string (⟨#[]⟩ : ByteArray), .int .u32 0, .int .u32 0]) ?_ 4 _ rfl
   refine blk_put (cs := #[.int .i64 t218, .bool t219, .bool t220, .bool false, .bool false, .bool false, .int .i64 0, .int .i64 0, .string (⟨#[]⟩ : ByteArray), .string (⟨#[]⟩ : ByteArray), .int .u32 0, .int .u32 0]) ?_ 3 _ rfl
   refine blk_put (cs := #[.int .i64 t218, .bool t219, .bool false, .bool false, .bool false, .bool false, .int .i64 0, .int .i64 0, .string (⟨#[]⟩ : ByteArray), .string (⟨#[]⟩ : ByteArray), .int .u32 0, .int .u32 0]) ?_ 2 _ rfl
   refine blk_put (cs := #[.int .i64 t218, .bool false, .bool false, .bool false, .bool false, .bool false, .int .i64 0, .int .i64 0, .string (⟨#[]⟩ : ByteArray), .string (⟨#[]⟩ : ByteArray), .int .u32 0, .int .u32 0]) ?_ 1 _ rfl
   refine blk_put (cs := #[.int .i64 0, .bool false, .bool false, .bool false, .bool false, .bool false, .int .i64 0, .int .i64 0, .string (⟨#[]⟩ : ByteArray), .string (⟨#[]⟩ : ByteArray), .int .u32 0, .int .u32 0]) ?_ 0 _ rfl
   exact BK233.out
 have ZBK205_ : ((((((((((((w29.setCell ⟨gb233, 0, none⟩ (.int .i64 t218)).setCell ⟨gb233, 1, none⟩ (.bool t219)).setCell ⟨gb233, 2, none⟩ (.bool t220)).setCell ⟨gb233, 3, none⟩ (.bool t221)).setCell ⟨gb233, 4, none⟩ (.bool t222)).setCell ⟨gb233, 5, none⟩ (.bool t223)).setCell ⟨gb233, 6, none⟩ (.int .i64 t224)).setCell ⟨gb233, 7, none⟩ (.int .i64 t225)).setCell ⟨gb233, 8, none⟩ (.string t226)).setCell ⟨gb233, 9, none⟩ (.string t227)).setCell ⟨gb233, 10, none⟩ (.int .u32 t228)).setCell ⟨gb233, 11, none⟩ (.int .u32 t229)).heap[gb205]? = some (.cells #[.string t203, .string t204] 35 (0, 0)) := by
   with_reducible repeat refine blk_far ?_ NB205_233.out _
   exact BK205.out
 have ZBK234_ : ((((((((((((w29.setCell ⟨gb233, 0, none⟩ (.int .i64 t218)).setCell ⟨gb233, 1, none⟩ (.bool t219)).setCell ⟨gb233, 2, none⟩ (.bool t220)).setCell ⟨gb233, 3, none⟩ (.bool t221)).setCell ⟨gb233, 4, none⟩ (.bool t222)).setCell ⟨gb233, 5, none⟩ (.bool t223)).setCell ⟨gb233, 6, none⟩ (.int .i64 t224)).setCell ⟨gb233, 7, none⟩ (.int .i64 t225)).setCell ⟨gb233, 8, none⟩ (.string t226)).setCell ⟨gb233, 9, none⟩ (.string t227)).setCell ⟨gb233, 10, none⟩ (.int .u32 t228)).setCell ⟨gb233, 11, none⟩ (.int .u32 t229)).heap[gb234]? = some (.cells #[.string (⟨#[]⟩ : ByteArray), .string (⟨#[]⟩ : ByteArray)] 35 (0, 0)) := by
   with_reducible repeat refine blk_far ?_ NB234_233.out _
   exact BK234.out
 have ZB_ : Below w.heap.size w ((((((((((((w29.setCell ⟨gb233, 0, none⟩ (.int .i64 t218)).setCell ⟨gb233, 1, none⟩ (.bool t219)).setCell ⟨gb233, 2, none⟩ (.bool t220)).setCell ⟨gb233, 3, none⟩ (.bool t221)).setCell ⟨gb233, 4, none⟩ (.bool t222)).setCell ⟨gb233, 5, none⟩ (.bool t223)).setCell ⟨gb233, 6, none⟩ (.int .i64 t224)).setCell ⟨gb233, 7, none⟩ (.int .i64 t225)).setCell ⟨gb233, 8, none⟩ (.string t226)).setCell ⟨gb233, 9, none⟩ (.string t227)).setCell ⟨gb233, 10, none⟩ (.int .u32 t228)).setCell ⟨gb233, 11, none⟩ (.int .u32 t229)) := by
   with_reducible repeat refine below_set ?_ GW233.out
   exact HB.out
 generalize ((((((((((((w29.setCell ⟨gb233, 0, none⟩ (.int .i64 t218)).setCell ⟨gb233, 1, none⟩ (.bool t219)).setCell ⟨gb233, 2, none⟩ (.bool t220)).setCell ⟨gb233, 3, none⟩ (.bool t221)).setCell ⟨gb233, 4, none⟩ (.bool t222)).setCell ⟨gb233, 5, none⟩ (.bool t223)).setCell ⟨gb233, 6, none⟩ (.int .i64 t224)).setCell ⟨gb233, 7, none⟩ (.int .i64 t225)).setCell ⟨gb233, 8, none⟩ (.string t226)).setCell ⟨gb233, 9, none⟩ (.string t227)).setCell ⟨gb233, 10, none⟩ (.int .u32 t228)).setCell ⟨gb233, 11, none⟩ (.int .u32 t229)) = w29z at Z_ ZBK205_ ZBK234_ ZB_ hHeld ⊢
 clear BK205 BK233 BK234 HB
 have BK233 := Aside0.mk Z_
 have BK205 := Aside0.mk ZBK205_
 have BK234 := Aside0.mk ZBK234_
 have HB := Aside0.mk ZB_
 clear Z_ ZB_ ZBK205_ ZBK234_
 clear hs30 hs31 hs32 hs33 hs34 hs35 hs36 hs37 hs38 hs39 hs40 hs41
 refine one_ (i := 10) (N := none) d8x30 rfl rfl (one_of HT_.out (by kernel_rfl)) (by decide) (fun K hK => ?_)
 have hs42 : w29z.cell? ⟨gb234, 0, none⟩ = some (.string (⟨#[]⟩ : ByteArray)) := (blk_cell BK234.out 0).trans rfl
 have hfs42 := blk_frozen BK234.out 0
 have hns42_0 := NB205_234.out
 have hns42_1 := NB233_234.out
 have hms42_0 := NB234_205.out
 have hms42_1 := NB234_233.out
 have hs43 : w29z.cell? ⟨gb234, 1, none⟩ = some (.string (⟨#[]⟩ : ByteArray)) := (blk_cell BK234.out 1).trans rfl
 have hfs43 := blk_frozen BK234.out 1
 have hns43_0 := NB205_234.out
 have hns43_1 := NB233_234.out
 have hms43_0 := NB234_205.out
 have hms43_1 := NB234_233.out
 refine skip_ (w1 := ?_) (by rfl) rfl ?_ ?_
 rotate_left
 ·go_simp
  rfl
 refine hK.out _ _ ⟨((cell_far (p := ⟨gb234, _, none⟩) NB205_234.out _).trans (((cell_far (p := ⟨gb234, _, none⟩) NB205_234.out _).trans (hHeld.1)))), ((cell_far (p := ⟨gb234, _, none⟩) NB205_234.out _).trans (((cell_far (p := ⟨gb234, _, none⟩) NB205_234.out _).trans (hHeld.2))))⟩ (fun hHeld => ?_)
 clear hK K
 refine pon_ 11 (some 4) d8x31 HT_.out ?_
 refine done_ (done_of HT_.out (by kernel_rfl)) ?_
 have hnb44 := NB233_205.out
 have hnc44 := NB205_233.out
 have hnb45 := NB233_234.out
 have hnc45 := NB234_233.out
 have hcz46_0 : w29z.cell? ⟨gb233, 0, none⟩ = some (.int .i64 t218) := (blk_cell BK233.out 0).trans rfl
 have hcz46_1 : w29z.cell? ⟨gb233, 1, none⟩ = some (.bool t219) := (blk_cell BK233.out 1).trans rfl
 have hcz46_2 : w29z.cell? ⟨gb233, 2, none⟩ = some (.bool t220) := (blk_cell BK233.out 2).trans rfl
 have hcz46_3 : w29z.cell? ⟨gb233, 3, none⟩ = some (.bool t221) := (blk_cell BK233.out 3).trans rfl
 have hcz46_4 : w29z.cell? ⟨gb233, 4, none⟩ = some (.bool t222) := (blk_cell BK233.out 4).trans rfl
 have hcz46_5 : w29z.cell? ⟨gb233, 5, none⟩ = some (.bool t223) := (blk_cell BK233.out 5).trans rfl
 have hcz46_6 : w29z.cell? ⟨gb233, 6, none⟩ = some (.int .i64 t224) := (blk_cell BK233.out 6).trans rfl
 have hcz46_7 : w29z.cell? ⟨gb233, 7, none⟩ = some (.int .i64 t225) := (blk_cell BK233.out 7).trans rfl
 have hcz46_8 : w29z.cell? ⟨gb233, 8, none⟩ = some (.string t226) := (blk_cell BK233.out 8).trans rfl
 have hcz46_9 : w29z.cell? ⟨gb233, 9, none⟩ = some (.string t227) := (blk_cell BK233.out 9).trans rfl
 have hcz46_10 : w29z.cell? ⟨gb233, 10, none⟩ = some (.int .u32 t228) := (blk_cell BK233.out 10).trans rfl
 have hcz46_11 : w29z.cell? ⟨gb233, 11, none⟩ = some (.int .u32 t229) := (blk_cell BK233.out 11).trans rfl
 have hfz46_0 := blk_frozen BK233.out 0
 have hfz46_1 := blk_frozen BK233.out 1
 have hfz46_2 := blk_frozen BK233.out 2
 have hfz46_3 := blk_frozen BK233.out 3
 have hfz46_4 := blk_frozen BK233.out 4
 have hfz46_5 := blk_frozen BK233.out 5
 have hfz46_6 := blk_frozen BK233.out 6
 have hfz46_7 := blk_frozen BK233.out 7
 have hfz46_8 := blk_frozen BK233.out 8
 have hfz46_9 := blk_frozen BK233.out 9
 have hfz46_10 := blk_frozen BK233.out 10
 have hfz46_11 := blk_frozen BK233.out 11
 have hnb47 := NB234_205.out
 have hnc47 := NB205_234.out
 have hcz48_0 : w29z.cell? ⟨gb234, 0, none⟩ = some (.string (⟨#[]⟩ : ByteArray)) := (blk_cell BK234.out 0).trans rfl
 have hcz48_1 : w29z.cell? ⟨gb234, 1, none⟩ = some (.string (⟨#[]⟩ : ByteArray)) := (blk_cell BK234.out 1).trans rfl
 have hfz48_0 := blk_frozen BK234.out 0
 have hfz48_1 := blk_frozen BK234.out 1
 have p11 : 0 ≤ (0 : Int) := (by omega)
 have q11 : 0 < t230.size := (by have : (0 : Int) < (t230.size : Int) := of_decide_eq_true (by first | (with_reducible assumption) | assumption); omega)
 have hx11 : ∀ h : 0 < t230.size, ((t230[0]'h).toNat : Int) = bt t230 0 := bt_at t230 0
 clear p11
 have qi11 : (0 < (t230.size : Int)) = True := eq_true (of_decide_eq_true (by first | (with_reducible assumption) | assumption))
 replace q11 := eq_true q11
 have p14 : 0 ≤ (1 : Int) := (by omega)
 have q14 : 1 < t230.size := (by have : (1 : Int) < (t230.size : Int) := of_decide_eq_true (by first | (with_reducible assumption) | assumption); omega)
 have hx14 : ∀ h : 1 < t230.size, ((t230[1]'h).toNat : Int) = bt t230 1 := bt_at t230 1
 clear p14
 have qi14 : (1 < (t230.size : Int)) = True := eq_true (of_decide_eq_true (by first | (with_reducible assumption) | assumption))
 replace q14 := eq_true q14
 have p17 : 0 ≤ (36 : Int) := (by omega)
 have q17 : 36 < t230.size := (by have : (36 : Int) < (t230.size : Int) := of_decide_eq_true (by first | (with_reducible assumption) | assumption); omega)
 have hx17 : ∀ h : 36 < t230.size, ((t230[36]'h).toNat : Int) = bt t230 36 := bt_at t230 36
 clear p17
 have qi17 : (36 < (t230.size : Int)) = True := eq_true (of_decide_eq_true (by first | (with_reducible assumption) | assumption))
 replace q17 := eq_true q17
 try go_wp2
 go_ret
 exact ⟨by first | rfl | (simp [errW_none, errW_some] <;> rfl) | (simp [*, errW_none, errW_some] <;> rfl) | (simp [bt, *]; done) | (unfold bt; simp [*]; done), by repeat (first | (with_reducible first | exact HB.out | apply below_alloc | apply pw_below_drewN | apply below_drew1 | refine below_set ?_ GE205.out | refine below_set ?_ GE233.out | refine below_set ?_ GE234.out) | exact HB.out)⟩
end Go.Proofs.YthglbmihbmneaaaGreatDoor.P
