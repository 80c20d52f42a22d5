-- written by this session's patched copy of the printer (wip/tools/patch_print.py); Lean checks it
import Derived.Test.YtkbjhblffbcleaaDoorPx0
import Derived.Test.YtkbjhblffbcleaaDoorPx5
import Derived.Test.YtkbjhblffbcleaaDoorPx7
import Derived.Test.YtkbjhblffbcleaaDoorPx8
namespace Go.Proofs.YtkbjhblffbcleaaDoor.P
open Go.RowKit Go.Proofs.YtkbjhblffbcleaaDoorW.PrintWords Go.Proofs.YtkbjhblffbcleaaDoorW.PrintLast Go.Proofs.YtkbjhblffbcleaaDoorW.PrintMore
attribute [local go_sem] max2_int min2_int max_two min_two max_three min_three max_four min_four   -- for this text's walks alone
set_option linter.unusedVariables false
set_option linter.unusedSimpArgs false
set_option linter.unnecessarySimpa false

/-! ### headgateref29_Put: function 14 -/
mutual
def headgateref29_Put.j0 : Nat → Bool → Bool → Bool → Int → Int → ByteArray → ByteArray → Option (ByteArray × Int)
 | 0, _, _, _, _, _, _, _ => none
 | k + 1, x1, x2, x46, x274000, x274001, x274002, x274003 => if x46 = true then (some ((⟨#[]⟩ : ByteArray), 200)) else ((headgateref29_common.f k x274000 x274001 (x274003.size : Int) x1 x2).bind fun t277 => (if t277.size + x274002.size ≤ 9223372036854775807 then (if x1 = true then (headgateref29_Put.j1 k x2 (t277 ++ x274002) (decide (x274000 > 3)) x274000 x274001 x274002 x274003) else (headgateref29_Put.j1 k x2 (t277 ++ x274002) false x274000 x274001 x274002 x274003)) else (none)))
def headgateref29_Put.j1 : Nat → Bool → ByteArray → Bool → Int → Int → ByteArray → ByteArray → Option (ByteArray × Int)
 | 0, _, _, _, _, _, _, _ => none
 | k + 1, x2, x8, x65, x274000, x274001, x274002, x274003 => if x65 = true then ((headgateref02_Digest.f k x8).bind fun t278 => (if x8.size + t278.size ≤ 9223372036854775807 then (if (x8 ++ t278).size + x274003.size ≤ 9223372036854775807 then (if x2 = true then (if x274000 > 3 then (if x274003.toList = ([] : List UInt8) then (some ((x8 ++ t278) ++ x274003, 0)) else ((headgateref02_Digest.f k x274003).bind fun t279 => (if ((x8 ++ t278) ++ x274003).size + t279.size ≤ 9223372036854775807 then (some (((x8 ++ t278) ++ x274003) ++ t279, 0)) else (none)))) else (some ((x8 ++ t278) ++ x274003, 0))) else (some ((x8 ++ t278) ++ x274003, 0))) else (none)) else (none))) else (if x8.size + x274003.size ≤ 9223372036854775807 then (if x2 = true then (if x274000 > 3 then (if x274003.toList = ([] : List UInt8) then (some (x8 ++ x274003, 0)) else ((headgateref02_Digest.f k x274003).bind fun t280 => (if (x8 ++ x274003).size + t280.size ≤ 9223372036854775807 then (some ((x8 ++ x274003) ++ t280, 0)) else (none)))) else (some (x8 ++ x274003, 0))) else (some (x8 ++ x274003, 0))) else (none))
end
def headgateref29_Put.f (k : Nat) (a0_0 : Int) (a0_1 : Int) (a0_2 : ByteArray) (a0_3 : ByteArray) (a1 : Bool) (a2 : Bool) : Option (ByteArray × Int) := (headgateref29_Size.f k a0_0).bind fun t274 => (if t274 = 0 then (headgateref29_Put.j0 k a1 a2 true a0_0 a0_1 a0_2 a0_3) else ((headgateref29_Size.f k a0_0).bind fun t274 => (if (a0_2.size : Int) = t274 then ((headgateref29_most.f k a0_0).bind fun t276 => (if (a0_3.size : Int) > t276 then (headgateref29_Put.j0 k a1 a2 true a0_0 a0_1 a0_2 a0_3) else (if a0_1 < 0 then (headgateref29_Put.j0 k a1 a2 true a0_0 a0_1 a0_2 a0_3) else (if a0_1 > 15 then (headgateref29_Put.j0 k a1 a2 true a0_0 a0_1 a0_2 a0_3) else (headgateref29_Put.j0 k a1 a2 ((Int.tmod a0_1 4) != 0) a0_0 a0_1 a0_2 a0_3))))) else (headgateref29_Put.j0 k a1 a2 true a0_0 a0_1 a0_2 a0_3))))
theorem headgateref29_Put.mono_l : ∀ k, (∀ y0 y1 y2 y3 y4 y5 y6, LeO (headgateref29_Put.j0 k y0 y1 y2 y3 y4 y5 y6) (headgateref29_Put.j0 (k + 1) y0 y1 y2 y3 y4 y5 y6)) ∧ (∀ y0 y1 y2 y3 y4 y5 y6, LeO (headgateref29_Put.j1 k y0 y1 y2 y3 y4 y5 y6) (headgateref29_Put.j1 (k + 1) y0 y1 y2 y3 y4 y5 y6))
 | 0 => ⟨fun _ _ _ _ _ _ _ r h => by simp [headgateref29_Put.j0] at h, fun _ _ _ _ _ _ _ r h => by simp [headgateref29_Put.j1] at h⟩
 | k + 1 => by
  obtain ⟨ih0, ih1⟩ := headgateref29_Put.mono_l k
  refine ⟨?_, ?_⟩
  ·intro y0 y1 y2 y3 y4 y5 y6
   unfold headgateref29_Put.j0
   repeat' first
   | (with_reducible exact ih0 _ _ _ _ _ _ _)
   | (with_reducible exact ih1 _ _ _ _ _ _ _)
   | (with_reducible exact headgateref02_Digest.mono _ _)
   | (with_reducible exact headgateref29_Size.mono _ _)
   | (with_reducible exact headgateref29_common.mono _ _ _ _ _ _)
   | (with_reducible exact headgateref29_most.mono _ _)
   | (with_reducible exact LeO.refl _)
   | (with_reducible exact LeO.none _)
   | (with_reducible refine LeO.ite ?_ ?_)
   | (with_reducible refine LeO.bind ?_ (fun _ => ?_))
   | exact ih0 _ _ _ _ _ _ _
   | exact ih1 _ _ _ _ _ _ _
   | exact headgateref02_Digest.mono _ _
   | exact headgateref29_Size.mono _ _
   | exact headgateref29_common.mono _ _ _ _ _ _
   | exact headgateref29_most.mono _ _
   | exact LeO.none _
   | refine LeO.ite ?_ ?_
   | refine LeO.bind ?_ (fun _ => ?_)
  ·intro y0 y1 y2 y3 y4 y5 y6
   unfold headgateref29_Put.j1
   repeat' first
   | (with_reducible exact ih0 _ _ _ _ _ _ _)
   | (with_reducible exact ih1 _ _ _ _ _ _ _)
   | (with_reducible exact headgateref02_Digest.mono _ _)
   | (with_reducible exact headgateref29_Size.mono _ _)
   | (with_reducible exact headgateref29_common.mono _ _ _ _ _ _)
   | (with_reducible exact headgateref29_most.mono _ _)
   | (with_reducible exact LeO.refl _)
   | (with_reducible exact LeO.none _)
   | (with_reducible refine LeO.ite ?_ ?_)
   | (with_reducible refine LeO.bind ?_ (fun _ => ?_))
   | exact ih0 _ _ _ _ _ _ _
   | exact ih1 _ _ _ _ _ _ _
   | exact headgateref02_Digest.mono _ _
   | exact headgateref29_Size.mono _ _
   | exact headgateref29_common.mono _ _ _ _ _ _
   | exact headgateref29_most.mono _ _
   | exact LeO.none _
   | refine LeO.ite ?_ ?_
   | refine LeO.bind ?_ (fun _ => ?_)
theorem headgateref29_Put.mono : ∀ a0 a1 a2 a3 a4 a5 k, LeO (headgateref29_Put.f k a0 a1 a2 a3 a4 a5) (headgateref29_Put.f (k + 1) a0 a1 a2 a3 a4 a5) := by
 intro a0 a1 a2 a3 a4 a5 k
 obtain ⟨ih0, ih1⟩ := headgateref29_Put.mono_l k
 unfold headgateref29_Put.f
 repeat' first
   | (with_reducible exact ih0 _ _ _ _ _ _ _)
   | (with_reducible exact ih1 _ _ _ _ _ _ _)
   | (with_reducible exact headgateref02_Digest.mono _ _)
   | (with_reducible exact headgateref29_Size.mono _ _)
   | (with_reducible exact headgateref29_common.mono _ _ _ _ _ _)
   | (with_reducible exact headgateref29_most.mono _ _)
   | (with_reducible exact LeO.refl _)
   | (with_reducible exact LeO.none _)
   | (with_reducible refine LeO.ite ?_ ?_)
   | (with_reducible refine LeO.bind ?_ (fun _ => ?_))
   | exact ih0 _ _ _ _ _ _ _
   | exact ih1 _ _ _ _ _ _ _
   | exact headgateref02_Digest.mono _ _
   | exact headgateref29_Size.mono _ _
   | exact headgateref29_common.mono _ _ _ _ _ _
   | exact headgateref29_most.mono _ _
   | exact LeO.none _
   | refine LeO.ite ?_ ?_
   | refine LeO.bind ?_ (fun _ => ?_)
def headgateref29_Put.T1 : Bool × List (List Nat × List Nat) := (true, [([], []), ([0], [0]), ([1], [1]), ([2], [2]), ([3, 2], [3]), ([4], [4]), ([5, 4], [4, 5]), ([6, 4], [4, 6]), ([4], [4]), ([8, 4], [4, 8]), ([9, 4, 4], [4, 9]), ([7, 10, 4], [4, 7, 10]), ([4, 11], [4, 11]), ([12, 10], [12]), ([13], [13]), ([14, 13], [13, 14]), ([15, 13], [13, 15]), ([13], [13]), ([17, 13], [13, 17]), ([18, 13, 13], [13, 18]), ([16, 19, 13], [13, 16, 19]), ([13, 20], [13, 20]), ([21, 19], [21]), ([22], [22]), ([23, 22], [22, 23]), ([24, 22], [22, 24]), ([22, 25], [22, 25]), ([26, 22], [26]), ([27], [27]), ([28, 27], [27, 28]), ([29, 27], [27, 29]), ([27, 30], [27, 30]), ([31, 27], [31]), ([32], [32]), ([33, 32], [32, 33]), ([34, 32], [32, 34]), ([35, 32], [32, 35]), ([32, 36], [32, 36])])
def headgateref29_Put.B1 : List Nat := [0, 1, 3, 7, 15, 31, 63, 127, 31, 287, 799, 2047, 4095, 8191, 16383, 32767, 65535, 16383, 147455, 409599, 1048575, 2097151, 4194303, 8388607, 16777215, 33554431, 67108863, 134217727, 268435455, 536870911, 1073741823, 2147483647, 4294967295, 8589934591, 17179869183, 34359738367, 68719476735, 137438953471]
theorem headgateref29_Put.tab1 : rtab .any (opsOf Tryd.f14 1) = headgateref29_Put.T1 := by kernel_rfl
theorem headgateref29_Put.bits1 : waitsOk headgateref29_Put.T1.2 headgateref29_Put.B1 = true := by kernel_rfl
def headgateref29_Put.T3 : Bool × List (List Nat × List Nat) := (true, [([], []), ([0], [0]), ([], []), ([2], [2]), ([], []), ([4], [4]), ([5], [5]), ([], []), ([], []), ([1, 3, 6, 7, 8], [1, 3, 6, 7, 8]), ([], []), ([10], [10]), ([9, 11], [9, 11]), ([12, 9, 0, 1, 2, 3, 4, 5, 6, 7, 8, 9, 10, 11, 12], [12])])
def headgateref29_Put.B3 : List Nat := [0, 1, 0, 4, 0, 16, 48, 0, 0, 511, 0, 1024, 4095, 8191]
theorem headgateref29_Put.tab3 : rtab .any (opsOf Tryd.f14 3) = headgateref29_Put.T3 := by kernel_rfl
theorem headgateref29_Put.bits3 : waitsOk headgateref29_Put.T3.2 headgateref29_Put.B3 = true := by kernel_rfl
abbrev d14x0 : Array Bool := #[false, false, false, false, false, false, false, false, false, false, false, false, false, false, false, false, false, false, false, false, false, false, false, false, false, false, false, false, false, false, false, false, false, false, false, false, false, false]
abbrev d14x1 : Array Bool := #[false, false, false, false, false, false, false, false, false, false, false, false, false, false]
abbrev d14x2 : Array Bool := dB 38 1
abbrev d14x3 : Array Bool := dB 14 1
abbrev d14x4 : Array Bool := dB 14 5
abbrev d14x5 : Array Bool := dB 14 21
abbrev d14x6 : Array Bool := dB 14 149
abbrev d14x7 : Array Bool := dB 14 405
abbrev d14x8 : Array Bool := dB 14 1429
abbrev d14x9 : Array Bool := dB 38 3
abbrev d14x10 : Array Bool := dB 38 7
abbrev d14x11 : Array Bool := dB 14 1431
abbrev d14x12 : Array Bool := dB 38 15
abbrev d14x13 : Array Bool := dB 38 31
abbrev d14x14 : Array Bool := dB 14 1439
abbrev d14x15 : Array Bool := dB 38 63
abbrev d14x16 : Array Bool := dB 38 319
abbrev d14x17 : Array Bool := dB 14 1471
abbrev d14x18 : Array Bool := dB 38 127
abbrev d14x19 : Array Bool := dB 38 383
abbrev d14x20 : Array Bool := dB 38 255
abbrev d14x21 : Array Bool := dB 38 511
abbrev d14x22 : Array Bool := dB 14 1535
abbrev d14x23 : Array Bool := dB 14 3583
abbrev d14x24 : Array Bool := dB 38 1023
abbrev d14x25 : Array Bool := dB 38 2047
abbrev d14x26 : Array Bool := dB 38 4095
abbrev d14x27 : Array Bool := dB 14 4095
abbrev d14x28 : Array Bool := dB 38 8191
abbrev d14x29 : Array Bool := dB 14 8191
abbrev d14x30 : Array Bool := dB 38 16383
abbrev d14x31 : Array Bool := dB 38 32767
abbrev d14x32 : Array Bool := dB 38 163839
abbrev d14x33 : Array Bool := dB 38 65535
abbrev d14x34 : Array Bool := dB 38 196607
abbrev d14x35 : Array Bool := dB 38 131071
abbrev d14x36 : Array Bool := dB 38 262143
abbrev d14x37 : Array Bool := dB 38 524287
abbrev d14x38 : Array Bool := dB 38 1048575
abbrev d14x39 : Array Bool := dB 38 2097151
abbrev d14x40 : Array Bool := dB 38 4194303
abbrev d14x41 : Array Bool := dB 38 8388607
abbrev d14x42 : Array Bool := dB 38 16777215
abbrev d14x43 : Array Bool := dB 38 33554431
abbrev d14x44 : Array Bool := dB 38 67108863
abbrev d14x45 : Array Bool := dB 38 134217727
abbrev d14x46 : Array Bool := dB 38 268435455
abbrev d14x47 : Array Bool := dB 38 536870911
abbrev d14x48 : Array Bool := dB 38 1073741823
abbrev d14x49 : Array Bool := dB 38 2147483647
abbrev d14x50 : Array Bool := dB 38 4294967295
abbrev d14x51 : Array Bool := dB 38 8589934591
abbrev d14x52 : Array Bool := dB 38 17179869183
abbrev d14x53 : Array Bool := dB 38 34359738367
abbrev d14x54 : Array Bool := dB 38 68719476735
abbrev d14x55 : Array Bool := dB 38 137438953471
abbrev d14x56 : Array Bool := dB 38 274877906943
abbrev d14x57 : Array Bool := dB 14 16383
set_option maxHeartbeats 8000000 in
set_option maxRecDepth 100000 in
theorem headgateref29_Put.calls (k : Nat) (a0_0 : Int) (a0_1 : Int) (a0_2 : ByteArray) (a0_3 : ByteArray) (a1 : Bool) (a2 : Bool) (r1 : ByteArray) (r2 : Int) (w : World) (h : headgateref29_Put.f k a0_0 a0_1 a0_2 a0_3 a1 a2 = some (r1, r2)) :
  Calls Tryd.prog 14 #[.agg #[.int .i64 a0_0, .int .i64 a0_1, .string a0_2, .string a0_3], .bool a1, .bool a2] w fun e w' => e = .returned (.tuple #[.string r1, .int .i64 r2]) ∧ Below w.heap.size w w' := by
 have hu24 := Tryd.underlying24
 have HB := Aside0.mk (Below.refl w.heap.size w)
 have H : ((headgateref29_Size.f k a0_0).bind fun t274 => (if t274 = 0 then (headgateref29_Put.j0 k a1 a2 true a0_0 a0_1 a0_2 a0_3) else ((headgateref29_Size.f k a0_0).bind fun t274 => (if (a0_2.size : Int) = t274 then ((headgateref29_most.f k a0_0).bind fun t276 => (if (a0_3.size : Int) > t276 then (headgateref29_Put.j0 k a1 a2 true a0_0 a0_1 a0_2 a0_3) else (if a0_1 < 0 then (headgateref29_Put.j0 k a1 a2 true a0_0 a0_1 a0_2 a0_3) else (if a0_1 > 15 then (headgateref29_Put.j0 k a1 a2 true a0_0 a0_1 a0_2 a0_3) else (headgateref29_Put.j0 k a1 a2 ((Int.tmod a0_1 4) != 0) a0_0 a0_1 a0_2 a0_3))))) else (headgateref29_Put.j0 k a1 a2 true a0_0 a0_1 a0_2 a0_3))))) = some (r1, r2) := h
 clear h
 have HC4 := Aside0.mk H
 clear H
 go_enter Tryd.func14, Tryd.ntmps14
 go_upto_region 1 with (first | ((with_reducible refine gate_dst (N := 3) rfl ?_); (try (refine gate_guard (by rfl) ?_; dsimp only)); refine box_event ?hg (N := 3) ?hd (cs := #[.int .i64 a0_0, .int .i64 a0_1, .string a0_2, .string a0_3]) (t := 24) ?hr ?_; (case hd => rfl); (case hg => rfl); (case hr => first | (go_simp; done) | (go_simp; rfl)); intro gb273 hg w5 hbox hb; have n0_ := Aside0.mk (below_step (by repeat (first | (with_reducible first | exact HB.out | apply below_alloc | apply pw_below_drewN | apply below_drew1) | exact HB.out)) hb); have n1_ := Aside0.mk (hbox); have n2_ := Aside0.mk ((by rw [hg]; exact (below_size (by repeat (first | (with_reducible first | exact HB.out | apply below_alloc | apply pw_below_drewN | apply below_drew1) | exact HB.out))) : w.heap.size ≤ gb273)); have n3_ := Aside0.mk ((by rw [hg]; exact (below_size (by repeat (first | (with_reducible first | exact HB.out | apply below_alloc | apply pw_below_drewN | apply below_drew1) | exact HB.out))) : w.heap.size ≤ gb273)); clear HB; have HB := n0_; have BK273 := n1_; have GW273 := n2_; have GE273 := n3_; clear n0_ n1_ n2_ n3_; clear hb hbox hg))
 (try simp only [Act.put, la_, lb_, lc_])
 go_cut [46] (fun v46 wc => ∃ (kq : Nat) (x46_3 : Bool), v46 = .bool x46_3 ∧ Aside0 (headgateref29_Put.j0 kq a1 a2 x46_3 a0_0 a0_1 a0_2 a0_3 = some (r1, r2)) ∧ Aside0 (kq ≤ k) ∧ Aside0 (wc.heap[gb273]? = some (.cells #[.int .i64 a0_0, .int .i64 a0_1, .string a0_2, .string a0_3] 24 (0, 0))) ∧ Aside0 (Below w.heap.size w wc))
 case first =>
  have H := HC4.out
  clear HC4
  replace H := Option.bind_eq_some_iff.mp H
  obtain ⟨t274, A60, H⟩ := H
  try dsimp only at H
  have A6 := Aside0.mk A60
  clear A60
  by_cases c7 : t274 = 0
  ·rw [if_pos c7] at H
   have c7b0 : (t274 == 0) = true := beq_iff_eq.mpr c7
   have c7b1 : (t274 != 0) = false := bne_eq_false_iff_eq.mpr c7
   clear c7
   (first | rw [c7b0] | (simp only [i64_w, i32_w]; rw [c7b0]) | skip)
   have H' := Aside0.mk H
   clear H
   try go_wp2
   have n0_ := Aside0.mk (blk_drew BK273.out)
   have n1_ := Aside0.mk (below_drew1 HB.out)
   clear BK273
   clear HB
   have BK273 := n0_
   have HB := n1_
   clear n0_ n1_
   refine start_ (n := 38) (S := fun w' => w'.cell? ⟨gb273, 0, none⟩ = some (.int .i64 a0_0) ∧ w'.cell? ⟨gb273, 1, none⟩ = some (.int .i64 a0_1) ∧ w'.cell? ⟨gb273, 2, none⟩ = some (.string a0_2) ∧ w'.cell? ⟨gb273, 3, none⟩ = some (.string a0_3)) (ds := []) d14x0 (by kernel_rfl) rfl rfl ⟨(blk_cell BK273.out 0).trans rfl, (blk_cell BK273.out 1).trans rfl, (blk_cell BK273.out 2).trans rfl, (blk_cell BK273.out 3).trans rfl⟩ (fun hHeld => ?_); refine with_tabW headgateref29_Put.tab1 headgateref29_Put.bits1 (fun HT_ HW_ => ?_)
   generalize w5.drew = w8 at BK273 HB hHeld ⊢
   refine pon_ 0 (some 9) d14x2 HT_.out ?_
   refine ptk_ 1 (some 10) d14x9 HT_.out HW_.out hHeld ?_
   refine one_ (i := 2) (N := some 11) d14x10 rfl rfl (one_of HT_.out (by kernel_rfl)) (by decide) (fun K hK => ?_)
   refine goes_ Tryd.func16 (by kernel_rfl) rfl #[.int .i64 a0_0] (by rfl) rfl rfl (by (try simp only [List.map_toArray, List.map_cons, List.map_nil]); first | done | rfl | (simp only [List.length_drop, List.length_take]; rfl)) ?_
   with_reducible refine (headgateref29_Size.calls k a0_0 t274 _ A6.out).mono ?_
   rintro e w' ⟨rfl, ⟨nd, rfl⟩⟩
   refine ⟨_, rfl, ?_⟩
   refine hK.out _ _ ⟨(blk_cell BK273.out 0).trans rfl, (blk_cell BK273.out 1).trans rfl, (blk_cell BK273.out 2).trans rfl, (blk_cell BK273.out 3).trans rfl⟩ (fun hHeld => ?_)
   clear hK K
   refine norm_ (a' := ?_) ?_ ?_
   rotate_left
   ·show Act.put _ (some 11) _ = _
    simp only [Act.put, la_, lb_, lc_, i64_w, i32_w]
    rfl
   refine pon_ 3 (some 12) d14x12 HT_.out ?_
   refine pon_ 4 (some 13) d14x13 HT_.out ?_
   refine pof_ 5 (some 14) d14x15 HT_.out ?_
   refine pof_ 6 (some 15) d14x18 HT_.out ?_
   refine pof_ 7 (some 16) d14x20 HT_.out ?_
   refine pof_ 8 (some 17) d14x21 HT_.out ?_
   refine pof_ 9 (some 18) d14x24 HT_.out ?_
   refine pof_ 10 (some 19) d14x25 HT_.out ?_
   refine pof_ 11 (some 20) d14x26 HT_.out ?_
   refine pon_ 12 (some 21) d14x28 HT_.out ?_
   refine pon_ 13 (some 22) d14x30 HT_.out ?_
   refine pof_ 14 (some 23) d14x31 HT_.out ?_
   refine pof_ 15 (some 24) d14x33 HT_.out ?_
   refine pof_ 16 (some 25) d14x35 HT_.out ?_
   refine pof_ 17 (some 26) d14x36 HT_.out ?_
   refine pof_ 18 (some 27) d14x37 HT_.out ?_
   refine pof_ 19 (some 28) d14x38 HT_.out ?_
   refine pof_ 20 (some 29) d14x39 HT_.out ?_
   refine pon_ 21 (some 30) d14x40 HT_.out ?_
   refine pon_ 22 (some 31) d14x41 HT_.out ?_
   refine pof_ 23 (some 32) d14x42 HT_.out ?_
   refine pof_ 24 (some 33) d14x43 HT_.out ?_
   refine pof_ 25 (some 34) d14x44 HT_.out ?_
   refine pon_ 26 (some 35) d14x45 HT_.out ?_
   refine pon_ 27 (some 36) d14x46 HT_.out ?_
   refine pof_ 28 (some 37) d14x47 HT_.out ?_
   refine pof_ 29 (some 38) d14x48 HT_.out ?_
   refine pof_ 30 (some 39) d14x49 HT_.out ?_
   refine pon_ 31 (some 40) d14x50 HT_.out ?_
   refine pon_ 32 (some 41) d14x51 HT_.out ?_
   refine pof_ 33 (some 42) d14x52 HT_.out ?_
   refine pof_ 34 (some 43) d14x53 HT_.out ?_
   refine pof_ 35 (some 44) d14x54 HT_.out ?_
   refine pof_ 36 (some 45) d14x55 HT_.out ?_
   refine pon_ 37 (some 46) d14x56 HT_.out ?_
   refine done_ (done_of HT_.out (by kernel_rfl)) ?_
   try go_wp2
   go_meet
   case rel => exact ⟨_, (true), (by first | rfl | (simp; done) | (simp [*]; done)), H', ⟨by first | omega | exact Nat.le_refl _⟩, ⟨by (with_reducible repeat (first | refine blk_drewN ?_ _ | refine blk_drew ?_ | refine blk_alloc ?_ _)); exact BK273.out⟩, ⟨by repeat (first | (with_reducible first | exact HB.out | apply below_alloc | apply pw_below_drewN | apply below_drew1 | refine below_set ?_ GE273.out) | exact HB.out)⟩⟩
  rw [if_neg c7] at H
  have c7b0 : (t274 == 0) = false := beq_eq_false_iff_ne.mpr c7
  have c7b1 : (t274 != 0) = true := bne_iff_ne.mpr c7
  (first | rw [c7b0] | (simp only [i64_w, i32_w]; rw [c7b0]) | skip)
  replace H := Option.bind_eq_some_iff.mp H
  obtain ⟨t274, A90, H⟩ := H
  have e_ := A90.symm.trans A6.out
  simp only [Option.some.injEq, Prod.mk.injEq] at e_
  obtain rfl := e_
  try dsimp only at H
  have A9 := Aside0.mk A90
  clear A90
  refine neg_first (p := ((a0_2.size : Int) = t274)) (fun c10 => ?_) (fun c10 => ?_)
  ·rw [if_neg c10] at H
   have c10b0 : ((a0_2.size : Int) == t274) = false := beq_eq_false_iff_ne.mpr c10
   have c10b1 : ((a0_2.size : Int) != t274) = true := bne_iff_ne.mpr c10
   have H' := Aside0.mk H
   clear H
   try go_wp2
   have n0_ := Aside0.mk (blk_drew BK273.out)
   have n1_ := Aside0.mk (below_drew1 HB.out)
   clear BK273
   clear HB
   have BK273 := n0_
   have HB := n1_
   clear n0_ n1_
   refine start_ (n := 38) (S := fun w' => w'.cell? ⟨gb273, 0, none⟩ = some (.int .i64 a0_0) ∧ w'.cell? ⟨gb273, 1, none⟩ = some (.int .i64 a0_1) ∧ w'.cell? ⟨gb273, 2, none⟩ = some (.string a0_2) ∧ w'.cell? ⟨gb273, 3, none⟩ = some (.string a0_3)) (ds := []) d14x0 (by kernel_rfl) rfl rfl ⟨(blk_cell BK273.out 0).trans rfl, (blk_cell BK273.out 1).trans rfl, (blk_cell BK273.out 2).trans rfl, (blk_cell BK273.out 3).trans rfl⟩ (fun hHeld => ?_); refine with_tabW headgateref29_Put.tab1 headgateref29_Put.bits1 (fun HT_ HW_ => ?_)
   generalize w5.drew = w19 at BK273 HB hHeld ⊢
   refine pon_ 0 (some 9) d14x2 HT_.out ?_
   refine ptk_ 1 (some 10) d14x9 HT_.out HW_.out hHeld ?_
   refine one_ (i := 2) (N := some 11) d14x10 rfl rfl (one_of HT_.out (by kernel_rfl)) (by decide) (fun K hK => ?_)
   refine goes_ Tryd.func16 (by kernel_rfl) rfl #[.int .i64 a0_0] (by rfl) rfl rfl (by (try simp only [List.map_toArray, List.map_cons, List.map_nil]); first | done | rfl | (simp only [List.length_drop, List.length_take]; rfl)) ?_
   with_reducible refine (headgateref29_Size.calls k a0_0 t274 _ A6.out).mono ?_
   rintro e w' ⟨rfl, ⟨nd, rfl⟩⟩
   refine ⟨_, rfl, ?_⟩
   refine hK.out _ _ ⟨(blk_cell BK273.out 0).trans rfl, (blk_cell BK273.out 1).trans rfl, (blk_cell BK273.out 2).trans rfl, (blk_cell BK273.out 3).trans rfl⟩ (fun hHeld => ?_)
   clear hK K
   refine norm_ (a' := ?_) ?_ ?_
   rotate_left
   ·show Act.put _ (some 11) _ = _
    simp only [Act.put, la_, lb_, lc_, i64_w, i32_w]
    rfl
   refine pon_ 3 (some 12) d14x12 HT_.out ?_
   refine pon_ 4 (some 13) d14x13 HT_.out ?_
   refine pon_ 5 (some 14) d14x15 HT_.out ?_
   refine pon_ 8 (some 17) d14x16 HT_.out ?_
   refine ptk_ 6 (some 15) d14x19 HT_.out HW_.out hHeld ?_
   refine pon_ 7 (some 16) d14x21 HT_.out ?_
   refine ptk_ 9 (some 18) d14x24 HT_.out HW_.out hHeld ?_
   refine one_ (i := 10) (N := some 19) d14x25 rfl rfl (one_of HT_.out (by kernel_rfl)) (by decide) (fun K hK => ?_)
   refine goes_ Tryd.func16 (by kernel_rfl) rfl #[.int .i64 a0_0] (by rfl) rfl rfl (by (try simp only [List.map_toArray, List.map_cons, List.map_nil]); first | done | rfl | (simp only [List.length_drop, List.length_take]; rfl)) ?_
   with_reducible refine (headgateref29_Size.calls k a0_0 t274 _ A9.out).mono ?_
   rintro e w' ⟨rfl, ⟨nd, rfl⟩⟩
   refine ⟨_, rfl, ?_⟩
   refine hK.out _ _ ⟨(blk_cell BK273.out 0).trans rfl, (blk_cell BK273.out 1).trans rfl, (blk_cell BK273.out 2).trans rfl, (blk_cell BK273.out 3).trans rfl⟩ (fun hHeld => ?_)
   clear hK K
   refine norm_ (a' := ?_) ?_ ?_
   rotate_left
   ·show Act.put _ (some 19) _ = _
    simp only [Act.put, la_, lb_, lc_, i64_w, i32_w]
    rfl
   refine pon_ 11 (some 20) d14x26 HT_.out ?_
   refine pon_ 12 (some 21) d14x28 HT_.out ?_
   refine pon_ 13 (some 22) d14x30 HT_.out ?_
   refine pof_ 14 (some 23) d14x31 HT_.out ?_
   refine pof_ 15 (some 24) d14x33 HT_.out ?_
   refine pof_ 16 (some 25) d14x35 HT_.out ?_
   refine pof_ 17 (some 26) d14x36 HT_.out ?_
   refine pof_ 18 (some 27) d14x37 HT_.out ?_
   refine pof_ 19 (some 28) d14x38 HT_.out ?_
   refine pof_ 20 (some 29) d14x39 HT_.out ?_
   refine pon_ 21 (some 30) d14x40 HT_.out ?_
   refine pon_ 22 (some 31) d14x41 HT_.out ?_
   refine pof_ 23 (some 32) d14x42 HT_.out ?_
   refine pof_ 24 (some 33) d14x43 HT_.out ?_
   refine pof_ 25 (some 34) d14x44 HT_.out ?_
   refine pon_ 26 (some 35) d14x45 HT_.out ?_
   refine pon_ 27 (some 36) d14x46 HT_.out ?_
   refine pof_ 28 (some 37) d14x47 HT_.out ?_
   refine pof_ 29 (some 38) d14x48 HT_.out ?_
   refine pof_ 30 (some 39) d14x49 HT_.out ?_
   refine pon_ 31 (some 40) d14x50 HT_.out ?_
   refine pon_ 32 (some 41) d14x51 HT_.out ?_
   refine pof_ 33 (some 42) d14x52 HT_.out ?_
   refine pof_ 34 (some 43) d14x53 HT_.out ?_
   refine pof_ 35 (some 44) d14x54 HT_.out ?_
   refine pof_ 36 (some 45) d14x55 HT_.out ?_
   refine pon_ 37 (some 46) d14x56 HT_.out ?_
   refine done_ (done_of HT_.out (by kernel_rfl)) ?_
   try go_wp2
   go_meet
   case rel => exact ⟨_, (true), (by first | rfl | (simp; done) | (simp [*]; done)), H', ⟨by first | omega | exact Nat.le_refl _⟩, ⟨by (with_reducible repeat (first | refine blk_drewN ?_ _ | refine blk_drew ?_ | refine blk_alloc ?_ _)); exact BK273.out⟩, ⟨by repeat (first | (with_reducible first | exact HB.out | apply below_alloc | apply pw_below_drewN | apply below_drew1 | refine below_set ?_ GE273.out) | exact HB.out)⟩⟩
  rw [if_pos c10] at H
  have c10b0 : ((a0_2.size : Int) == t274) = true := beq_iff_eq.mpr c10
  have c10b1 : ((a0_2.size : Int) != t274) = false := bne_eq_false_iff_eq.mpr c10
  clear c10
  replace H := Option.bind_eq_some_iff.mp H
  obtain ⟨t276, A110, H⟩ := H
  try dsimp only at H
  have A11 := Aside0.mk A110
  clear A110
  by_cases c12 : (a0_3.size : Int) > t276
  ·rw [if_pos c12] at H
   have c12b0 : decide (t276 < (a0_3.size : Int)) = true := decide_eq_true c12
   clear c12
   have H' := Aside0.mk H
   clear H
   try go_wp2
   have n0_ := Aside0.mk (blk_drew BK273.out)
   have n1_ := Aside0.mk (below_drew1 HB.out)
   clear BK273
   clear HB
   have BK273 := n0_
   have HB := n1_
   clear n0_ n1_
   refine start_ (n := 38) (S := fun w' => w'.cell? ⟨gb273, 0, none⟩ = some (.int .i64 a0_0) ∧ w'.cell? ⟨gb273, 1, none⟩ = some (.int .i64 a0_1) ∧ w'.cell? ⟨gb273, 2, none⟩ = some (.string a0_2) ∧ w'.cell? ⟨gb273, 3, none⟩ = some (.string a0_3)) (ds := []) d14x0 (by kernel_rfl) rfl rfl ⟨(blk_cell BK273.out 0).trans rfl, (blk_cell BK273.out 1).trans rfl, (blk_cell BK273.out 2).trans rfl, (blk_cell BK273.out 3).trans rfl⟩ (fun hHeld => ?_); refine with_tabW headgateref29_Put.tab1 headgateref29_Put.bits1 (fun HT_ HW_ => ?_)
   generalize w5.drew = w13 at BK273 HB hHeld ⊢
   refine pon_ 0 (some 9) d14x2 HT_.out ?_
   refine ptk_ 1 (some 10) d14x9 HT_.out HW_.out hHeld ?_
   refine one_ (i := 2) (N := some 11) d14x10 rfl rfl (one_of HT_.out (by kernel_rfl)) (by decide) (fun K hK => ?_)
   refine goes_ Tryd.func16 (by kernel_rfl) rfl #[.int .i64 a0_0] (by rfl) rfl rfl (by (try simp only [List.map_toArray, List.map_cons, List.map_nil]); first | done | rfl | (simp only [List.length_drop, List.length_take]; rfl)) ?_
   with_reducible refine (headgateref29_Size.calls k a0_0 t274 _ A6.out).mono ?_
   rintro e w' ⟨rfl, ⟨nd, rfl⟩⟩
   refine ⟨_, rfl, ?_⟩
   refine hK.out _ _ ⟨(blk_cell BK273.out 0).trans rfl, (blk_cell BK273.out 1).trans rfl, (blk_cell BK273.out 2).trans rfl, (blk_cell BK273.out 3).trans rfl⟩ (fun hHeld => ?_)
   clear hK K
   refine norm_ (a' := ?_) ?_ ?_
   rotate_left
   ·show Act.put _ (some 11) _ = _
    simp only [Act.put, la_, lb_, lc_, i64_w, i32_w]
    rfl
   refine pon_ 3 (some 12) d14x12 HT_.out ?_
   refine pon_ 4 (some 13) d14x13 HT_.out ?_
   refine pon_ 5 (some 14) d14x15 HT_.out ?_
   refine pon_ 8 (some 17) d14x16 HT_.out ?_
   refine ptk_ 6 (some 15) d14x19 HT_.out HW_.out hHeld ?_
   refine pon_ 7 (some 16) d14x21 HT_.out ?_
   refine ptk_ 9 (some 18) d14x24 HT_.out HW_.out hHeld ?_
   refine one_ (i := 10) (N := some 19) d14x25 rfl rfl (one_of HT_.out (by kernel_rfl)) (by decide) (fun K hK => ?_)
   refine goes_ Tryd.func16 (by kernel_rfl) rfl #[.int .i64 a0_0] (by rfl) rfl rfl (by (try simp only [List.map_toArray, List.map_cons, List.map_nil]); first | done | rfl | (simp only [List.length_drop, List.length_take]; rfl)) ?_
   with_reducible refine (headgateref29_Size.calls k a0_0 t274 _ A9.out).mono ?_
   rintro e w' ⟨rfl, ⟨nd, rfl⟩⟩
   refine ⟨_, rfl, ?_⟩
   refine hK.out _ _ ⟨(blk_cell BK273.out 0).trans rfl, (blk_cell BK273.out 1).trans rfl, (blk_cell BK273.out 2).trans rfl, (blk_cell BK273.out 3).trans rfl⟩ (fun hHeld => ?_)
   clear hK K
   refine norm_ (a' := ?_) ?_ ?_
   rotate_left
   ·show Act.put _ (some 19) _ = _
    simp only [Act.put, la_, lb_, lc_, i64_w, i32_w]
    rfl
   refine pon_ 11 (some 20) d14x26 HT_.out ?_
   refine pon_ 12 (some 21) d14x28 HT_.out ?_
   refine pon_ 13 (some 22) d14x30 HT_.out ?_
   refine pon_ 14 (some 23) d14x31 HT_.out ?_
   refine pon_ 17 (some 26) d14x32 HT_.out ?_
   refine ptk_ 15 (some 24) d14x34 HT_.out HW_.out hHeld ?_
   refine pon_ 16 (some 25) d14x36 HT_.out ?_
   refine ptk_ 18 (some 27) d14x37 HT_.out HW_.out hHeld ?_
   refine one_ (i := 19) (N := some 28) d14x38 rfl rfl (one_of HT_.out (by kernel_rfl)) (by decide) (fun K hK => ?_)
   refine goes_ Tryd.func23 (by kernel_rfl) rfl #[.int .i64 a0_0] (by rfl) rfl rfl (by (try simp only [List.map_toArray, List.map_cons, List.map_nil]); first | done | rfl | (simp only [List.length_drop, List.length_take]; rfl)) ?_
   with_reducible refine (headgateref29_most.calls k a0_0 t276 _ A11.out).mono ?_
   rintro e w' ⟨rfl, ⟨nd, rfl⟩⟩
   refine ⟨_, rfl, ?_⟩
   refine hK.out _ _ ⟨(blk_cell BK273.out 0).trans rfl, (blk_cell BK273.out 1).trans rfl, (blk_cell BK273.out 2).trans rfl, (blk_cell BK273.out 3).trans rfl⟩ (fun hHeld => ?_)
   clear hK K
   refine norm_ (a' := ?_) ?_ ?_
   rotate_left
   ·show Act.put _ (some 28) _ = _
    simp only [Act.put, la_, lb_, lc_, i64_w, i32_w]
    rfl
   refine pon_ 20 (some 29) d14x39 HT_.out ?_
   refine pon_ 21 (some 30) d14x40 HT_.out ?_
   refine pon_ 22 (some 31) d14x41 HT_.out ?_
   refine pof_ 23 (some 32) d14x42 HT_.out ?_
   refine pof_ 24 (some 33) d14x43 HT_.out ?_
   refine pof_ 25 (some 34) d14x44 HT_.out ?_
   refine pon_ 26 (some 35) d14x45 HT_.out ?_
   refine pon_ 27 (some 36) d14x46 HT_.out ?_
   refine pof_ 28 (some 37) d14x47 HT_.out ?_
   refine pof_ 29 (some 38) d14x48 HT_.out ?_
   refine pof_ 30 (some 39) d14x49 HT_.out ?_
   refine pon_ 31 (some 40) d14x50 HT_.out ?_
   refine pon_ 32 (some 41) d14x51 HT_.out ?_
   refine pof_ 33 (some 42) d14x52 HT_.out ?_
   refine pof_ 34 (some 43) d14x53 HT_.out ?_
   refine pof_ 35 (some 44) d14x54 HT_.out ?_
   refine pof_ 36 (some 45) d14x55 HT_.out ?_
   refine pon_ 37 (some 46) d14x56 HT_.out ?_
   refine done_ (done_of HT_.out (by kernel_rfl)) ?_
   try go_wp2
   go_meet
   case rel => exact ⟨_, (true), (by first | rfl | (simp; done) | (simp [*]; done)), H', ⟨by first | omega | exact Nat.le_refl _⟩, ⟨by (with_reducible repeat (first | refine blk_drewN ?_ _ | refine blk_drew ?_ | refine blk_alloc ?_ _)); exact BK273.out⟩, ⟨by repeat (first | (with_reducible first | exact HB.out | apply below_alloc | apply pw_below_drewN | apply below_drew1 | refine below_set ?_ GE273.out) | exact HB.out)⟩⟩
  rw [if_neg c12] at H
  have c12b0 : decide (t276 < (a0_3.size : Int)) = false := decide_eq_false c12
  clear c12
  by_cases c14 : a0_1 < 0
  ·rw [if_pos c14] at H
   have c14b0 : decide (a0_1 < 0) = true := decide_eq_true c14
   clear c14
   have H' := Aside0.mk H
   clear H
   try go_wp2
   have n0_ := Aside0.mk (blk_drew BK273.out)
   have n1_ := Aside0.mk (below_drew1 HB.out)
   clear BK273
   clear HB
   have BK273 := n0_
   have HB := n1_
   clear n0_ n1_
   refine start_ (n := 38) (S := fun w' => w'.cell? ⟨gb273, 0, none⟩ = some (.int .i64 a0_0) ∧ w'.cell? ⟨gb273, 1, none⟩ = some (.int .i64 a0_1) ∧ w'.cell? ⟨gb273, 2, none⟩ = some (.string a0_2) ∧ w'.cell? ⟨gb273, 3, none⟩ = some (.string a0_3)) (ds := []) d14x0 (by kernel_rfl) rfl rfl ⟨(blk_cell BK273.out 0).trans rfl, (blk_cell BK273.out 1).trans rfl, (blk_cell BK273.out 2).trans rfl, (blk_cell BK273.out 3).trans rfl⟩ (fun hHeld => ?_); refine with_tabW headgateref29_Put.tab1 headgateref29_Put.bits1 (fun HT_ HW_ => ?_)
   generalize w5.drew = w15 at BK273 HB hHeld ⊢
   refine pon_ 0 (some 9) d14x2 HT_.out ?_
   refine ptk_ 1 (some 10) d14x9 HT_.out HW_.out hHeld ?_
   refine one_ (i := 2) (N := some 11) d14x10 rfl rfl (one_of HT_.out (by kernel_rfl)) (by decide) (fun K hK => ?_)
   refine goes_ Tryd.func16 (by kernel_rfl) rfl #[.int .i64 a0_0] (by rfl) rfl rfl (by (try simp only [List.map_toArray, List.map_cons, List.map_nil]); first | done | rfl | (simp only [List.length_drop, List.length_take]; rfl)) ?_
   with_reducible refine (headgateref29_Size.calls k a0_0 t274 _ A6.out).mono ?_
   rintro e w' ⟨rfl, ⟨nd, rfl⟩⟩
   refine ⟨_, rfl, ?_⟩
   refine hK.out _ _ ⟨(blk_cell BK273.out 0).trans rfl, (blk_cell BK273.out 1).trans rfl, (blk_cell BK273.out 2).trans rfl, (blk_cell BK273.out 3).trans rfl⟩ (fun hHeld => ?_)
   clear hK K
   refine norm_ (a' := ?_) ?_ ?_
   rotate_left
   ·show Act.put _ (some 11) _ = _
    simp only [Act.put, la_, lb_, lc_, i64_w, i32_w]
    rfl
   refine pon_ 3 (some 12) d14x12 HT_.out ?_
   refine pon_ 4 (some 13) d14x13 HT_.out ?_
   refine pon_ 5 (some 14) d14x15 HT_.out ?_
   refine pon_ 8 (some 17) d14x16 HT_.out ?_
   refine ptk_ 6 (some 15) d14x19 HT_.out HW_.out hHeld ?_
   refine pon_ 7 (some 16) d14x21 HT_.out ?_
   refine ptk_ 9 (some 18) d14x24 HT_.out HW_.out hHeld ?_
   refine one_ (i := 10) (N := some 19) d14x25 rfl rfl (one_of HT_.out (by kernel_rfl)) (by decide) (fun K hK => ?_)
   refine goes_ Tryd.func16 (by kernel_rfl) rfl #[.int .i64 a0_0] (by rfl) rfl rfl (by (try simp only [List.map_toArray, List.map_cons, List.map_nil]); first | done | rfl | (simp only [List.length_drop, List.length_take]; rfl)) ?_
   with_reducible refine (headgateref29_Size.calls k a0_0 t274 _ A9.out).mono ?_
   rintro e w' ⟨rfl, ⟨nd, rfl⟩⟩
   refine ⟨_, rfl, ?_⟩
   refine hK.out _ _ ⟨(blk_cell BK273.out 0).trans rfl, (blk_cell BK273.out 1).trans rfl, (blk_cell BK273.out 2).trans rfl, (blk_cell BK273.out 3).trans rfl⟩ (fun hHeld => ?_)
   clear hK K
   refine norm_ (a' := ?_) ?_ ?_
   rotate_left
   ·show Act.put _ (some 19) _ = _
    simp only [Act.put, la_, lb_, lc_, i64_w, i32_w]
    rfl
   refine pon_ 11 (some 20) d14x26 HT_.out ?_
   refine pon_ 12 (some 21) d14x28 HT_.out ?_
   refine pon_ 13 (some 22) d14x30 HT_.out ?_
   refine pon_ 14 (some 23) d14x31 HT_.out ?_
   refine pon_ 17 (some 26) d14x32 HT_.out ?_
   refine ptk_ 15 (some 24) d14x34 HT_.out HW_.out hHeld ?_
   refine pon_ 16 (some 25) d14x36 HT_.out ?_
   refine ptk_ 18 (some 27) d14x37 HT_.out HW_.out hHeld ?_
   refine one_ (i := 19) (N := some 28) d14x38 rfl rfl (one_of HT_.out (by kernel_rfl)) (by decide) (fun K hK => ?_)
   refine goes_ Tryd.func23 (by kernel_rfl) rfl #[.int .i64 a0_0] (by rfl) rfl rfl (by (try simp only [List.map_toArray, List.map_cons, List.map_nil]); first | done | rfl | (simp only [List.length_drop, List.length_take]; rfl)) ?_
   with_reducible refine (headgateref29_most.calls k a0_0 t276 _ A11.out).mono ?_
   rintro e w' ⟨rfl, ⟨nd, rfl⟩⟩
   refine ⟨_, rfl, ?_⟩
   refine hK.out _ _ ⟨(blk_cell BK273.out 0).trans rfl, (blk_cell BK273.out 1).trans rfl, (blk_cell BK273.out 2).trans rfl, (blk_cell BK273.out 3).trans rfl⟩ (fun hHeld => ?_)
   clear hK K
   refine norm_ (a' := ?_) ?_ ?_
   rotate_left
   ·show Act.put _ (some 28) _ = _
    simp only [Act.put, la_, lb_, lc_, i64_w, i32_w]
    rfl
   refine pon_ 20 (some 29) d14x39 HT_.out ?_
   refine pon_ 21 (some 30) d14x40 HT_.out ?_
   refine pon_ 22 (some 31) d14x41 HT_.out ?_
   refine pon_ 23 (some 32) d14x42 HT_.out ?_
   refine ptk_ 24 (some 33) d14x43 HT_.out HW_.out hHeld ?_
   refine pon_ 25 (some 34) d14x44 HT_.out ?_
   refine pon_ 26 (some 35) d14x45 HT_.out ?_
   refine pon_ 27 (some 36) d14x46 HT_.out ?_
   refine pof_ 28 (some 37) d14x47 HT_.out ?_
   refine pof_ 29 (some 38) d14x48 HT_.out ?_
   refine pof_ 30 (some 39) d14x49 HT_.out ?_
   refine pon_ 31 (some 40) d14x50 HT_.out ?_
   refine pon_ 32 (some 41) d14x51 HT_.out ?_
   refine pof_ 33 (some 42) d14x52 HT_.out ?_
   refine pof_ 34 (some 43) d14x53 HT_.out ?_
   refine pof_ 35 (some 44) d14x54 HT_.out ?_
   refine pof_ 36 (some 45) d14x55 HT_.out ?_
   refine pon_ 37 (some 46) d14x56 HT_.out ?_
   refine done_ (done_of HT_.out (by kernel_rfl)) ?_
   try go_wp2
   go_meet
   case rel => exact ⟨_, (true), (by first | rfl | (simp; done) | (simp [*]; done)), H', ⟨by first | omega | exact Nat.le_refl _⟩, ⟨by (with_reducible repeat (first | refine blk_drewN ?_ _ | refine blk_drew ?_ | refine blk_alloc ?_ _)); exact BK273.out⟩, ⟨by repeat (first | (with_reducible first | exact HB.out | apply below_alloc | apply pw_below_drewN | apply below_drew1 | refine below_set ?_ GE273.out) | exact HB.out)⟩⟩
  rw [if_neg c14] at H
  have c14b0 : decide (a0_1 < 0) = false := decide_eq_false c14
  clear c14
  by_cases c16 : a0_1 > 15
  ·rw [if_pos c16] at H
   have c16b0 : decide (15 < a0_1) = true := decide_eq_true c16
   clear c16
   have H' := Aside0.mk H
   clear H
   try go_wp2
   have n0_ := Aside0.mk (blk_drew BK273.out)
   have n1_ := Aside0.mk (below_drew1 HB.out)
   clear BK273
   clear HB
   have BK273 := n0_
   have HB := n1_
   clear n0_ n1_
   refine start_ (n := 38) (S := fun w' => w'.cell? ⟨gb273, 0, none⟩ = some (.int .i64 a0_0) ∧ w'.cell? ⟨gb273, 1, none⟩ = some (.int .i64 a0_1) ∧ w'.cell? ⟨gb273, 2, none⟩ = some (.string a0_2) ∧ w'.cell? ⟨gb273, 3, none⟩ = some (.string a0_3)) (ds := []) d14x0 (by kernel_rfl) rfl rfl ⟨(blk_cell BK273.out 0).trans rfl, (blk_cell BK273.out 1).trans rfl, (blk_cell BK273.out 2).trans rfl, (blk_cell BK273.out 3).trans rfl⟩ (fun hHeld => ?_); refine with_tabW headgateref29_Put.tab1 headgateref29_Put.bits1 (fun HT_ HW_ => ?_)
   generalize w5.drew = w17 at BK273 HB hHeld ⊢
   refine pon_ 0 (some 9) d14x2 HT_.out ?_
   refine ptk_ 1 (some 10) d14x9 HT_.out HW_.out hHeld ?_
   refine one_ (i := 2) (N := some 11) d14x10 rfl rfl (one_of HT_.out (by kernel_rfl)) (by decide) (fun K hK => ?_)
   refine goes_ Tryd.func16 (by kernel_rfl) rfl #[.int .i64 a0_0] (by rfl) rfl rfl (by (try simp only [List.map_toArray, List.map_cons, List.map_nil]); first | done | rfl | (simp only [List.length_drop, List.length_take]; rfl)) ?_
   with_reducible refine (headgateref29_Size.calls k a0_0 t274 _ A6.out).mono ?_
   rintro e w' ⟨rfl, ⟨nd, rfl⟩⟩
   refine ⟨_, rfl, ?_⟩
   refine hK.out _ _ ⟨(blk_cell BK273.out 0).trans rfl, (blk_cell BK273.out 1).trans rfl, (blk_cell BK273.out 2).trans rfl, (blk_cell BK273.out 3).trans rfl⟩ (fun hHeld => ?_)
   clear hK K
   refine norm_ (a' := ?_) ?_ ?_
   rotate_left
   ·show Act.put _ (some 11) _ = _
    simp only [Act.put, la_, lb_, lc_, i64_w, i32_w]
    rfl
   refine pon_ 3 (some 12) d14x12 HT_.out ?_
   refine pon_ 4 (some 13) d14x13 HT_.out ?_
   refine pon_ 5 (some 14) d14x15 HT_.out ?_
   refine pon_ 8 (some 17) d14x16 HT_.out ?_
   refine ptk_ 6 (some 15) d14x19 HT_.out HW_.out hHeld ?_
   refine pon_ 7 (some 16) d14x21 HT_.out ?_
   refine ptk_ 9 (some 18) d14x24 HT_.out HW_.out hHeld ?_
   refine one_ (i := 10) (N := some 19) d14x25 rfl rfl (one_of HT_.out (by kernel_rfl)) (by decide) (fun K hK => ?_)
   refine goes_ Tryd.func16 (by kernel_rfl) rfl #[.int .i64 a0_0] (by rfl) rfl rfl (by (try simp only [List.map_toArray, List.map_cons, List.map_nil]); first | done | rfl | (simp only [List.length_drop, List.length_take]; rfl)) ?_
   with_reducible refine (headgateref29_Size.calls k a0_0 t274 _ A9.out).mono ?_
   rintro e w' ⟨rfl, ⟨nd, rfl⟩⟩
   refine ⟨_, rfl, ?_⟩
   refine hK.out _ _ ⟨(blk_cell BK273.out 0).trans rfl, (blk_cell BK273.out 1).trans rfl, (blk_cell BK273.out 2).trans rfl, (blk_cell BK273.out 3).trans rfl⟩ (fun hHeld => ?_)
   clear hK K
   refine norm_ (a' := ?_) ?_ ?_
   rotate_left
   ·show Act.put _ (some 19) _ = _
    simp only [Act.put, la_, lb_, lc_, i64_w, i32_w]
    rfl
   refine pon_ 11 (some 20) d14x26 HT_.out ?_
   refine pon_ 12 (some 21) d14x28 HT_.out ?_
   refine pon_ 13 (some 22) d14x30 HT_.out ?_
   refine pon_ 14 (some 23) d14x31 HT_.out ?_
   refine pon_ 17 (some 26) d14x32 HT_.out ?_
   refine ptk_ 15 (some 24) d14x34 HT_.out HW_.out hHeld ?_
   refine pon_ 16 (some 25) d14x36 HT_.out ?_
   refine ptk_ 18 (some 27) d14x37 HT_.out HW_.out hHeld ?_
   refine one_ (i := 19) (N := some 28) d14x38 rfl rfl (one_of HT_.out (by kernel_rfl)) (by decide) (fun K hK => ?_)
   refine goes_ Tryd.func23 (by kernel_rfl) rfl #[.int .i64 a0_0] (by rfl) rfl rfl (by (try simp only [List.map_toArray, List.map_cons, List.map_nil]); first | done | rfl | (simp only [List.length_drop, List.length_take]; rfl)) ?_
   with_reducible refine (headgateref29_most.calls k a0_0 t276 _ A11.out).mono ?_
   rintro e w' ⟨rfl, ⟨nd, rfl⟩⟩
   refine ⟨_, rfl, ?_⟩
   refine hK.out _ _ ⟨(blk_cell BK273.out 0).trans rfl, (blk_cell BK273.out 1).trans rfl, (blk_cell BK273.out 2).trans rfl, (blk_cell BK273.out 3).trans rfl⟩ (fun hHeld => ?_)
   clear hK K
   refine norm_ (a' := ?_) ?_ ?_
   rotate_left
   ·show Act.put _ (some 28) _ = _
    simp only [Act.put, la_, lb_, lc_, i64_w, i32_w]
    rfl
   refine pon_ 20 (some 29) d14x39 HT_.out ?_
   refine pon_ 21 (some 30) d14x40 HT_.out ?_
   refine pon_ 22 (some 31) d14x41 HT_.out ?_
   refine pon_ 23 (some 32) d14x42 HT_.out ?_
   refine ptk_ 24 (some 33) d14x43 HT_.out HW_.out hHeld ?_
   refine pon_ 25 (some 34) d14x44 HT_.out ?_
   refine pon_ 26 (some 35) d14x45 HT_.out ?_
   refine pon_ 27 (some 36) d14x46 HT_.out ?_
   refine pon_ 28 (some 37) d14x47 HT_.out ?_
   refine ptk_ 29 (some 38) d14x48 HT_.out HW_.out hHeld ?_
   refine pon_ 30 (some 39) d14x49 HT_.out ?_
   refine pon_ 31 (some 40) d14x50 HT_.out ?_
   refine pon_ 32 (some 41) d14x51 HT_.out ?_
   refine pof_ 33 (some 42) d14x52 HT_.out ?_
   refine pof_ 34 (some 43) d14x53 HT_.out ?_
   refine pof_ 35 (some 44) d14x54 HT_.out ?_
   refine pof_ 36 (some 45) d14x55 HT_.out ?_
   refine pon_ 37 (some 46) d14x56 HT_.out ?_
   refine done_ (done_of HT_.out (by kernel_rfl)) ?_
   try go_wp2
   go_meet
   case rel => exact ⟨_, (true), (by first | rfl | (simp; done) | (simp [*]; done)), H', ⟨by first | omega | exact Nat.le_refl _⟩, ⟨by (with_reducible repeat (first | refine blk_drewN ?_ _ | refine blk_drew ?_ | refine blk_alloc ?_ _)); exact BK273.out⟩, ⟨by repeat (first | (with_reducible first | exact HB.out | apply below_alloc | apply pw_below_drewN | apply below_drew1 | refine below_set ?_ GE273.out) | exact HB.out)⟩⟩
  rw [if_neg c16] at H
  have c16b0 : decide (15 < a0_1) = false := decide_eq_false c16
  clear c16
  have H' := Aside0.mk H
  clear H
  try go_wp2
  have n0_ := Aside0.mk (blk_drew BK273.out)
  have n1_ := Aside0.mk (below_drew1 HB.out)
  clear BK273
  clear HB
  have BK273 := n0_
  have HB := n1_
  clear n0_ n1_
  refine start_ (n := 38) (S := fun w' => w'.cell? ⟨gb273, 0, none⟩ = some (.int .i64 a0_0) ∧ w'.cell? ⟨gb273, 1, none⟩ = some (.int .i64 a0_1) ∧ w'.cell? ⟨gb273, 2, none⟩ = some (.string a0_2) ∧ w'.cell? ⟨gb273, 3, none⟩ = some (.string a0_3)) (ds := []) d14x0 (by kernel_rfl) rfl rfl ⟨(blk_cell BK273.out 0).trans rfl, (blk_cell BK273.out 1).trans rfl, (blk_cell BK273.out 2).trans rfl, (blk_cell BK273.out 3).trans rfl⟩ (fun hHeld => ?_); refine with_tabW headgateref29_Put.tab1 headgateref29_Put.bits1 (fun HT_ HW_ => ?_)
  generalize w5.drew = w18 at BK273 HB hHeld ⊢
  refine pon_ 0 (some 9) d14x2 HT_.out ?_
  refine ptk_ 1 (some 10) d14x9 HT_.out HW_.out hHeld ?_
  refine one_ (i := 2) (N := some 11) d14x10 rfl rfl (one_of HT_.out (by kernel_rfl)) (by decide) (fun K hK => ?_)
  refine goes_ Tryd.func16 (by kernel_rfl) rfl #[.int .i64 a0_0] (by rfl) rfl rfl (by (try simp only [List.map_toArray, List.map_cons, List.map_nil]); first | done | rfl | (simp only [List.length_drop, List.length_take]; rfl)) ?_
  with_reducible refine (headgateref29_Size.calls k a0_0 t274 _ A6.out).mono ?_
  rintro e w' ⟨rfl, ⟨nd, rfl⟩⟩
  refine ⟨_, rfl, ?_⟩
  refine hK.out _ _ ⟨(blk_cell BK273.out 0).trans rfl, (blk_cell BK273.out 1).trans rfl, (blk_cell BK273.out 2).trans rfl, (blk_cell BK273.out 3).trans rfl⟩ (fun hHeld => ?_)
  clear hK K
  refine norm_ (a' := ?_) ?_ ?_
  rotate_left
  ·show Act.put _ (some 11) _ = _
   simp only [Act.put, la_, lb_, lc_, i64_w, i32_w]
   rfl
  refine pon_ 3 (some 12) d14x12 HT_.out ?_
  refine pon_ 4 (some 13) d14x13 HT_.out ?_
  refine pon_ 5 (some 14) d14x15 HT_.out ?_
  refine pon_ 8 (some 17) d14x16 HT_.out ?_
  refine ptk_ 6 (some 15) d14x19 HT_.out HW_.out hHeld ?_
  refine pon_ 7 (some 16) d14x21 HT_.out ?_
  refine ptk_ 9 (some 18) d14x24 HT_.out HW_.out hHeld ?_
  refine one_ (i := 10) (N := some 19) d14x25 rfl rfl (one_of HT_.out (by kernel_rfl)) (by decide) (fun K hK => ?_)
  refine goes_ Tryd.func16 (by kernel_rfl) rfl #[.int .i64 a0_0] (by rfl) rfl rfl (by (try simp only [List.map_toArray, List.map_cons, List.map_nil]); first | done | rfl | (simp only [List.length_drop, List.length_take]; rfl)) ?_
  with_reducible refine (headgateref29_Size.calls k a0_0 t274 _ A9.out).mono ?_
  rintro e w' ⟨rfl, ⟨nd, rfl⟩⟩
  refine ⟨_, rfl, ?_⟩
  refine hK.out _ _ ⟨(blk_cell BK273.out 0).trans rfl, (blk_cell BK273.out 1).trans rfl, (blk_cell BK273.out 2).trans rfl, (blk_cell BK273.out 3).trans rfl⟩ (fun hHeld => ?_)
  clear hK K
  refine norm_ (a' := ?_) ?_ ?_
  rotate_left
  ·show Act.put _ (some 19) _ = _
   simp only [Act.put, la_, lb_, lc_, i64_w, i32_w]
   rfl
  refine pon_ 11 (some 20) d14x26 HT_.out ?_
  refine pon_ 12 (some 21) d14x28 HT_.out ?_
  refine pon_ 13 (some 22) d14x30 HT_.out ?_
  refine pon_ 14 (some 23) d14x31 HT_.out ?_
  refine pon_ 17 (some 26) d14x32 HT_.out ?_
  refine ptk_ 15 (some 24) d14x34 HT_.out HW_.out hHeld ?_
  refine pon_ 16 (some 25) d14x36 HT_.out ?_
  refine ptk_ 18 (some 27) d14x37 HT_.out HW_.out hHeld ?_
  refine one_ (i := 19) (N := some 28) d14x38 rfl rfl (one_of HT_.out (by kernel_rfl)) (by decide) (fun K hK => ?_)
  refine goes_ Tryd.func23 (by kernel_rfl) rfl #[.int .i64 a0_0] (by rfl) rfl rfl (by (try simp only [List.map_toArray, List.map_cons, List.map_nil]); first | done | rfl | (simp only [List.length_drop, List.length_take]; rfl)) ?_
  with_reducible refine (headgateref29_most.calls k a0_0 t276 _ A11.out).mono ?_
  rintro e w' ⟨rfl, ⟨nd, rfl⟩⟩
  refine ⟨_, rfl, ?_⟩
  refine hK.out _ _ ⟨(blk_cell BK273.out 0).trans rfl, (blk_cell BK273.out 1).trans rfl, (blk_cell BK273.out 2).trans rfl, (blk_cell BK273.out 3).trans rfl⟩ (fun hHeld => ?_)
  clear hK K
  refine norm_ (a' := ?_) ?_ ?_
  rotate_left
  ·show Act.put _ (some 28) _ = _
   simp only [Act.put, la_, lb_, lc_, i64_w, i32_w]
   rfl
  refine pon_ 20 (some 29) d14x39 HT_.out ?_
  refine pon_ 21 (some 30) d14x40 HT_.out ?_
  refine pon_ 22 (some 31) d14x41 HT_.out ?_
  refine pon_ 23 (some 32) d14x42 HT_.out ?_
  refine ptk_ 24 (some 33) d14x43 HT_.out HW_.out hHeld ?_
  refine pon_ 25 (some 34) d14x44 HT_.out ?_
  refine pon_ 26 (some 35) d14x45 HT_.out ?_
  refine pon_ 27 (some 36) d14x46 HT_.out ?_
  refine pon_ 28 (some 37) d14x47 HT_.out ?_
  refine ptk_ 29 (some 38) d14x48 HT_.out HW_.out hHeld ?_
  refine pon_ 30 (some 39) d14x49 HT_.out ?_
  refine pon_ 31 (some 40) d14x50 HT_.out ?_
  refine pon_ 32 (some 41) d14x51 HT_.out ?_
  refine pon_ 33 (some 42) d14x52 HT_.out ?_
  refine ptk_ 34 (some 43) d14x53 HT_.out HW_.out hHeld ?_
  refine pon_ 35 (some 44) d14x54 HT_.out ?_
  refine pon_ 36 (some 45) d14x55 HT_.out ?_
  refine pon_ 37 (some 46) d14x56 HT_.out ?_
  refine done_ (done_of HT_.out (by kernel_rfl)) ?_
  try go_wp2
  go_meet
  case rel => exact ⟨_, (((Int.tmod a0_1 4) != 0)), (by first | rfl | (simp; done) | (simp [*]; done)), H', ⟨by first | omega | exact Nat.le_refl _⟩, ⟨by (with_reducible repeat (first | refine blk_drewN ?_ _ | refine blk_drew ?_ | refine blk_alloc ?_ _)); exact BK273.out⟩, ⟨by repeat (first | (with_reducible first | exact HB.out | apply below_alloc | apply pw_below_drewN | apply below_drew1 | refine below_set ?_ GE273.out) | exact HB.out)⟩⟩
 case rest =>
  clear HC4
  try clear c1
  try clear c2
  try clear p2
  try clear c10
  try clear c10b0
  try clear c10b1
  try clear c16
  try clear c16b0
  obtain ⟨kq, x46_3, rfl, HA, HJ3, BK273, HB⟩ := hcut
  cases kq with
  | zero => exact absurd HA.out (by simp [headgateref29_Put.j0])
  | succ kj3 =>
   have H := HA.out
   clear HA
   simp only [headgateref29_Put.j0] at H
   by_cases c20 : x46_3 = true
   ·subst c20
    have H1 := H
    rw [if_pos rfl] at H1
    clear H
    have H := H1
    clear H1
    simp only [Option.some.injEq, Prod.mk.injEq] at H
    obtain ⟨rfl, rfl⟩ := H
    go_wp2
    go_ret2
    exact ⟨by first | rfl | (simp [errW_none, errW_some] <;> rfl) | (simp [*, errW_none, errW_some] <;> rfl) | (simp [bt, *]; done) | (unfold bt; simp [*]; done), by repeat (first | (with_reducible first | exact HB.out | apply below_alloc | apply pw_below_drewN | apply below_drew1 | refine below_set ?_ GE273.out) | exact HB.out)⟩
   replace c20 := Bool.eq_false_iff.mpr c20
   subst c20
   have H1 := H
   rw [if_neg (show ¬ (false = true) by decide)] at H1
   clear H
   have H := H1
   clear H1
   replace H := Option.bind_eq_some_iff.mp H
   obtain ⟨t277, A210, H⟩ := H
   try dsimp only at H
   have A21 := Aside0.mk A210
   clear A210
   refine neg_first (p := (t277.size + a0_2.size ≤ 9223372036854775807)) (fun c22 => ?_) (fun c22 => ?_)
   ·rw [if_neg c22] at H
    exact absurd H (by simp)

   rw [if_pos c22] at H
   have c22b0 := eq_true c22
   have c22b1 : decide (t277.size + a0_2.size ≤ 9223372036854775807) = true := decide_eq_true c22
   try have c22b2 : (9223372036854775807 < t277.size + a0_2.size) = False := eq_false (Nat.not_lt.2 c22)
   have HC23 := Aside0.mk H
   clear H
   try go_wp2
   have n0_ := Aside0.mk (blk_drew BK273.out)
   have n1_ := Aside0.mk (below_drew1 HB.out)
   clear BK273
   clear HB
   have BK273 := n0_
   have HB := n1_
   clear n0_ n1_
   refine start_ (n := 14) (S := fun w' => w'.cell? ⟨gb273, 0, none⟩ = some (.int .i64 a0_0) ∧ w'.cell? ⟨gb273, 1, none⟩ = some (.int .i64 a0_1) ∧ w'.cell? ⟨gb273, 2, none⟩ = some (.string a0_2) ∧ w'.cell? ⟨gb273, 3, none⟩ = some (.string a0_3)) (ds := []) d14x1 (by kernel_rfl) rfl rfl ⟨(blk_cell BK273.out 0).trans rfl, (blk_cell BK273.out 1).trans rfl, (blk_cell BK273.out 2).trans rfl, (blk_cell BK273.out 3).trans rfl⟩ (fun hHeld => ?_); refine with_tabW headgateref29_Put.tab3 headgateref29_Put.bits3 (fun HT_ HW_ => ?_)
   generalize wc.drew = w24 at BK273 HB hHeld ⊢
   refine pon_ 0 (some 47) d14x3 HT_.out ?_
   refine pon_ 2 (some 49) d14x4 HT_.out ?_
   refine pon_ 4 (some 51) d14x5 HT_.out ?_
   refine pon_ 7 (some 54) d14x6 HT_.out ?_
   refine pon_ 8 (some 55) d14x7 HT_.out ?_
   refine pon_ 10 (some 57) d14x8 HT_.out ?_
   refine ptk_ 1 (some 48) d14x11 HT_.out HW_.out hHeld ?_
   refine ptk_ 3 (some 50) d14x14 HT_.out HW_.out hHeld ?_
   refine ptk_ 5 (some 52) d14x17 HT_.out HW_.out hHeld ?_
   refine pon_ 6 (some 53) d14x22 HT_.out ?_
   refine ptk_ 11 (some 58) d14x23 HT_.out HW_.out hHeld ?_
   refine one_ (i := 9) (N := some 56) d14x27 rfl rfl (one_of HT_.out (by kernel_rfl)) (by decide) (fun K hK => ?_)
   refine goes_ Tryd.func25 (by kernel_rfl) rfl #[.int .i64 a0_0, .int .i64 a0_1, .int .i64 (a0_3.size : Int), .bool a1, .bool a2] (by rfl) rfl rfl (by (try simp only [List.map_toArray, List.map_cons, List.map_nil]); first | done | rfl | (simp only [List.length_drop, List.length_take]; rfl)) ?_
   with_reducible refine (headgateref29_common.calls kj3 a0_0 a0_1 (a0_3.size : Int) a1 a2 t277 _ A21.out).mono ?_
   rintro e w25 ⟨rfl, hb⟩
   refine ⟨_, rfl, ?_⟩
   have n0_ := Aside0.mk (blk_below (g := gb273) (o := .cells #[.int .i64 a0_0, .int .i64 a0_1, .string a0_2, .string a0_3] 24 (0, 0)) (by (with_reducible repeat (first | refine blk_drewN ?_ _ | refine blk_drew ?_ | refine blk_alloc ?_ _)); exact BK273.out) hb)
   have n1_ := Aside0.mk (below_step (by repeat (first | (with_reducible first | exact HB.out | apply below_alloc | apply pw_below_drewN | apply below_drew1 | refine below_set ?_ GE273.out) | exact HB.out)) hb)
   clear BK273
   clear HB
   have BK273 := n0_
   have HB := n1_
   clear n0_ n1_
   (try clear hb)
   (try clear hb2)
   (try clear hk)
   (try clear hi)
   refine hK.out _ _ ⟨(blk_cell BK273.out 0).trans rfl, (blk_cell BK273.out 1).trans rfl, (blk_cell BK273.out 2).trans rfl, (blk_cell BK273.out 3).trans rfl⟩ (fun hHeld => ?_)
   clear hK K
   refine norm_ (a' := ?_) ?_ ?_
   rotate_left
   ·show Act.put _ (some 56) _ = _
    simp only [Act.put, la_, lb_, lc_, i64_w, i32_w]
    rfl
   refine pon_ 12 (some 59) d14x29 HT_.out ?_
   refine pon_ 13 (some 8) d14x57 HT_.out ?_
   refine done_ (done_of HT_.out (by kernel_rfl)) ?_
   go_upto_region 4 with (fail)
   go_cut [65] (fun v65 wc => ∃ (kq : Nat) (x65_22 : Bool), v65 = .bool x65_22 ∧ Aside0 (headgateref29_Put.j1 kq a2 (t277 ++ a0_2) x65_22 a0_0 a0_1 a0_2 a0_3 = some (r1, r2)) ∧ Aside0 (kq ≤ kj3) ∧ Aside0 (wc.heap[gb273]? = some (.cells #[.int .i64 a0_0, .int .i64 a0_1, .string a0_2, .string a0_3] 24 (0, 0))) ∧ Aside0 (Below w.heap.size w wc))
   case first =>
    have H := HC23.out
    clear HC23
    refine neg_first (p := (a1 = true)) (fun c26 => ?_) (fun c26 => ?_)
    ·replace c26 := Bool.eq_false_iff.mpr c26
     subst c26
     have H1 := H
     rw [if_neg (show ¬ (false = true) by decide)] at H1
     clear H
     have H := H1
     clear H1
     have H' := Aside0.mk H
     clear H
     go_wp2
     go_meet
     case rel => exact ⟨_, (false), (by first | rfl | (simp; done) | (simp [*]; done)), H', ⟨by have := HJ3.out; first | omega | exact Nat.le_refl _⟩, ⟨by (with_reducible repeat (first | refine blk_drewN ?_ _ | refine blk_drew ?_ | refine blk_alloc ?_ _)); exact BK273.out⟩, ⟨by repeat (first | (with_reducible first | exact HB.out | apply below_alloc | apply pw_below_drewN | apply below_drew1 | refine below_set ?_ GE273.out) | exact HB.out)⟩⟩
    subst c26
    have H1 := H
    rw [if_pos rfl] at H1
    clear H
    have H := H1
    clear H1
    have H' := Aside0.mk H
    clear H
    have hcz27_0 : w25.cell? ⟨gb273, 0, none⟩ = some (.int .i64 a0_0) := (blk_cell BK273.out 0).trans rfl
    have hcz27_1 : w25.cell? ⟨gb273, 1, none⟩ = some (.int .i64 a0_1) := (blk_cell BK273.out 1).trans rfl
    have hcz27_2 : w25.cell? ⟨gb273, 2, none⟩ = some (.string a0_2) := (blk_cell BK273.out 2).trans rfl
    have hcz27_3 : w25.cell? ⟨gb273, 3, none⟩ = some (.string a0_3) := (blk_cell BK273.out 3).trans rfl
    have hfz27_0 := blk_frozen BK273.out 0
    have hfz27_1 := blk_frozen BK273.out 1
    have hfz27_2 := blk_frozen BK273.out 2
    have hfz27_3 := blk_frozen BK273.out 3
    go_wp2
    go_meet
    case rel => exact ⟨_, (decide (a0_0 > 3)), (by first | rfl | (simp; done) | (simp [*]; done)), H', ⟨by have := HJ3.out; first | omega | exact Nat.le_refl _⟩, ⟨by (with_reducible repeat (first | refine blk_drewN ?_ _ | refine blk_drew ?_ | refine blk_alloc ?_ _)); exact BK273.out⟩, ⟨by repeat (first | (with_reducible first | exact HB.out | apply below_alloc | apply pw_below_drewN | apply below_drew1 | refine below_set ?_ GE273.out) | exact HB.out)⟩⟩
   case rest =>
    clear HC23
    try clear c1
    try clear c2
    try clear p2
    try clear c10
    try clear c10b0
    try clear c10b1
    try clear c16
    try clear c16b0
    try clear c20
    try clear c22
    try clear c22b0
    try clear c22b1
    try clear c22b2
    try clear c25
    try clear c26
    try clear hcz27_0
    try clear hcz27_1
    try clear hcz27_2
    try clear hcz27_3
    try clear hfz27_0
    try clear hfz27_1
    try clear hfz27_2
    try clear hfz27_3
    try clear p2
    obtain ⟨kq, x65_22, rfl, HA, HJ22, BK273, HB⟩ := hcut
    cases kq with
    | zero => exact absurd HA.out (by simp [headgateref29_Put.j1])
    | succ kj22 =>
     have H := HA.out
     clear HA
     simp only [headgateref29_Put.j1] at H
     refine neg_first (p := (x65_22 = true)) (fun c28 => ?_) (fun c28 => ?_)
     ·replace c28 := Bool.eq_false_iff.mpr c28
      subst c28
      have H1 := H
      rw [if_neg (show ¬ (false = true) by decide)] at H1
      clear H
      have H := H1
      clear H1
      refine neg_first (p := ((t277 ++ a0_2).size + a0_3.size ≤ 9223372036854775807)) (fun c46 => ?_) (fun c46 => ?_)
      ·rw [if_neg c46] at H
       exact absurd H (by simp)
      rw [if_pos c46] at H
      have c46b0 := eq_true c46
      have c46b1 : decide ((t277 ++ a0_2).size + a0_3.size ≤ 9223372036854775807) = true := decide_eq_true c46
      try have c46b2 : (9223372036854775807 < (t277 ++ a0_2).size + a0_3.size) = False := eq_false (Nat.not_lt.2 c46)
      (try have c46b4 : (9223372036854775807 < t277.size + a0_2.size + a0_3.size) = False := eq_false (by have h_ := c46; simp only [ByteArray.size_append, ByteArray.size_extract] at h_; omega))
      refine neg_first (p := (a2 = true)) (fun c47 => ?_) (fun c47 => ?_)
      ·replace c47 := Bool.eq_false_iff.mpr c47
       subst c47
       have H1 := H
       rw [if_neg (show ¬ (false = true) by decide)] at H1
       clear H
       have H := H1
       clear H1
       simp only [Option.some.injEq, Prod.mk.injEq] at H
       obtain ⟨rfl, rfl⟩ := H
       have hcz56_0 : wc.cell? ⟨gb273, 0, none⟩ = some (.int .i64 a0_0) := (blk_cell BK273.out 0).trans rfl
       have hcz56_1 : wc.cell? ⟨gb273, 1, none⟩ = some (.int .i64 a0_1) := (blk_cell BK273.out 1).trans rfl
       have hcz56_2 : wc.cell? ⟨gb273, 2, none⟩ = some (.string a0_2) := (blk_cell BK273.out 2).trans rfl
       have hcz56_3 : wc.cell? ⟨gb273, 3, none⟩ = some (.string a0_3) := (blk_cell BK273.out 3).trans rfl
       have hfz56_0 := blk_frozen BK273.out 0
       have hfz56_1 := blk_frozen BK273.out 1
       have hfz56_2 := blk_frozen BK273.out 2
       have hfz56_3 := blk_frozen BK273.out 3
       go_wp2
       go_ret2
       exact ⟨by first | rfl | (simp [errW_none, errW_some] <;> rfl) | (simp [*, errW_none, errW_some] <;> rfl) | (simp [bt, *]; done) | (unfold bt; simp [*]; done), by repeat (first | (with_reducible first | exact HB.out | apply below_alloc | apply pw_below_drewN | apply below_drew1 | refine below_set ?_ GE273.out) | exact HB.out)⟩
      subst c47
      have H1 := H
      rw [if_pos rfl] at H1
      clear H
      have H := H1
      clear H1
      refine neg_first (p := (a0_0 > 3)) (fun c48 => ?_) (fun c48 => ?_)
      ·rw [if_neg c48] at H
       have c48b0 : decide (3 < a0_0) = false := decide_eq_false c48
       clear c48
       simp only [Option.some.injEq, Prod.mk.injEq] at H
       obtain ⟨rfl, rfl⟩ := H
       have hcz55_0 : wc.cell? ⟨gb273, 0, none⟩ = some (.int .i64 a0_0) := (blk_cell BK273.out 0).trans rfl
       have hcz55_1 : wc.cell? ⟨gb273, 1, none⟩ = some (.int .i64 a0_1) := (blk_cell BK273.out 1).trans rfl
       have hcz55_2 : wc.cell? ⟨gb273, 2, none⟩ = some (.string a0_2) := (blk_cell BK273.out 2).trans rfl
       have hcz55_3 : wc.cell? ⟨gb273, 3, none⟩ = some (.string a0_3) := (blk_cell BK273.out 3).trans rfl
       have hfz55_0 := blk_frozen BK273.out 0
       have hfz55_1 := blk_frozen BK273.out 1
       have hfz55_2 := blk_frozen BK273.out 2
       have hfz55_3 := blk_frozen BK273.out 3
       go_wp2
       go_ret2
       exact ⟨by first | rfl | (simp [errW_none, errW_some] <;> rfl) | (simp [*, errW_none, errW_some] <;> rfl) | (simp [bt, *]; done) | (unfold bt; simp [*]; done), by repeat (first | (with_reducible first | exact HB.out | apply below_alloc | apply pw_below_drewN | apply below_drew1 | refine below_set ?_ GE273.out) | exact HB.out)⟩
      rw [if_pos c48] at H
      have c48b0 : decide (3 < a0_0) = true := decide_eq_true c48
      clear c48
      by_cases c49 : a0_3.toList = ([] : List UInt8)
      ·rw [if_pos c49] at H
       have c49b0 : (a0_3.toList == ([] : List UInt8)) = true := beq_iff_eq.mpr c49
       have c49b1 : (a0_3.toList != ([] : List UInt8)) = false := bne_eq_false_iff_eq.mpr c49
       (try (have c49b2 : (a0_3 = ByteArray.empty) = True := eq_true (by have h_ := c49; rw [ByteArray.toList_eq] at h_; exact ByteArray.ext (Array.toList_eq_nil_iff.mp h_))))
       clear c49
       simp only [Option.some.injEq, Prod.mk.injEq] at H
       obtain ⟨rfl, rfl⟩ := H
       have hcz50_0 : wc.cell? ⟨gb273, 0, none⟩ = some (.int .i64 a0_0) := (blk_cell BK273.out 0).trans rfl
       have hcz50_1 : wc.cell? ⟨gb273, 1, none⟩ = some (.int .i64 a0_1) := (blk_cell BK273.out 1).trans rfl
       have hcz50_2 : wc.cell? ⟨gb273, 2, none⟩ = some (.string a0_2) := (blk_cell BK273.out 2).trans rfl
       have hcz50_3 : wc.cell? ⟨gb273, 3, none⟩ = some (.string a0_3) := (blk_cell BK273.out 3).trans rfl
       have hfz50_0 := blk_frozen BK273.out 0
       have hfz50_1 := blk_frozen BK273.out 1
       have hfz50_2 := blk_frozen BK273.out 2
       have hfz50_3 := blk_frozen BK273.out 3
       go_wp2
       go_ret2
       exact ⟨by first | rfl | (simp [errW_none, errW_some] <;> rfl) | (simp [*, errW_none, errW_some] <;> rfl) | (simp [bt, *]; done) | (unfold bt; simp [*]; done), by repeat (first | (with_reducible first | exact HB.out | apply below_alloc | apply pw_below_drewN | apply below_drew1 | refine below_set ?_ GE273.out) | exact HB.out)⟩
      rw [if_neg c49] at H
      have c49b0 : (a0_3.toList == ([] : List UInt8)) = false := beq_eq_false_iff_ne.mpr c49
      have c49b1 : (a0_3.toList != ([] : List UInt8)) = true := bne_iff_ne.mpr c49
      (try (have c49b2 : (a0_3 = ByteArray.empty) = False := eq_false (fun h_ => c49 (by rw [h_, ByteArray.toList_eq]; rfl))))
      replace H := Option.bind_eq_some_iff.mp H
      obtain ⟨t280, A510, H⟩ := H
      try dsimp only at H
      have A51 := Aside0.mk A510
      clear A510
      refine neg_first (p := (((t277 ++ a0_2) ++ a0_3).size + t280.size ≤ 9223372036854775807)) (fun c52 => ?_) (fun c52 => ?_)
      ·rw [if_neg c52] at H
       exact absurd H (by simp)
      rw [if_pos c52] at H
      have c52b0 := eq_true c52
      have c52b1 : decide (((t277 ++ a0_2) ++ a0_3).size + t280.size ≤ 9223372036854775807) = true := decide_eq_true c52
      try have c52b2 : (9223372036854775807 < ((t277 ++ a0_2) ++ a0_3).size + t280.size) = False := eq_false (Nat.not_lt.2 c52)
      (try have c52b4 : (9223372036854775807 < t277.size + a0_2.size + a0_3.size + t280.size) = False := eq_false (by have h_ := c52; simp only [ByteArray.size_append, ByteArray.size_extract] at h_; omega))
      simp only [Option.some.injEq, Prod.mk.injEq] at H
      obtain ⟨rfl, rfl⟩ := H
      have hcz53_0 : wc.cell? ⟨gb273, 0, none⟩ = some (.int .i64 a0_0) := (blk_cell BK273.out 0).trans rfl
      have hcz53_1 : wc.cell? ⟨gb273, 1, none⟩ = some (.int .i64 a0_1) := (blk_cell BK273.out 1).trans rfl
      have hcz53_2 : wc.cell? ⟨gb273, 2, none⟩ = some (.string a0_2) := (blk_cell BK273.out 2).trans rfl
      have hcz53_3 : wc.cell? ⟨gb273, 3, none⟩ = some (.string a0_3) := (blk_cell BK273.out 3).trans rfl
      have hfz53_0 := blk_frozen BK273.out 0
      have hfz53_1 := blk_frozen BK273.out 1
      have hfz53_2 := blk_frozen BK273.out 2
      have hfz53_3 := blk_frozen BK273.out 3
      go_wp2_with (first | ((with_reducible refine gate_callee (f := 26) rfl ?_); refine goesL_ (some 88) rfl rfl Tryd.func26 (by kernel_rfl) rfl #[.string a0_3] rfl (by (try simp only [List.map_toArray, List.map_cons, List.map_nil]); first | done | rfl | (simp only [List.length_drop, List.length_take]; rfl)) ?_; (with_reducible refine (headgateref02_Digest.calls kj22 a0_3 t280 _ A51.out).mono ?_); rintro e w54 ⟨rfl, hb⟩; refine ⟨_, rfl, ?_⟩; have n0_ := Aside0.mk (blk_below (g := gb273) (o := .cells #[.int .i64 a0_0, .int .i64 a0_1, .string a0_2, .string a0_3] 24 (0, 0)) (by (with_reducible repeat (first | refine blk_drewN ?_ _ | refine blk_drew ?_ | refine blk_alloc ?_ _)); exact BK273.out) hb); have n1_ := Aside0.mk (below_step (by repeat (first | (with_reducible first | exact HB.out | apply below_alloc | apply pw_below_drewN | apply below_drew1 | refine below_set ?_ GE273.out) | exact HB.out)) hb); clear BK273; clear HB; have BK273 := n0_; have HB := n1_; clear n0_ n1_; (try clear hb); (try clear hb2); (try clear hk); (try clear hi)))
      go_ret2
      exact ⟨by first | rfl | (simp [errW_none, errW_some] <;> rfl) | (simp [*, errW_none, errW_some] <;> rfl) | (simp [bt, *]; done) | (unfold bt; simp [*]; done), by repeat (first | (with_reducible first | exact HB.out | apply below_alloc | apply pw_below_drewN | apply below_drew1 | refine below_set ?_ GE273.out) | exact HB.out)⟩
     subst c28
     have H1 := H
     rw [if_pos rfl] at H1
     clear H
     have H := H1
     clear H1
     replace H := Option.bind_eq_some_iff.mp H
     obtain ⟨t278, A290, H⟩ := H
     try dsimp only at H
     have A29 := Aside0.mk A290
     clear A290
     refine neg_first (p := ((t277 ++ a0_2).size + t278.size ≤ 9223372036854775807)) (fun c30 => ?_) (fun c30 => ?_)
     ·rw [if_neg c30] at H
      exact absurd H (by simp)
     rw [if_pos c30] at H
     have c30b0 := eq_true c30
     have c30b1 : decide ((t277 ++ a0_2).size + t278.size ≤ 9223372036854775807) = true := decide_eq_true c30
     try have c30b2 : (9223372036854775807 < (t277 ++ a0_2).size + t278.size) = False := eq_false (Nat.not_lt.2 c30)
     (try have c30b4 : (9223372036854775807 < t277.size + a0_2.size + t278.size) = False := eq_false (by have h_ := c30; simp only [ByteArray.size_append, ByteArray.size_extract] at h_; omega))
     refine neg_first (p := (((t277 ++ a0_2) ++ t278).size + a0_3.size ≤ 9223372036854775807)) (fun c31 => ?_) (fun c31 => ?_)
     ·rw [if_neg c31] at H
      exact absurd H (by simp)
     rw [if_pos c31] at H
     have c31b0 := eq_true c31
     have c31b1 : decide (((t277 ++ a0_2) ++ t278).size + a0_3.size ≤ 9223372036854775807) = true := decide_eq_true c31
     try have c31b2 : (9223372036854775807 < ((t277 ++ a0_2) ++ t278).size + a0_3.size) = False := eq_false (Nat.not_lt.2 c31)
     (try have c31b4 : (9223372036854775807 < t277.size + a0_2.size + t278.size + a0_3.size) = False := eq_false (by have h_ := c31; simp only [ByteArray.size_append, ByteArray.size_extract] at h_; omega))
     refine neg_first (p := (a2 = true)) (fun c32 => ?_) (fun c32 => ?_)
     ·replace c32 := Bool.eq_false_iff.mpr c32
      subst c32
      have H1 := H
      rw [if_neg (show ¬ (false = true) by decide)] at H1
      clear H
      have H := H1
      clear H1
      simp only [Option.some.injEq, Prod.mk.injEq] at H
      obtain ⟨rfl, rfl⟩ := H
      go_wp2_with (first | ((with_reducible refine gate_callee (f := 26) rfl ?_); refine goesL_ (some 68) rfl rfl Tryd.func26 (by kernel_rfl) rfl #[.string (t277 ++ a0_2)] rfl (by (try simp only [List.map_toArray, List.map_cons, List.map_nil]); first | done | rfl | (simp only [List.length_drop, List.length_take]; rfl)) ?_; (with_reducible refine (headgateref02_Digest.calls kj22 (t277 ++ a0_2) t278 _ A29.out).mono ?_); rintro e w44 ⟨rfl, hb⟩; refine ⟨_, rfl, ?_⟩; have n0_ := Aside0.mk (blk_below (g := gb273) (o := .cells #[.int .i64 a0_0, .int .i64 a0_1, .string a0_2, .string a0_3] 24 (0, 0)) (by (with_reducible repeat (first | refine blk_drewN ?_ _ | refine blk_drew ?_ | refine blk_alloc ?_ _)); exact BK273.out) hb); have n1_ := Aside0.mk (below_step (by repeat (first | (with_reducible first | exact HB.out | apply below_alloc | apply pw_below_drewN | apply below_drew1 | refine below_set ?_ GE273.out) | exact HB.out)) hb); clear BK273; clear HB; have BK273 := n0_; have HB := n1_; clear n0_ n1_; (try clear hb); (try clear hb2); (try clear hk); (try clear hi); have hcz45_0 : w44.cell? ⟨gb273, 0, none⟩ = some (.int .i64 a0_0) := (blk_cell BK273.out 0).trans rfl; have hcz45_1 : w44.cell? ⟨gb273, 1, none⟩ = some (.int .i64 a0_1) := (blk_cell BK273.out 1).trans rfl; have hcz45_2 : w44.cell? ⟨gb273, 2, none⟩ = some (.string a0_2) := (blk_cell BK273.out 2).trans rfl; have hcz45_3 : w44.cell? ⟨gb273, 3, none⟩ = some (.string a0_3) := (blk_cell BK273.out 3).trans rfl; have hfz45_0 := blk_frozen BK273.out 0; have hfz45_1 := blk_frozen BK273.out 1; have hfz45_2 := blk_frozen BK273.out 2; have hfz45_3 := blk_frozen BK273.out 3))
      go_ret2
      exact ⟨by first | rfl | (simp [errW_none, errW_some] <;> rfl) | (simp [*, errW_none, errW_some] <;> rfl) | (simp [bt, *]; done) | (unfold bt; simp [*]; done), by repeat (first | (with_reducible first | exact HB.out | apply below_alloc | apply pw_below_drewN | apply below_drew1 | refine below_set ?_ GE273.out) | exact HB.out)⟩
     subst c32
     have H1 := H
     rw [if_pos rfl] at H1
     clear H
     have H := H1
     clear H1
     refine neg_first (p := (a0_0 > 3)) (fun c33 => ?_) (fun c33 => ?_)
     ·rw [if_neg c33] at H
      have c33b0 : decide (3 < a0_0) = false := decide_eq_false c33
      clear c33
      simp only [Option.some.injEq, Prod.mk.injEq] at H
      obtain ⟨rfl, rfl⟩ := H
      go_wp2_with (first | ((with_reducible refine gate_callee (f := 26) rfl ?_); refine goesL_ (some 68) rfl rfl Tryd.func26 (by kernel_rfl) rfl #[.string (t277 ++ a0_2)] rfl (by (try simp only [List.map_toArray, List.map_cons, List.map_nil]); first | done | rfl | (simp only [List.length_drop, List.length_take]; rfl)) ?_; (with_reducible refine (headgateref02_Digest.calls kj22 (t277 ++ a0_2) t278 _ A29.out).mono ?_); rintro e w42 ⟨rfl, hb⟩; refine ⟨_, rfl, ?_⟩; have n0_ := Aside0.mk (blk_below (g := gb273) (o := .cells #[.int .i64 a0_0, .int .i64 a0_1, .string a0_2, .string a0_3] 24 (0, 0)) (by (with_reducible repeat (first | refine blk_drewN ?_ _ | refine blk_drew ?_ | refine blk_alloc ?_ _)); exact BK273.out) hb); have n1_ := Aside0.mk (below_step (by repeat (first | (with_reducible first | exact HB.out | apply below_alloc | apply pw_below_drewN | apply below_drew1 | refine below_set ?_ GE273.out) | exact HB.out)) hb); clear BK273; clear HB; have BK273 := n0_; have HB := n1_; clear n0_ n1_; (try clear hb); (try clear hb2); (try clear hk); (try clear hi); have hcz43_0 : w42.cell? ⟨gb273, 0, none⟩ = some (.int .i64 a0_0) := (blk_cell BK273.out 0).trans rfl; have hcz43_1 : w42.cell? ⟨gb273, 1, none⟩ = some (.int .i64 a0_1) := (blk_cell BK273.out 1).trans rfl; have hcz43_2 : w42.cell? ⟨gb273, 2, none⟩ = some (.string a0_2) := (blk_cell BK273.out 2).trans rfl; have hcz43_3 : w42.cell? ⟨gb273, 3, none⟩ = some (.string a0_3) := (blk_cell BK273.out 3).trans rfl; have hfz43_0 := blk_frozen BK273.out 0; have hfz43_1 := blk_frozen BK273.out 1; have hfz43_2 := blk_frozen BK273.out 2; have hfz43_3 := blk_frozen BK273.out 3))
      go_ret2
      exact ⟨by first | rfl | (simp [errW_none, errW_some] <;> rfl) | (simp [*, errW_none, errW_some] <;> rfl) | (simp [bt, *]; done) | (unfold bt; simp [*]; done), by repeat (first | (with_reducible first | exact HB.out | apply below_alloc | apply pw_below_drewN | apply below_drew1 | refine below_set ?_ GE273.out) | exact HB.out)⟩
     rw [if_pos c33] at H
     have c33b0 : decide (3 < a0_0) = true := decide_eq_true c33
     clear c33
     by_cases c34 : a0_3.toList = ([] : List UInt8)
     ·rw [if_pos c34] at H
      have c34b0 : (a0_3.toList == ([] : List UInt8)) = true := beq_iff_eq.mpr c34
      have c34b1 : (a0_3.toList != ([] : List UInt8)) = false := bne_eq_false_iff_eq.mpr c34
      (try (have c34b2 : (a0_3 = ByteArray.empty) = True := eq_true (by have h_ := c34; rw [ByteArray.toList_eq] at h_; exact ByteArray.ext (Array.toList_eq_nil_iff.mp h_))))
      clear c34
      simp only [Option.some.injEq, Prod.mk.injEq] at H
      obtain ⟨rfl, rfl⟩ := H
      go_wp2_with (first | ((with_reducible refine gate_callee (f := 26) rfl ?_); refine goesL_ (some 68) rfl rfl Tryd.func26 (by kernel_rfl) rfl #[.string (t277 ++ a0_2)] rfl (by (try simp only [List.map_toArray, List.map_cons, List.map_nil]); first | done | rfl | (simp only [List.length_drop, List.length_take]; rfl)) ?_; (with_reducible refine (headgateref02_Digest.calls kj22 (t277 ++ a0_2) t278 _ A29.out).mono ?_); rintro e w35 ⟨rfl, hb⟩; refine ⟨_, rfl, ?_⟩; have n0_ := Aside0.mk (blk_below (g := gb273) (o := .cells #[.int .i64 a0_0, .int .i64 a0_1, .string a0_2, .string a0_3] 24 (0, 0)) (by (with_reducible repeat (first | refine blk_drewN ?_ _ | refine blk_drew ?_ | refine blk_alloc ?_ _)); exact BK273.out) hb); have n1_ := Aside0.mk (below_step (by repeat (first | (with_reducible first | exact HB.out | apply below_alloc | apply pw_below_drewN | apply below_drew1 | refine below_set ?_ GE273.out) | exact HB.out)) hb); clear BK273; clear HB; have BK273 := n0_; have HB := n1_; clear n0_ n1_; (try clear hb); (try clear hb2); (try clear hk); (try clear hi); have hcz36_0 : w35.cell? ⟨gb273, 0, none⟩ = some (.int .i64 a0_0) := (blk_cell BK273.out 0).trans rfl; have hcz36_1 : w35.cell? ⟨gb273, 1, none⟩ = some (.int .i64 a0_1) := (blk_cell BK273.out 1).trans rfl; have hcz36_2 : w35.cell? ⟨gb273, 2, none⟩ = some (.string a0_2) := (blk_cell BK273.out 2).trans rfl; have hcz36_3 : w35.cell? ⟨gb273, 3, none⟩ = some (.string a0_3) := (blk_cell BK273.out 3).trans rfl; have hfz36_0 := blk_frozen BK273.out 0; have hfz36_1 := blk_frozen BK273.out 1; have hfz36_2 := blk_frozen BK273.out 2; have hfz36_3 := blk_frozen BK273.out 3))
      go_ret2
      exact ⟨by first | rfl | (simp [errW_none, errW_some] <;> rfl) | (simp [*, errW_none, errW_some] <;> rfl) | (simp [bt, *]; done) | (unfold bt; simp [*]; done), by repeat (first | (with_reducible first | exact HB.out | apply below_alloc | apply pw_below_drewN | apply below_drew1 | refine below_set ?_ GE273.out) | exact HB.out)⟩
     rw [if_neg c34] at H
     have c34b0 : (a0_3.toList == ([] : List UInt8)) = false := beq_eq_false_iff_ne.mpr c34
     have c34b1 : (a0_3.toList != ([] : List UInt8)) = true := bne_iff_ne.mpr c34
     (try (have c34b2 : (a0_3 = ByteArray.empty) = False := eq_false (fun h_ => c34 (by rw [h_, ByteArray.toList_eq]; rfl))))
     replace H := Option.bind_eq_some_iff.mp H
     obtain ⟨t279, A370, H⟩ := H
     try dsimp only at H
     have A37 := Aside0.mk A370
     clear A370
     refine neg_first (p := ((((t277 ++ a0_2) ++ t278) ++ a0_3).size + t279.size ≤ 9223372036854775807)) (fun c38 => ?_) (fun c38 => ?_)
     ·rw [if_neg c38] at H
      exact absurd H (by simp)
     rw [if_pos c38] at H
     have c38b0 := eq_true c38
     have c38b1 : decide ((((t277 ++ a0_2) ++ t278) ++ a0_3).size + t279.size ≤ 9223372036854775807) = true := decide_eq_true c38
     try have c38b2 : (9223372036854775807 < (((t277 ++ a0_2) ++ t278) ++ a0_3).size + t279.size) = False := eq_false (Nat.not_lt.2 c38)
     (try have c38b4 : (9223372036854775807 < t277.size + a0_2.size + t278.size + a0_3.size + t279.size) = False := eq_false (by have h_ := c38; simp only [ByteArray.size_append, ByteArray.size_extract] at h_; omega))
     simp only [Option.some.injEq, Prod.mk.injEq] at H
     obtain ⟨rfl, rfl⟩ := H
     go_wp2_with (first | ((with_reducible refine gate_callee (f := 26) rfl ?_); refine goesL_ (some 68) rfl rfl Tryd.func26 (by kernel_rfl) rfl #[.string (t277 ++ a0_2)] rfl (by (try simp only [List.map_toArray, List.map_cons, List.map_nil]); first | done | rfl | (simp only [List.length_drop, List.length_take]; rfl)) ?_; (with_reducible refine (headgateref02_Digest.calls kj22 (t277 ++ a0_2) t278 _ A29.out).mono ?_); rintro e w39 ⟨rfl, hb⟩; refine ⟨_, rfl, ?_⟩; have n0_ := Aside0.mk (blk_below (g := gb273) (o := .cells #[.int .i64 a0_0, .int .i64 a0_1, .string a0_2, .string a0_3] 24 (0, 0)) (by (with_reducible repeat (first | refine blk_drewN ?_ _ | refine blk_drew ?_ | refine blk_alloc ?_ _)); exact BK273.out) hb); have n1_ := Aside0.mk (below_step (by repeat (first | (with_reducible first | exact HB.out | apply below_alloc | apply pw_below_drewN | apply below_drew1 | refine below_set ?_ GE273.out) | exact HB.out)) hb); clear BK273; clear HB; have BK273 := n0_; have HB := n1_; clear n0_ n1_; (try clear hb); (try clear hb2); (try clear hk); (try clear hi); have hcz40_0 : w39.cell? ⟨gb273, 0, none⟩ = some (.int .i64 a0_0) := (blk_cell BK273.out 0).trans rfl; have hcz40_1 : w39.cell? ⟨gb273, 1, none⟩ = some (.int .i64 a0_1) := (blk_cell BK273.out 1).trans rfl; have hcz40_2 : w39.cell? ⟨gb273, 2, none⟩ = some (.string a0_2) := (blk_cell BK273.out 2).trans rfl; have hcz40_3 : w39.cell? ⟨gb273, 3, none⟩ = some (.string a0_3) := (blk_cell BK273.out 3).trans rfl; have hfz40_0 := blk_frozen BK273.out 0; have hfz40_1 := blk_frozen BK273.out 1; have hfz40_2 := blk_frozen BK273.out 2; have hfz40_3 := blk_frozen BK273.out 3) | ((with_reducible refine gate_callee (f := 26) rfl ?_); refine goesL_ (some 88) rfl rfl Tryd.func26 (by kernel_rfl) rfl #[.string a0_3] rfl (by (try simp only [List.map_toArray, List.map_cons, List.map_nil]); first | done | rfl | (simp only [List.length_drop, List.length_take]; rfl)) ?_; (with_reducible refine (headgateref02_Digest.calls kj22 a0_3 t279 _ A37.out).mono ?_); rintro e w41 ⟨rfl, hb⟩; refine ⟨_, rfl, ?_⟩; have n0_ := Aside0.mk (blk_below (g := gb273) (o := .cells #[.int .i64 a0_0, .int .i64 a0_1, .string a0_2, .string a0_3] 24 (0, 0)) (by (with_reducible repeat (first | refine blk_drewN ?_ _ | refine blk_drew ?_ | refine blk_alloc ?_ _)); exact BK273.out) hb); have n1_ := Aside0.mk (below_step (by repeat (first | (with_reducible first | exact HB.out | apply below_alloc | apply pw_below_drewN | apply below_drew1 | refine below_set ?_ GE273.out) | exact HB.out)) hb); clear BK273; clear HB; have BK273 := n0_; have HB := n1_; clear n0_ n1_; (try clear hb); (try clear hb2); (try clear hk); (try clear hi)))
     go_ret2
     exact ⟨by first | rfl | (simp [errW_none, errW_some] <;> rfl) | (simp [*, errW_none, errW_some] <;> rfl) | (simp [bt, *]; done) | (unfold bt; simp [*]; done), by repeat (first | (with_reducible first | exact HB.out | apply below_alloc | apply pw_below_drewN | apply below_drew1 | refine below_set ?_ GE273.out) | exact HB.out)⟩
end Go.Proofs.YtkbjhblffbcleaaDoor.P
