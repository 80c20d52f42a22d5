-- written by this session's patched copy of the printer (wip/tools/patch_print.py); Lean checks it
import Derived.Test.YtjogkfcjlljjcaaDoorXaResvGoods
namespace Go.Proofs.YtjogkfcjlljjcaaDoor.P
open Go.RowKit Go.Proofs.YtjogkfcjlljjcaaDoorW.PrintWords Go.Proofs.YtjogkfcjlljjcaaDoorW.PrintLast Go.Proofs.YtjogkfcjlljjcaaDoorW.PrintMore
attribute [local go_sem] max2_int min2_int max_two min_two max_three min_three max_four min_four   -- for this text's walks alone
set_option linter.unusedVariables false
set_option linter.unusedSimpArgs false
set_option linter.unnecessarySimpa false

/-! ### headgatelaw11_ResvGoods: function 8 -/
def headgatelaw11_ResvGoods.j0 : Nat → ByteArray → Bool → List (S53) → Int → ByteArray → Int → Bool → Option (Bool)
 | 0, _, _, _, _, _, _, _ => none
 | k + 1, x1, x12, x520000, x520001, x520002, x520003, x520004 => if x12 = true then ((headgatelaw11_wakes.f k).bind fun t521 => (some t521)) else ((headgatekeep_CopyTable.f x520000 x520001 x520002 x520003 x520004).bind fun bt522 => ((resv_Good.f bt522.1 bt522.2.1 bt522.2.2.1 bt522.2.2.2.1 bt522.2.2.2.2).bind fun t530 => ((headgateref11_Good.f k x520000 x520001 x520002 x520003 x520004).bind fun t531 => (if (t530 == t531) = true then ((resv_Key.f k bt522.1 bt522.2.1 bt522.2.2.1 bt522.2.2.2.1 bt522.2.2.2.2 x1).bind fun t532 => ((headgateref11_Key.f k x520000 x520001 x520002 x520003 x520004 x1).bind fun t533 => (if t532 = t533 then ((resv_Power.f bt522.1 bt522.2.1 bt522.2.2.1 bt522.2.2.2.1 bt522.2.2.2.2).bind fun bt534 => ((headgateref11_Power.f k x520000 x520001 x520002 x520003 x520004).bind fun bt541 => ((headgatekeep_Tables.f k bt534.1 bt534.2.1 bt534.2.2.1 bt534.2.2.2.1 bt534.2.2.2.2 bt541.1 bt541.2.1 bt541.2.2.1 bt541.2.2.2.1 bt541.2.2.2.2).bind fun t548 => (if t548 = true then ((headgatekeep_Tables.f k bt522.1 bt522.2.1 bt522.2.2.1 bt522.2.2.2.1 bt522.2.2.2.2 x520000 x520001 x520002 x520003 x520004).bind fun t549 => (if t549 = true then ((headgatelaw11_wakes.f k).bind fun t550 => (some t550)) else (some false))) else (some false))))) else (some false)))) else (some false)))))
def headgatelaw11_ResvGoods.f (k : Nat) (l0_0 : List (S53)) (a0_1 : Int) (a0_2 : ByteArray) (a0_3 : Int) (a0_4 : Bool) (a1 : ByteArray) : Option (Bool) := (headgatelaw10_Large.f k l0_0 a0_1 a0_2 a0_3 a0_4).bind fun t520 => (if t520 = true then (headgatelaw11_ResvGoods.j0 k a1 true l0_0 a0_1 a0_2 a0_3 a0_4) else (headgatelaw11_ResvGoods.j0 k a1 (decide ((a1.size : Int) > 1000)) l0_0 a0_1 a0_2 a0_3 a0_4))
theorem headgatelaw11_ResvGoods.mono_l : ∀ k, (∀ y0 y1 y2 y3 y4 y5 y6, LeO (headgatelaw11_ResvGoods.j0 k y0 y1 y2 y3 y4 y5 y6) (headgatelaw11_ResvGoods.j0 (k + 1) y0 y1 y2 y3 y4 y5 y6))
 | 0 => fun _ _ _ _ _ _ _ r h => by simp [headgatelaw11_ResvGoods.j0] at h
 | k + 1 => by
  have ih0 := headgatelaw11_ResvGoods.mono_l k
  ·intro y0 y1 y2 y3 y4 y5 y6
   unfold headgatelaw11_ResvGoods.j0
   repeat' first
   | (with_reducible exact ih0 _ _ _ _ _ _ _)
   | (with_reducible exact headgatekeep_Tables.mono _ _ _ _ _ _ _ _ _ _ _)
   | (with_reducible exact headgatelaw10_Large.mono _ _ _ _ _ _)
   | (with_reducible exact headgatelaw11_wakes.mono _)
   | (with_reducible exact headgateref11_Good.mono _ _ _ _ _ _)
   | (with_reducible exact headgateref11_Key.mono _ _ _ _ _ _ _)
   | (with_reducible exact headgateref11_Power.mono _ _ _ _ _ _)
   | (with_reducible exact resv_Key.mono _ _ _ _ _ _ _)
   | (with_reducible exact LeO.refl _)
   | (with_reducible exact LeO.none _)
   | (with_reducible refine LeO.ite ?_ ?_)
   | (with_reducible refine LeO.bind ?_ (fun _ => ?_))
   | exact ih0 _ _ _ _ _ _ _
   | exact headgatekeep_Tables.mono _ _ _ _ _ _ _ _ _ _ _
   | exact headgatelaw10_Large.mono _ _ _ _ _ _
   | exact headgatelaw11_wakes.mono _
   | exact headgateref11_Good.mono _ _ _ _ _ _
   | exact headgateref11_Key.mono _ _ _ _ _ _ _
   | exact headgateref11_Power.mono _ _ _ _ _ _
   | exact resv_Key.mono _ _ _ _ _ _ _
   | exact LeO.none _
   | refine LeO.ite ?_ ?_
   | refine LeO.bind ?_ (fun _ => ?_)
theorem headgatelaw11_ResvGoods.mono : ∀ a0 a1 a2 a3 a4 a5 k, LeO (headgatelaw11_ResvGoods.f k a0 a1 a2 a3 a4 a5) (headgatelaw11_ResvGoods.f (k + 1) a0 a1 a2 a3 a4 a5) := by
 intro a0 a1 a2 a3 a4 a5 k
 have ih0 := headgatelaw11_ResvGoods.mono_l k
 unfold headgatelaw11_ResvGoods.f
 repeat' first
   | (with_reducible exact ih0 _ _ _ _ _ _ _)
   | (with_reducible exact headgatekeep_Tables.mono _ _ _ _ _ _ _ _ _ _ _)
   | (with_reducible exact headgatelaw10_Large.mono _ _ _ _ _ _)
   | (with_reducible exact headgatelaw11_wakes.mono _)
   | (with_reducible exact headgateref11_Good.mono _ _ _ _ _ _)
   | (with_reducible exact headgateref11_Key.mono _ _ _ _ _ _ _)
   | (with_reducible exact headgateref11_Power.mono _ _ _ _ _ _)
   | (with_reducible exact resv_Key.mono _ _ _ _ _ _ _)
   | (with_reducible exact LeO.refl _)
   | (with_reducible exact LeO.none _)
   | (with_reducible refine LeO.ite ?_ ?_)
   | (with_reducible refine LeO.bind ?_ (fun _ => ?_))
   | exact ih0 _ _ _ _ _ _ _
   | exact headgatekeep_Tables.mono _ _ _ _ _ _ _ _ _ _ _
   | exact headgatelaw10_Large.mono _ _ _ _ _ _
   | exact headgatelaw11_wakes.mono _
   | exact headgateref11_Good.mono _ _ _ _ _ _
   | exact headgateref11_Key.mono _ _ _ _ _ _ _
   | exact headgateref11_Power.mono _ _ _ _ _ _
   | exact resv_Key.mono _ _ _ _ _ _ _
   | exact LeO.none _
   | refine LeO.ite ?_ ?_
   | refine LeO.bind ?_ (fun _ => ?_)
def headgatelaw11_ResvGoods.T4 : Bool × List (List Nat × List Nat) := (true, [([], []), ([0], [0]), ([], []), ([2, 1], [2]), ([1, 3], [1, 3]), ([4, 3], [4]), ([5], [5]), ([5], [5]), ([6, 7, 5, 5], [5, 6, 7]), ([5], [5]), ([5], [5]), ([9, 10, 8, 5], [5, 9, 10]), ([8, 11, 5], [5, 8, 11]), ([5, 12], [5, 12]), ([13, 11], [13]), ([14], [14]), ([15, 14, 14], [14, 15]), ([14], [14]), ([17, 16, 14], [14, 17]), ([16, 18, 18, 14], [14, 16, 18]), ([14, 19], [14, 19]), ([20, 19], [20]), ([21], [21]), ([21], [21]), ([22, 23, 21, 21], [21, 22, 23]), ([21, 24], [21, 24]), ([25, 24], [25]), ([26, 26], [26]), ([26, 27], [26, 27]), ([28, 27, 0, 1, 2, 3, 4, 5, 6, 7, 8, 9, 10, 11, 12, 13, 14, 15, 16, 17, 18, 19, 20, 21, 22, 23, 24, 25, 26, 27, 28], [28])])
def headgatelaw11_ResvGoods.B4 : List Nat := [0, 1, 0, 7, 15, 31, 63, 63, 255, 63, 63, 2047, 4095, 8191, 16383, 32767, 65535, 32767, 262143, 524287, 1048575, 2097151, 4194303, 4194303, 16777215, 33554431, 67108863, 134217727, 268435455, 536870911]
theorem headgatelaw11_ResvGoods.tab4 : rtab .any (opsOf Tryd.f8 4) = headgatelaw11_ResvGoods.T4 := by kernel_rfl
theorem headgatelaw11_ResvGoods.bits4 : waitsOk headgatelaw11_ResvGoods.T4.2 headgatelaw11_ResvGoods.B4 = true := by kernel_rfl
abbrev d8x0 : Array Bool := #[false, false, false, false, false, false, false, false, false, false, false, false, false, false, false, false, false, false, false, false, false, false, false, false, false, false, false, false, false, false]
abbrev d8x1 : Array Bool := dB 30 1
abbrev d8x2 : Array Bool := dB 30 5
abbrev d8x3 : Array Bool := dB 30 7
abbrev d8x4 : Array Bool := dB 30 15
abbrev d8x5 : Array Bool := dB 30 31
abbrev d8x6 : Array Bool := dB 30 63
abbrev d8x7 : Array Bool := dB 30 191
abbrev d8x8 : Array Bool := dB 30 1215
abbrev d8x9 : Array Bool := dB 30 1279
abbrev d8x10 : Array Bool := dB 30 1791
abbrev d8x11 : Array Bool := dB 30 2047
abbrev d8x12 : Array Bool := dB 30 4095
abbrev d8x13 : Array Bool := dB 30 8191
abbrev d8x14 : Array Bool := dB 30 16383
abbrev d8x15 : Array Bool := dB 30 32767
abbrev d8x16 : Array Bool := dB 30 65535
abbrev d8x17 : Array Bool := dB 30 196607
abbrev d8x18 : Array Bool := dB 30 262143
abbrev d8x19 : Array Bool := dB 30 524287
abbrev d8x20 : Array Bool := dB 30 1048575
abbrev d8x21 : Array Bool := dB 30 2097151
abbrev d8x22 : Array Bool := dB 30 4194303
abbrev d8x23 : Array Bool := dB 30 8388607
abbrev d8x24 : Array Bool := dB 30 16777215
abbrev d8x25 : Array Bool := dB 30 33554431
abbrev d8x26 : Array Bool := dB 30 67108863
abbrev d8x27 : Array Bool := dB 30 134217727
abbrev d8x28 : Array Bool := dB 30 268435455
abbrev d8x29 : Array Bool := dB 30 536870911
abbrev d8x30 : Array Bool := dB 30 1073741823
set_option maxHeartbeats 8000000 in
set_option maxRecDepth 100000 in
theorem headgatelaw11_ResvGoods.calls (k : Nat) (A0_0 : Option Addr) (c0_0 : Nat) (l0_0 : List (S53)) (a0_1 : Int) (a0_2 : ByteArray) (a0_3 : Int) (a0_4 : Bool) (a1 : ByteArray) (r : Bool) (w : World) (hr0_0 : Kd.C k53 w A0_0 l0_0.length l0_0) (hc0_0 : l0_0.length ≤ c0_0) (hG : Glob w) (hT : r = true) (h : headgatelaw11_ResvGoods.f k l0_0 a0_1 a0_2 a0_3 a0_4 a1 = some r) :
  Calls Tryd.prog 8 #[.agg #[.slice A0_0 l0_0.length c0_0, .int .i64 a0_1, .string a0_2, .int .u32 a0_3, .bool a0_4], .string a1] w fun e w' => e = .returned (.bool r) ∧ Below w.heap.size w w' := by
 have hu27 := Tryd.underlying27
 have HT0 := Aside0.mk hT
 clear hT
 have HG := Aside0.mk hG
 clear hG
 have HR0_0 := Aside0.mk hr0_0
 have HC0_0 := Aside0.mk hc0_0
 clear hr0_0 hc0_0
 have HB := Aside0.mk (Below.refl w.heap.size w)
 have H : ((headgatelaw10_Large.f k l0_0 a0_1 a0_2 a0_3 a0_4).bind fun t520 => (if t520 = true then (headgatelaw11_ResvGoods.j0 k a1 true l0_0 a0_1 a0_2 a0_3 a0_4) else (headgatelaw11_ResvGoods.j0 k a1 (decide ((a1.size : Int) > 1000)) l0_0 a0_1 a0_2 a0_3 a0_4))) = some r := h
 clear h
 have HC3 := Aside0.mk H
 clear H
 go_enter Tryd.func8, Tryd.ntmps8
 go_upto_region 1 with (first | ((with_reducible refine gate_dst (N := 2) rfl ?_); refine box_event ?hg (N := 2) ?hd (cs := #[.slice A0_0 l0_0.length c0_0, .int .i64 a0_1, .string a0_2, .int .u32 a0_3, .bool a0_4]) (t := 27) ?hr ?_; (case hd => rfl); (case hg => rfl); (case hr => first | (go_simp; done) | (go_simp; rfl)); intro gb519 hg w4 hbox hb; have n0_ := Aside0.mk (below_step (hb_ HB) hb); have n1_ := Aside0.mk (hbox); have n2_ := Aside0.mk ((by rw [hg]; exact (below_size (hb_ HB)) : w.heap.size ≤ gb519)); have n3_ := Aside0.mk ((by rw [hg]; exact (below_size (hb_ HB)) : w.heap.size ≤ gb519)); clear HB; have HB := n0_; have BK519 := n1_; have GW519 := n2_; have GE519 := n3_; clear n0_ n1_ n2_ n3_; clear hb hbox hg))
 (try simp only [Act.put, la_, lb_, lc_])
 go_cut [12] (fun v12 wc => ∃ (kq : Nat) (x12_2 : Bool), v12 = .bool x12_2 ∧ Aside0 (headgatelaw11_ResvGoods.j0 kq a1 x12_2 l0_0 a0_1 a0_2 a0_3 a0_4 = some r) ∧ Aside0 (kq ≤ k) ∧ Aside0 (wc.heap[gb519]? = some (.cells #[(.slice A0_0 l0_0.length c0_0), .int .i64 a0_1, .string a0_2, .int .u32 a0_3, .bool a0_4] 27 (0, 0))) ∧ Aside0 (Below w.heap.size w wc))
 case first =>
  have H := HC3.out
  clear HC3
  replace H := Option.bind_eq_some_iff.mp H
  obtain ⟨t520, A50, H⟩ := H
  try dsimp only at H
  have A5 := Aside0.mk A50
  clear A50
  by_cases c6 : t520 = true
  ·subst c6
   have H1 := H
   rw [if_pos rfl] at H1
   clear H
   have H := H1
   clear H1
   have H' := Aside0.mk H
   clear H
   have hcz7_0 : w4.cell? ⟨gb519, 0, none⟩ = some (.slice A0_0 l0_0.length c0_0) := (blk_cell BK519.out 0).trans rfl
   have hcz7_1 : w4.cell? ⟨gb519, 1, none⟩ = some (.int .i64 a0_1) := (blk_cell BK519.out 1).trans rfl
   have hcz7_2 : w4.cell? ⟨gb519, 2, none⟩ = some (.string a0_2) := (blk_cell BK519.out 2).trans rfl
   have hcz7_3 : w4.cell? ⟨gb519, 3, none⟩ = some (.int .u32 a0_3) := (blk_cell BK519.out 3).trans rfl
   have hcz7_4 : w4.cell? ⟨gb519, 4, none⟩ = some (.bool a0_4) := (blk_cell BK519.out 4).trans rfl
   have hfz7_0 := blk_frozen BK519.out 0
   have hfz7_1 := blk_frozen BK519.out 1
   have hfz7_2 := blk_frozen BK519.out 2
   have hfz7_3 := blk_frozen BK519.out 3
   have hfz7_4 := blk_frozen BK519.out 4
   go_wp2_with (first | ((with_reducible refine gate_callee (f := 11) rfl ?_); refine goesL_ (some 7) rfl rfl Tryd.func11 (by kernel_rfl) rfl #[.agg #[.slice A0_0 l0_0.length c0_0, .int .i64 a0_1, .string a0_2, .int .u32 a0_3, .bool a0_4]] rfl (by (try simp only [List.map_toArray, List.map_cons, List.map_nil]); first | done | rfl | (simp only [List.length_drop, List.length_take]; rfl)) ?_; (with_reducible refine (headgatelaw10_Large.calls k _ _ l0_0 a0_1 a0_2 a0_3 a0_4 true _ ?side1 ?side2 A5.out).mono ?_); (case side1 => repeat (first | exact (Kd.C_below HR0_0.out HB.out) | (with_reducible refine Kd.C_alloc ?_ _) | (with_reducible refine Kd.C_drewN ?_ _) | (with_reducible refine Kd.C_drew ?_))); (case side2 => exact HC0_0.out); rintro e w8 ⟨rfl, hb⟩; refine ⟨_, rfl, ?_⟩; have n0_ := Aside0.mk (blk_below (bk_ BK519) hb); have n1_ := Aside0.mk (below_step (hb_ HB) hb); clear BK519; clear HB; have BK519 := n0_; have HB := n1_; clear n0_ n1_; (try clear hb); (try clear hb2); (try clear hk); (try clear hi)))
   go_meet
   case rel => exact ⟨_, (true), (by first | rfl | (simp; done) | (simp [*]; done)), H', ⟨by first | omega | exact Nat.le_refl _⟩, ⟨bk_ BK519⟩, ⟨hb_ HB⟩⟩
  replace c6 := Bool.eq_false_iff.mpr c6
  subst c6
  have H1 := H
  rw [if_neg (show ¬ (false = true) by decide)] at H1
  clear H
  have H := H1
  clear H1
  have H' := Aside0.mk H
  clear H
  have hcz9_0 : w4.cell? ⟨gb519, 0, none⟩ = some (.slice A0_0 l0_0.length c0_0) := (blk_cell BK519.out 0).trans rfl
  have hcz9_1 : w4.cell? ⟨gb519, 1, none⟩ = some (.int .i64 a0_1) := (blk_cell BK519.out 1).trans rfl
  have hcz9_2 : w4.cell? ⟨gb519, 2, none⟩ = some (.string a0_2) := (blk_cell BK519.out 2).trans rfl
  have hcz9_3 : w4.cell? ⟨gb519, 3, none⟩ = some (.int .u32 a0_3) := (blk_cell BK519.out 3).trans rfl
  have hcz9_4 : w4.cell? ⟨gb519, 4, none⟩ = some (.bool a0_4) := (blk_cell BK519.out 4).trans rfl
  have hfz9_0 := blk_frozen BK519.out 0
  have hfz9_1 := blk_frozen BK519.out 1
  have hfz9_2 := blk_frozen BK519.out 2
  have hfz9_3 := blk_frozen BK519.out 3
  have hfz9_4 := blk_frozen BK519.out 4
  go_wp2_with (first | ((with_reducible refine gate_callee (f := 11) rfl ?_); refine goesL_ (some 7) rfl rfl Tryd.func11 (by kernel_rfl) rfl #[.agg #[.slice A0_0 l0_0.length c0_0, .int .i64 a0_1, .string a0_2, .int .u32 a0_3, .bool a0_4]] rfl (by (try simp only [List.map_toArray, List.map_cons, List.map_nil]); first | done | rfl | (simp only [List.length_drop, List.length_take]; rfl)) ?_; (with_reducible refine (headgatelaw10_Large.calls k _ _ l0_0 a0_1 a0_2 a0_3 a0_4 false _ ?side1 ?side2 A5.out).mono ?_); (case side1 => repeat (first | exact (Kd.C_below HR0_0.out HB.out) | (with_reducible refine Kd.C_alloc ?_ _) | (with_reducible refine Kd.C_drewN ?_ _) | (with_reducible refine Kd.C_drew ?_))); (case side2 => exact HC0_0.out); rintro e w10 ⟨rfl, hb⟩; refine ⟨_, rfl, ?_⟩; have n0_ := Aside0.mk (blk_below (bk_ BK519) hb); have n1_ := Aside0.mk (below_step (hb_ HB) hb); clear BK519; clear HB; have BK519 := n0_; have HB := n1_; clear n0_ n1_; (try clear hb); (try clear hb2); (try clear hk); (try clear hi)))
  go_meet
  case rel => exact ⟨_, (decide ((a1.size : Int) > 1000)), (by first | rfl | (simp; done) | (simp [*]; done)), H', ⟨by first | omega | exact Nat.le_refl _⟩, ⟨bk_ BK519⟩, ⟨hb_ HB⟩⟩
 case rest =>
  clear HC3
  try clear c1
  try clear p2
  try clear c6
  try clear c8
  try clear hcz7_0
  try clear hcz7_1
  try clear hcz7_2
  try clear hcz7_3
  try clear hcz7_4
  try clear hcz9_0
  try clear hcz9_1
  try clear hcz9_2
  try clear hcz9_3
  try clear hcz9_4
  try clear hfz7_0
  try clear hfz7_1
  try clear hfz7_2
  try clear hfz7_3
  try clear hfz7_4
  try clear hfz9_0
  try clear hfz9_1
  try clear hfz9_2
  try clear hfz9_3
  try clear hfz9_4
  obtain ⟨kq, x12_2, rfl, HA, HJ2, BK519, HB⟩ := hcut
  cases kq with
  | zero => exact absurd HA.out (by simp [headgatelaw11_ResvGoods.j0])
  | succ kj2 =>
   have H := HA.out
   clear HA
   simp only [headgatelaw11_ResvGoods.j0] at H
   by_cases c11 : x12_2 = true
   ·subst c11
    have H1 := H
    rw [if_pos rfl] at H1
    clear H
    have H := H1
    clear H1
    replace H := Option.bind_eq_some_iff.mp H
    obtain ⟨t521, A120, H⟩ := H
    try dsimp only at H
    have A12 := Aside0.mk A120
    clear A120
    obtain rfl := Option.some.inj H
    go_wp2_with (first | ((with_reducible refine gate_callee (f := 13) rfl ?_); refine goesL_ (some 13) rfl rfl Tryd.func13 (by kernel_rfl) rfl #[] rfl (by (try simp only [List.map_toArray, List.map_cons, List.map_nil]); first | done | rfl | (simp only [List.length_drop, List.length_take]; rfl)) ?_; (with_reducible refine (headgatelaw11_wakes.calls kj2  t521 _ ?side1 A12.out).mono ?_); (case side1 => first | ((refine Glob.keep HG.out ?_); (repeat (first | (with_reducible first | exact HB.out | apply below_alloc | apply pw_below_drewN | apply below_drew1 | refine below_set ?_ GE519.out) | exact HB.out)); done) | exact HG.out); rintro e w13 ⟨rfl, hb⟩; refine ⟨_, rfl, ?_⟩; have n0_ := Aside0.mk (blk_below (bk_ BK519) hb); have n1_ := Aside0.mk (below_step (hb_ HB) hb); clear BK519; clear HB; have BK519 := n0_; have HB := n1_; clear n0_ n1_; (try clear hb); (try clear hb2); (try clear hk); (try clear hi)))
    go_ret
    exact ⟨by first | rfl | (simp [errW_none, errW_some] <;> rfl) | (simp [*, errW_none, errW_some] <;> rfl) | (simp [bt, *]; done) | (unfold bt; simp [*]; done), by repeat (first | (with_reducible first | exact HB.out | apply below_alloc | apply pw_below_drewN | apply below_drew1 | refine below_set ?_ GE519.out) | exact HB.out)⟩
   replace c11 := Bool.eq_false_iff.mpr c11
   subst c11
   have H1 := H
   rw [if_neg (show ¬ (false = true) by decide)] at H1
   clear H
   have H := H1
   clear H1
   replace H := Option.bind_eq_some_iff.mp H
   obtain ⟨⟨t522, t525, t526, t527, t528⟩, A140, H⟩ := H
   try dsimp only at H
   have A14 := Aside0.mk A140
   clear A140
   replace H := Option.bind_eq_some_iff.mp H
   obtain ⟨t530, A150, H⟩ := H
   try dsimp only at H
   have A15 := Aside0.mk A150
   clear A150
   replace H := Option.bind_eq_some_iff.mp H
   obtain ⟨t531, A160, H⟩ := H
   try dsimp only at H
   have A16 := Aside0.mk A160
   clear A160
   refine neg_first (p := ((t530 == t531) = true)) (fun c17 => ?_) (fun c17 => ?_)
   ·rw [if_neg c17] at H
    have c17b0 : (t530 == t531) = false := by simpa using c17
    (try (have c17b1 : decide (t530 = t531) = false := by simpa using c17))
    (try (have c17b2 : (t530 == t531) = false := by simpa using c17))
    (try (have c17b3 : ¬ (t530 = t531) := by simpa using c17))
    clear c17
    exact absurd ((Option.some.inj H).trans HT0.out) (by decide)

   rw [if_pos c17] at H
   have c17b0 : (t530 == t531) = true := c17
   (try (have c17b1 : decide (t530 = t531) = true := by simpa using c17))
   (try (have c17b2 : (t530 == t531) = true := by simpa using c17))
   clear c17
   replace H := Option.bind_eq_some_iff.mp H
   obtain ⟨t532, A180, H⟩ := H
   try dsimp only at H
   have A18 := Aside0.mk A180
   clear A180
   replace H := Option.bind_eq_some_iff.mp H
   obtain ⟨t533, A190, H⟩ := H
   try dsimp only at H
   have A19 := Aside0.mk A190
   clear A190
   refine neg_first (p := (t532 = t533)) (fun c20 => ?_) (fun c20 => ?_)
   ·rw [if_neg c20] at H
    have c20b0 : (t532 == t533) = false := beq_eq_false_iff_ne.mpr c20
    have c20b1 : (t532 != t533) = true := bne_iff_ne.mpr c20
    exact absurd ((Option.some.inj H).trans HT0.out) (by decide)
   rw [if_pos c20] at H
   have c20b0 : (t532 == t533) = true := beq_iff_eq.mpr c20
   have c20b1 : (t532 != t533) = false := bne_eq_false_iff_eq.mpr c20
   clear c20
   replace H := Option.bind_eq_some_iff.mp H
   obtain ⟨⟨t534, t537, t538, t539, t540⟩, A210, H⟩ := H
   try dsimp only at H
   have A21 := Aside0.mk A210
   clear A210
   replace H := Option.bind_eq_some_iff.mp H
   obtain ⟨⟨t541, t544, t545, t546, t547⟩, A220, H⟩ := H
   try dsimp only at H
   have A22 := Aside0.mk A220
   clear A220
   replace H := Option.bind_eq_some_iff.mp H
   obtain ⟨t548, A230, H⟩ := H
   try dsimp only at H
   have A23 := Aside0.mk A230
   clear A230
   refine neg_first (p := (t548 = true)) (fun c24 => ?_) (fun c24 => ?_)
   ·replace c24 := Bool.eq_false_iff.mpr c24
    subst c24
    have H1 := H
    rw [if_neg (show ¬ (false = true) by decide)] at H1
    clear H
    have H := H1
    clear H1
    exact absurd ((Option.some.inj H).trans HT0.out) (by decide)
   subst c24
   have H1 := H
   rw [if_pos rfl] at H1
   clear H
   have H := H1
   clear H1
   replace H := Option.bind_eq_some_iff.mp H
   obtain ⟨t549, A250, H⟩ := H
   try dsimp only at H
   have A25 := Aside0.mk A250
   clear A250
   refine neg_first (p := (t549 = true)) (fun c26 => ?_) (fun c26 => ?_)
   ·replace c26 := Bool.eq_false_iff.mpr c26
    subst c26
    have H1 := H
    rw [if_neg (show ¬ (false = true) by decide)] at H1
    clear H
    have H := H1
    clear H1
    exact absurd ((Option.some.inj H).trans HT0.out) (by decide)
   subst c26
   have H1 := H
   rw [if_pos rfl] at H1
   clear H
   have H := H1
   clear H1
   replace H := Option.bind_eq_some_iff.mp H
   obtain ⟨t550, A270, H⟩ := H
   try dsimp only at H
   have A27 := Aside0.mk A270
   clear A270
   obtain rfl := Option.some.inj H
   have hcz28_0 : wc.cell? ⟨gb519, 0, none⟩ = some (.slice A0_0 l0_0.length c0_0) := (blk_cell BK519.out 0).trans rfl
   have hcz28_1 : wc.cell? ⟨gb519, 1, none⟩ = some (.int .i64 a0_1) := (blk_cell BK519.out 1).trans rfl
   have hcz28_2 : wc.cell? ⟨gb519, 2, none⟩ = some (.string a0_2) := (blk_cell BK519.out 2).trans rfl
   have hcz28_3 : wc.cell? ⟨gb519, 3, none⟩ = some (.int .u32 a0_3) := (blk_cell BK519.out 3).trans rfl
   have hcz28_4 : wc.cell? ⟨gb519, 4, none⟩ = some (.bool a0_4) := (blk_cell BK519.out 4).trans rfl
   have hfz28_0 := blk_frozen BK519.out 0
   have hfz28_1 := blk_frozen BK519.out 1
   have hfz28_2 := blk_frozen BK519.out 2
   have hfz28_3 := blk_frozen BK519.out 3
   have hfz28_4 := blk_frozen BK519.out 4
   try go_wp2_with (first | ((with_reducible refine gate_callee (f := 14) rfl ?_); refine goesL_ (some 15) rfl rfl Tryd.func14 (by kernel_rfl) rfl #[.agg #[.slice A0_0 l0_0.length c0_0, .int .i64 a0_1, .string a0_2, .int .u32 a0_3, .bool a0_4]] rfl (by (try simp only [List.map_toArray, List.map_cons, List.map_nil]); first | done | rfl | (simp only [List.length_drop, List.length_take]; rfl)) ?_; (with_reducible refine (headgatekeep_CopyTable.calls _ _ l0_0 a0_1 a0_2 a0_3 a0_4 t522 t525 t526 t527 t528 _ ?side1 ?side2 A14.out).mono ?_); (case side1 => repeat (first | exact (Kd.C_below HR0_0.out HB.out) | (with_reducible refine Kd.C_alloc ?_ _) | (with_reducible refine Kd.C_drewN ?_ _) | (with_reducible refine Kd.C_drew ?_))); (case side2 => exact HC0_0.out); rintro e w29 ⟨v523, rfl, ho0, hb⟩; refine ⟨_, rfl, ?_⟩; have n0_ := Aside0.mk (Kd.R_lower ho0 (below_size (hb_ HB))); have n1_ := Aside0.mk (blk_below (bk_ BK519) hb); have n2_ := Aside0.mk (below_step (hb_ HB) hb); clear BK519; clear HB; have HO524 := n0_; have BK519 := n1_; have HB := n2_; clear n0_ n1_ n2_; (try clear hb); (try clear hb2); (try clear hk); (try clear hi); (try clear ho0)) | ((with_reducible refine gate_dst (N := 5) rfl ?_); refine box_event ?hg (N := 5) ?hd (cs := #[.slice none 0 0, .int .i64 0, .string (⟨#[]⟩ : ByteArray), .int .u32 0, .bool false]) (t := 27) ?hr ?_; (case hd => rfl); (case hg => rfl); (case hr => first | (go_simp; done) | (go_simp; rfl)); intro gb529 hg w30 hbox hb; have n0_ := Aside0.mk (Kd.R_below (by (with_reducible repeat (first | apply Kd.R_alloc | apply Kd.R_drewN | apply Kd.R_drew)); exact HO524.out) hb); have n1_ := Aside0.mk (blk_below (bk_ BK519) hb); have n2_ := Aside0.mk (below_step (hb_ HB) hb); have n3_ := Aside0.mk (hbox); have n4_ := Aside0.mk ((by rw [hg]; exact (below_size (hb_ HB)) : w.heap.size ≤ gb529)); have n5_ := Aside0.mk ((by rw [hg]; exact (below_size (hb_ HB)) : w.heap.size ≤ gb529)); have n6_ := Aside0.mk ((by rw [hg]; exact Nat.ne_of_lt (blk_lt (g := gb519) (o := .cells #[.slice A0_0 l0_0.length c0_0, .int .i64 a0_1, .string a0_2, .int .u32 a0_3, .bool a0_4] 27 (0, 0)) (bk_ BK519)) : gb519 ≠ gb529)); have n7_ := Aside0.mk ((by rw [hg]; exact Nat.ne_of_gt (blk_lt (g := gb519) (o := .cells #[.slice A0_0 l0_0.length c0_0, .int .i64 a0_1, .string a0_2, .int .u32 a0_3, .bool a0_4] 27 (0, 0)) (bk_ BK519)) : gb529 ≠ gb519)); clear HO524; clear BK519; clear HB; have HO524 := n0_; have BK519 := n1_; have HB := n2_; have BK529 := n3_; have GW529 := n4_; have GE529 := n5_; have NB519_529 := n6_; have NB529_519 := n7_; clear n0_ n1_ n2_ n3_ n4_ n5_ n6_ n7_; clear hb hbox hg; obtain ⟨Ao31, co31, eo31⟩ := Kd.R_slice HO524.out; subst eo31; have hnb32 := NB529_519.out; have hnc32 := NB519_529.out; have hcz33_0 : w30.cell? ⟨gb529, 0, none⟩ = some (.slice none 0 0) := (blk_cell BK529.out 0).trans rfl; have hcz33_1 : w30.cell? ⟨gb529, 1, none⟩ = some (.int .i64 0) := (blk_cell BK529.out 1).trans rfl; have hcz33_2 : w30.cell? ⟨gb529, 2, none⟩ = some (.string (⟨#[]⟩ : ByteArray)) := (blk_cell BK529.out 2).trans rfl; have hcz33_3 : w30.cell? ⟨gb529, 3, none⟩ = some (.int .u32 0) := (blk_cell BK529.out 3).trans rfl; have hcz33_4 : w30.cell? ⟨gb529, 4, none⟩ = some (.bool false) := (blk_cell BK529.out 4).trans rfl; have hfz33_0 := blk_frozen BK529.out 0; have hfz33_1 := blk_frozen BK529.out 1; have hfz33_2 := blk_frozen BK529.out 2; have hfz33_3 := blk_frozen BK529.out 3; have hfz33_4 := blk_frozen BK529.out 4))
   have n0_ : Aside0 (Kd.R k53 53 (((((w30.setCell ⟨gb529, 0, none⟩ (.slice Ao31 t522.length co31)).setCell ⟨gb529, 1, none⟩ (.int .i64 t525)).setCell ⟨gb529, 2, none⟩ (.string t526)).setCell ⟨gb529, 3, none⟩ (.int .u32 t527)).setCell ⟨gb529, 4, none⟩ (.bool t528)) w.heap.size (fun _ => True) (.slice Ao31 t522.length co31) t522) := ⟨by (with_reducible repeat (first | apply Kd.R_alloc | apply Kd.R_drewN | apply Kd.R_drew)); exact Kd.R_mono (Kd.R_far (p := ⟨gb529, 4, none⟩) (Kd.R_far (p := ⟨gb529, 3, none⟩) (Kd.R_far (p := ⟨gb529, 2, none⟩) (Kd.R_far (p := ⟨gb529, 1, none⟩) (Kd.R_far (p := ⟨gb529, 0, none⟩) (Kd.R_types HO524.out BK529.out (by decide)) (fun _ hk => hk.2) (.slice Ao31 t522.length co31)) (fun _ hk => hk.2) (.int .i64 t525)) (fun _ hk => hk.2) (.string t526)) (fun _ hk => hk.2) (.int .u32 t527)) (fun _ hk => hk.2) (.bool t528)) (fun _ hk => trivial)⟩
   have n1_ : Aside0 ((((((w30.setCell ⟨gb529, 0, none⟩ (.slice Ao31 t522.length co31)).setCell ⟨gb529, 1, none⟩ (.int .i64 t525)).setCell ⟨gb529, 2, none⟩ (.string t526)).setCell ⟨gb529, 3, none⟩ (.int .u32 t527)).setCell ⟨gb529, 4, none⟩ (.bool t528)).heap[gb519]? = some (.cells #[.slice A0_0 l0_0.length c0_0, .int .i64 a0_1, .string a0_2, .int .u32 a0_3, .bool a0_4] 27 (0, 0))) := ⟨by (with_reducible repeat (first | refine blk_drewN ?_ _ | refine blk_drew ?_ | refine blk_alloc ?_ _ | refine blk_far ?_ NB519_529.out _)); exact BK519.out⟩
   have n2_ : Aside0 ((((((w30.setCell ⟨gb529, 0, none⟩ (.slice Ao31 t522.length co31)).setCell ⟨gb529, 1, none⟩ (.int .i64 t525)).setCell ⟨gb529, 2, none⟩ (.string t526)).setCell ⟨gb529, 3, none⟩ (.int .u32 t527)).setCell ⟨gb529, 4, none⟩ (.bool t528)).heap[gb529]? = some (.cells #[.slice Ao31 t522.length co31, .int .i64 t525, .string t526, .int .u32 t527, .bool t528] 27 (0, 0))) := ⟨by (with_reducible repeat (first | refine blk_drewN ?_ _ | refine blk_drew ?_ | refine blk_alloc ?_ _)); refine blk_put (cs := #[.slice Ao31 t522.length co31, .int .i64 t525, .string t526, .int .u32 t527, .bool false]) ?_ 4 _ rfl; (with_reducible repeat (first | refine blk_drewN ?_ _ | refine blk_drew ?_ | refine blk_alloc ?_ _)); refine blk_put (cs := #[.slice Ao31 t522.length co31, .int .i64 t525, .string t526, .int .u32 0, .bool false]) ?_ 3 _ rfl; (with_reducible repeat (first | refine blk_drewN ?_ _ | refine blk_drew ?_ | refine blk_alloc ?_ _)); refine blk_put (cs := #[.slice Ao31 t522.length co31, .int .i64 t525, .string (⟨#[]⟩ : ByteArray), .int .u32 0, .bool false]) ?_ 2 _ rfl; (with_reducible repeat (first | refine blk_drewN ?_ _ | refine blk_drew ?_ | refine blk_alloc ?_ _)); refine blk_put (cs := #[.slice Ao31 t522.length co31, .int .i64 0, .string (⟨#[]⟩ : ByteArray), .int .u32 0, .bool false]) ?_ 1 _ rfl; (with_reducible repeat (first | refine blk_drewN ?_ _ | refine blk_drew ?_ | refine blk_alloc ?_ _)); refine blk_put (cs := #[.slice none 0 0, .int .i64 0, .string (⟨#[]⟩ : ByteArray), .int .u32 0, .bool false]) ?_ 0 _ rfl; (with_reducible repeat (first | refine blk_drewN ?_ _ | refine blk_drew ?_ | refine blk_alloc ?_ _)); exact BK529.out⟩
   have n3_ : Aside0 (Below w.heap.size w (((((w30.setCell ⟨gb529, 0, none⟩ (.slice Ao31 t522.length co31)).setCell ⟨gb529, 1, none⟩ (.int .i64 t525)).setCell ⟨gb529, 2, none⟩ (.string t526)).setCell ⟨gb529, 3, none⟩ (.int .u32 t527)).setCell ⟨gb529, 4, none⟩ (.bool t528))) := ⟨hb_ HB⟩
   (try clear HO524)
   (try clear BK519)
   (try clear BK529)
   (try clear HB)
   generalize (((((w30.setCell ⟨gb529, 0, none⟩ (.slice Ao31 t522.length co31)).setCell ⟨gb529, 1, none⟩ (.int .i64 t525)).setCell ⟨gb529, 2, none⟩ (.string t526)).setCell ⟨gb529, 3, none⟩ (.int .u32 t527)).setCell ⟨gb529, 4, none⟩ (.bool t528)) = w34 at n0_ n1_ n2_ n3_ ⊢
   have HO524 := n0_
   have BK519 := n1_
   have BK529 := n2_
   have HB := n3_
   clear n0_ n1_ n2_ n3_
   have n0_ := Aside0.mk (Kd.R_drew HO524.out)
   have n1_ := Aside0.mk (blk_drew BK519.out)
   have n2_ := Aside0.mk (blk_drew BK529.out)
   have n3_ := Aside0.mk (below_drew1 HB.out)
   clear HO524
   clear BK519
   clear BK529
   clear HB
   have HO524 := n0_
   have BK519 := n1_
   have BK529 := n2_
   have HB := n3_
   clear n0_ n1_ n2_ n3_
   refine start_ (n := 30) (S := fun w' => w'.cell? ⟨gb529, 0, none⟩ = some (.slice Ao31 t522.length co31) ∧ w'.cell? ⟨gb529, 1, none⟩ = some (.int .i64 t525) ∧ w'.cell? ⟨gb529, 2, none⟩ = some (.string t526) ∧ w'.cell? ⟨gb529, 3, none⟩ = some (.int .u32 t527) ∧ w'.cell? ⟨gb529, 4, none⟩ = some (.bool t528) ∧ w'.cell? ⟨gb519, 0, none⟩ = some (.slice A0_0 l0_0.length c0_0) ∧ w'.cell? ⟨gb519, 1, none⟩ = some (.int .i64 a0_1) ∧ w'.cell? ⟨gb519, 2, none⟩ = some (.string a0_2) ∧ w'.cell? ⟨gb519, 3, none⟩ = some (.int .u32 a0_3) ∧ w'.cell? ⟨gb519, 4, none⟩ = some (.bool a0_4)) (ds := []) d8x0 (by kernel_rfl) rfl rfl ⟨(blk_cell BK529.out 0).trans rfl, (blk_cell BK529.out 1).trans rfl, (blk_cell BK529.out 2).trans rfl, (blk_cell BK529.out 3).trans rfl, (blk_cell BK529.out 4).trans rfl, (blk_cell BK519.out 0).trans rfl, (blk_cell BK519.out 1).trans rfl, (blk_cell BK519.out 2).trans rfl, (blk_cell BK519.out 3).trans rfl, (blk_cell BK519.out 4).trans rfl⟩ (fun hHeld => ?_); refine with_tabW headgatelaw11_ResvGoods.tab4 headgatelaw11_ResvGoods.bits4 (fun HT_ HW_ => ?_)
   generalize w34.drew = w35 at HO524 BK519 BK529 HB hHeld ⊢
   refine ptk_ 0 (some 16) d8x1 HT_.out HW_.out hHeld ?_
   refine ptk_ 2 (some 18) d8x2 HT_.out HW_.out hHeld ?_
   refine one_ (i := 1) (N := some 17) d8x3 rfl rfl (one_of HT_.out (by kernel_rfl)) (by decide) (fun K hK => ?_)
   refine goes_ Tryd.func21 (by kernel_rfl) rfl #[.agg #[.slice Ao31 t522.length co31, .int .i64 t525, .string t526, .int .u32 t527, .bool t528]] (by rfl) rfl rfl (by (try simp only [List.map_toArray, List.map_cons, List.map_nil]); first | done | rfl | (simp only [List.length_drop, List.length_take]; rfl)) ?_
   with_reducible refine (resv_Good.calls _ _ t522 t525 t526 t527 t528 t530 _ ?side1 ?side2 A15.out).mono ?_
   (case side1 => repeat (first | exact (Kd.R_reads' HO524.out).2.2 | (with_reducible refine Kd.C_alloc ?_ _) | (with_reducible refine Kd.C_drewN ?_ _) | (with_reducible refine Kd.C_drew ?_)))
   (case side2 => exact (Kd.R_reads' HO524.out).2.1)
   rintro e w36 ⟨rfl, hb⟩
   refine ⟨_, rfl, ?_⟩
   have n0_ := Aside0.mk (Kd.R_below (by (with_reducible repeat (first | apply Kd.R_alloc | apply Kd.R_drewN | apply Kd.R_drew)); exact HO524.out) hb)
   have n1_ := Aside0.mk (blk_below (bk_ BK519) hb)
   have n2_ := Aside0.mk (blk_below (bk_ BK529) hb)
   have n3_ := Aside0.mk (below_step (hb_ HB) hb)
   clear HO524
   clear BK519
   clear BK529
   clear HB
   have HO524 := n0_
   have BK519 := n1_
   have BK529 := n2_
   have HB := n3_
   clear n0_ n1_ n2_ n3_
   (try clear hb)
   (try clear hb2)
   (try clear hk)
   (try clear hi)
   refine hK.out _ _ ⟨(blk_cell BK529.out 0).trans rfl, (blk_cell BK529.out 1).trans rfl, (blk_cell BK529.out 2).trans rfl, (blk_cell BK529.out 3).trans rfl, (blk_cell BK529.out 4).trans rfl, (blk_cell BK519.out 0).trans rfl, (blk_cell BK519.out 1).trans rfl, (blk_cell BK519.out 2).trans rfl, (blk_cell BK519.out 3).trans rfl, (blk_cell BK519.out 4).trans rfl⟩ (fun hHeld => ?_)
   clear hK K
   refine norm_ (a' := ?_) ?_ ?_
   rotate_left
   ·show Act.put _ (some 17) _ = _
    simp only [Act.put, la_, lb_, lc_, i64_w, i32_w]
    rfl
   refine one_ (i := 3) (N := some 19) d8x4 rfl rfl (one_of HT_.out (by kernel_rfl)) (by decide) (fun K hK => ?_)
   refine goes_ Tryd.func20 (by kernel_rfl) rfl #[.agg #[.slice A0_0 l0_0.length c0_0, .int .i64 a0_1, .string a0_2, .int .u32 a0_3, .bool a0_4]] (by rfl) rfl rfl (by (try simp only [List.map_toArray, List.map_cons, List.map_nil]); first | done | rfl | (simp only [List.length_drop, List.length_take]; rfl)) ?_
   with_reducible refine (headgateref11_Good.calls kj2 _ _ l0_0 a0_1 a0_2 a0_3 a0_4 t531 _ ?side1 ?side2 A16.out).mono ?_
   (case side1 => repeat (first | exact (Kd.C_below HR0_0.out HB.out) | (with_reducible refine Kd.C_alloc ?_ _) | (with_reducible refine Kd.C_drewN ?_ _) | (with_reducible refine Kd.C_drew ?_)))
   (case side2 => exact HC0_0.out)
   rintro e w37 ⟨rfl, hb⟩
   refine ⟨_, rfl, ?_⟩
   have n0_ := Aside0.mk (Kd.R_below (by (with_reducible repeat (first | apply Kd.R_alloc | apply Kd.R_drewN | apply Kd.R_drew)); exact HO524.out) hb)
   have n1_ := Aside0.mk (blk_below (bk_ BK519) hb)
   have n2_ := Aside0.mk (blk_below (bk_ BK529) hb)
   have n3_ := Aside0.mk (below_step (hb_ HB) hb)
   clear HO524
   clear BK519
   clear BK529
   clear HB
   have HO524 := n0_
   have BK519 := n1_
   have BK529 := n2_
   have HB := n3_
   clear n0_ n1_ n2_ n3_
   (try clear hb)
   (try clear hb2)
   (try clear hk)
   (try clear hi)
   refine hK.out _ _ ⟨(blk_cell BK529.out 0).trans rfl, (blk_cell BK529.out 1).trans rfl, (blk_cell BK529.out 2).trans rfl, (blk_cell BK529.out 3).trans rfl, (blk_cell BK529.out 4).trans rfl, (blk_cell BK519.out 0).trans rfl, (blk_cell BK519.out 1).trans rfl, (blk_cell BK519.out 2).trans rfl, (blk_cell BK519.out 3).trans rfl, (blk_cell BK519.out 4).trans rfl⟩ (fun hHeld => ?_)
   clear hK K
   refine norm_ (a' := ?_) ?_ ?_
   rotate_left
   ·show Act.put _ (some 19) _ = _
    simp only [Act.put, la_, lb_, lc_, i64_w, i32_w]
    rfl
   refine pon_ 4 (some 20) d8x5 HT_.out ?_
   refine pon_ 5 (some 21) d8x6 HT_.out ?_
   refine pon_ 7 (some 23) d8x7 HT_.out ?_
   refine pon_ 10 (some 26) d8x8 HT_.out ?_
   refine ptk_ 6 (some 22) d8x9 HT_.out HW_.out hHeld ?_
   refine ptk_ 9 (some 25) d8x10 HT_.out HW_.out hHeld ?_
   refine one_ (i := 8) (N := some 24) d8x11 rfl rfl (one_of HT_.out (by kernel_rfl)) (by decide) (fun K hK => ?_)
   refine goes_ Tryd.func24 (by kernel_rfl) rfl #[.agg #[.slice Ao31 t522.length co31, .int .i64 t525, .string t526, .int .u32 t527, .bool t528], .string a1] (by rfl) rfl rfl (by (try simp only [List.map_toArray, List.map_cons, List.map_nil]); first | done | rfl | (simp only [List.length_drop, List.length_take]; rfl)) ?_
   with_reducible refine (resv_Key.calls kj2 _ _ t522 t525 t526 t527 t528 a1 t532 _ ?side1 ?side2 A18.out).mono ?_
   (case side1 => repeat (first | exact (Kd.R_reads' HO524.out).2.2 | (with_reducible refine Kd.C_alloc ?_ _) | (with_reducible refine Kd.C_drewN ?_ _) | (with_reducible refine Kd.C_drew ?_)))
   (case side2 => exact (Kd.R_reads' HO524.out).2.1)
   rintro e w38 ⟨rfl, hb⟩
   refine ⟨_, rfl, ?_⟩
   have n0_ := Aside0.mk (Kd.R_below (by (with_reducible repeat (first | apply Kd.R_alloc | apply Kd.R_drewN | apply Kd.R_drew)); exact HO524.out) hb)
   have n1_ := Aside0.mk (blk_below (bk_ BK519) hb)
   have n2_ := Aside0.mk (blk_below (bk_ BK529) hb)
   have n3_ := Aside0.mk (below_step (hb_ HB) hb)
   clear HO524
   clear BK519
   clear BK529
   clear HB
   have HO524 := n0_
   have BK519 := n1_
   have BK529 := n2_
   have HB := n3_
   clear n0_ n1_ n2_ n3_
   (try clear hb)
   (try clear hb2)
   (try clear hk)
   (try clear hi)
   refine hK.out _ _ ⟨(blk_cell BK529.out 0).trans rfl, (blk_cell BK529.out 1).trans rfl, (blk_cell BK529.out 2).trans rfl, (blk_cell BK529.out 3).trans rfl, (blk_cell BK529.out 4).trans rfl, (blk_cell BK519.out 0).trans rfl, (blk_cell BK519.out 1).trans rfl, (blk_cell BK519.out 2).trans rfl, (blk_cell BK519.out 3).trans rfl, (blk_cell BK519.out 4).trans rfl⟩ (fun hHeld => ?_)
   clear hK K
   refine norm_ (a' := ?_) ?_ ?_
   rotate_left
   ·show Act.put _ (some 24) _ = _
    simp only [Act.put, la_, lb_, lc_, i64_w, i32_w]
    rfl
   refine one_ (i := 11) (N := some 27) d8x12 rfl rfl (one_of HT_.out (by kernel_rfl)) (by decide) (fun K hK => ?_)
   refine goes_ Tryd.func19 (by kernel_rfl) rfl #[.agg #[.slice A0_0 l0_0.length c0_0, .int .i64 a0_1, .string a0_2, .int .u32 a0_3, .bool a0_4], .string a1] (by rfl) rfl rfl (by (try simp only [List.map_toArray, List.map_cons, List.map_nil]); first | done | rfl | (simp only [List.length_drop, List.length_take]; rfl)) ?_
   with_reducible refine (headgateref11_Key.calls kj2 _ _ l0_0 a0_1 a0_2 a0_3 a0_4 a1 t533 _ ?side1 ?side2 A19.out).mono ?_
   (case side1 => repeat (first | exact (Kd.C_below HR0_0.out HB.out) | (with_reducible refine Kd.C_alloc ?_ _) | (with_reducible refine Kd.C_drewN ?_ _) | (with_reducible refine Kd.C_drew ?_)))
   (case side2 => exact HC0_0.out)
   rintro e w39 ⟨rfl, hb⟩
   refine ⟨_, rfl, ?_⟩
   have n0_ := Aside0.mk (Kd.R_below (by (with_reducible repeat (first | apply Kd.R_alloc | apply Kd.R_drewN | apply Kd.R_drew)); exact HO524.out) hb)
   have n1_ := Aside0.mk (blk_below (bk_ BK519) hb)
   have n2_ := Aside0.mk (blk_below (bk_ BK529) hb)
   have n3_ := Aside0.mk (below_step (hb_ HB) hb)
   clear HO524
   clear BK519
   clear BK529
   clear HB
   have HO524 := n0_
   have BK519 := n1_
   have BK529 := n2_
   have HB := n3_
   clear n0_ n1_ n2_ n3_
   (try clear hb)
   (try clear hb2)
   (try clear hk)
   (try clear hi)
   refine hK.out _ _ ⟨(blk_cell BK529.out 0).trans rfl, (blk_cell BK529.out 1).trans rfl, (blk_cell BK529.out 2).trans rfl, (blk_cell BK529.out 3).trans rfl, (blk_cell BK529.out 4).trans rfl, (blk_cell BK519.out 0).trans rfl, (blk_cell BK519.out 1).trans rfl, (blk_cell BK519.out 2).trans rfl, (blk_cell BK519.out 3).trans rfl, (blk_cell BK519.out 4).trans rfl⟩ (fun hHeld => ?_)
   clear hK K
   refine norm_ (a' := ?_) ?_ ?_
   rotate_left
   ·show Act.put _ (some 27) _ = _
    simp only [Act.put, la_, lb_, lc_, i64_w, i32_w]
    rfl
   refine pon_ 12 (some 28) d8x13 HT_.out ?_
   refine pon_ 13 (some 29) d8x14 HT_.out ?_
   refine pon_ 14 (some 30) d8x15 HT_.out ?_
   refine ptk_ 15 (some 31) d8x16 HT_.out HW_.out hHeld ?_
   refine ptk_ 17 (some 33) d8x17 HT_.out HW_.out hHeld ?_
   refine one_ (i := 16) (N := some 32) d8x18 rfl rfl (one_of HT_.out (by kernel_rfl)) (by decide) (fun K hK => ?_)
   refine goes_ Tryd.func25 (by kernel_rfl) rfl #[.agg #[.slice Ao31 t522.length co31, .int .i64 t525, .string t526, .int .u32 t527, .bool t528]] (by rfl) rfl rfl (by (try simp only [List.map_toArray, List.map_cons, List.map_nil]); first | done | rfl | (simp only [List.length_drop, List.length_take]; rfl)) ?_
   with_reducible refine (resv_Power.calls _ _ t522 t525 t526 t527 t528 t534 t537 t538 t539 t540 _ ?side1 ?side2 A21.out).mono ?_
   (case side1 => repeat (first | exact (Kd.R_reads' HO524.out).2.2 | (with_reducible refine Kd.C_alloc ?_ _) | (with_reducible refine Kd.C_drewN ?_ _) | (with_reducible refine Kd.C_drew ?_)))
   (case side2 => exact (Kd.R_reads' HO524.out).2.1)
   rintro e w40 ⟨v535, rfl, ho0, hb⟩
   refine ⟨_, rfl, ?_⟩
   have n0_ := Aside0.mk (Kd.R_elder' (by (with_reducible repeat (first | apply Kd.R_alloc | apply Kd.R_drewN | apply Kd.R_drew)); exact HO524.out) (Kd.R_base ho0) hb)
   have n1_ := Aside0.mk (Kd.R_lower (Kd.R_new' ho0 (Kd.R_lt (by (with_reducible repeat (first | apply Kd.R_alloc | apply Kd.R_drewN | apply Kd.R_drew)); exact HO524.out))) (below_size (hb_ HB)))
   have n2_ := Aside0.mk (blk_below (bk_ BK519) hb)
   have n3_ := Aside0.mk (blk_below (bk_ BK529) hb)
   have n4_ := Aside0.mk (below_step (hb_ HB) hb)
   clear HO524
   clear BK519
   clear BK529
   clear HB
   have HO524 := n0_
   have HO536 := n1_
   have BK519 := n2_
   have BK529 := n3_
   have HB := n4_
   clear n0_ n1_ n2_ n3_ n4_
   (try clear hb)
   (try clear hb2)
   (try clear hk)
   (try clear hi)
   (try clear ho0)
   refine hK.out _ _ ⟨(blk_cell BK529.out 0).trans rfl, (blk_cell BK529.out 1).trans rfl, (blk_cell BK529.out 2).trans rfl, (blk_cell BK529.out 3).trans rfl, (blk_cell BK529.out 4).trans rfl, (blk_cell BK519.out 0).trans rfl, (blk_cell BK519.out 1).trans rfl, (blk_cell BK519.out 2).trans rfl, (blk_cell BK519.out 3).trans rfl, (blk_cell BK519.out 4).trans rfl⟩ (fun hHeld => ?_)
   clear hK K
   refine norm_ (a' := ?_) ?_ ?_
   rotate_left
   ·show Act.put _ (some 32) _ = _
    simp only [Act.put, la_, lb_, lc_, i64_w, i32_w]
    rfl
   refine one_ (i := 18) (N := some 34) d8x19 rfl rfl (one_of HT_.out (by kernel_rfl)) (by decide) (fun K hK => ?_)
   refine goes_ Tryd.func26 (by kernel_rfl) rfl #[.agg #[.slice A0_0 l0_0.length c0_0, .int .i64 a0_1, .string a0_2, .int .u32 a0_3, .bool a0_4]] (by rfl) rfl rfl (by (try simp only [List.map_toArray, List.map_cons, List.map_nil]); first | done | rfl | (simp only [List.length_drop, List.length_take]; rfl)) ?_
   with_reducible refine (headgateref11_Power.calls kj2 _ _ l0_0 a0_1 a0_2 a0_3 a0_4 t541 t544 t545 t546 t547 _ ?side1 ?side2 A22.out).mono ?_
   (case side1 => repeat (first | exact (Kd.C_below HR0_0.out HB.out) | (with_reducible refine Kd.C_alloc ?_ _) | (with_reducible refine Kd.C_drewN ?_ _) | (with_reducible refine Kd.C_drew ?_)))
   (case side2 => exact HC0_0.out)
   rintro e w41 ⟨v542, rfl, ho0, hb⟩
   refine ⟨_, rfl, ?_⟩
   have n0_ := Aside0.mk (Kd.R_elder' (by (with_reducible repeat (first | apply Kd.R_alloc | apply Kd.R_drewN | apply Kd.R_drew)); exact HO524.out) (Kd.R_base ho0) hb)
   have n1_ := Aside0.mk (Kd.R_elder' (by (with_reducible repeat (first | apply Kd.R_alloc | apply Kd.R_drewN | apply Kd.R_drew)); exact HO536.out) (Kd.R_base ho0) hb)
   have n2_ := Aside0.mk (Kd.R_lower (Kd.R_new' (Kd.R_new' ho0 (Kd.R_lt (by (with_reducible repeat (first | apply Kd.R_alloc | apply Kd.R_drewN | apply Kd.R_drew)); exact HO524.out))) (Kd.R_lt (by (with_reducible repeat (first | apply Kd.R_alloc | apply Kd.R_drewN | apply Kd.R_drew)); exact HO536.out))) (below_size (hb_ HB)))
   have n3_ := Aside0.mk (blk_below (bk_ BK519) hb)
   have n4_ := Aside0.mk (blk_below (bk_ BK529) hb)
   have n5_ := Aside0.mk (below_step (hb_ HB) hb)
   clear HO524
   clear HO536
   clear BK519
   clear BK529
   clear HB
   have HO524 := n0_
   have HO536 := n1_
   have HO543 := n2_
   have BK519 := n3_
   have BK529 := n4_
   have HB := n5_
   clear n0_ n1_ n2_ n3_ n4_ n5_
   (try clear hb)
   (try clear hb2)
   (try clear hk)
   (try clear hi)
   (try clear ho0)
   obtain ⟨Ao42, co42, eo42⟩ := Kd.R_slice HO536.out
   (first | subst eo42 | (injection eo42 with f1_ f2_ f3_; have f4_ := f1_.symm; have f5_ := f3_.symm; clear f1_ f2_ f3_; subst f4_; subst f5_))
   obtain ⟨Ao43, co43, eo43⟩ := Kd.R_slice HO543.out
   (first | subst eo43 | (injection eo43 with f1_ f2_ f3_; have f4_ := f1_.symm; have f5_ := f3_.symm; clear f1_ f2_ f3_; subst f4_; subst f5_))
   refine hK.out _ _ ⟨(blk_cell BK529.out 0).trans rfl, (blk_cell BK529.out 1).trans rfl, (blk_cell BK529.out 2).trans rfl, (blk_cell BK529.out 3).trans rfl, (blk_cell BK529.out 4).trans rfl, (blk_cell BK519.out 0).trans rfl, (blk_cell BK519.out 1).trans rfl, (blk_cell BK519.out 2).trans rfl, (blk_cell BK519.out 3).trans rfl, (blk_cell BK519.out 4).trans rfl⟩ (fun hHeld => ?_)
   clear hK K
   refine norm_ (a' := ?_) ?_ ?_
   rotate_left
   ·show Act.put _ (some 34) _ = _
    simp only [Act.put, la_, lb_, lc_, i64_w, i32_w]
    rfl
   refine one_ (i := 19) (N := some 35) d8x20 rfl rfl (one_of HT_.out (by kernel_rfl)) (by decide) (fun K hK => ?_)
   refine goes_ Tryd.func17 (by kernel_rfl) rfl #[.agg #[.slice Ao42 t534.length co42, .int .i64 t537, .string t538, .int .u32 t539, .bool t540], .agg #[.slice Ao43 t541.length co43, .int .i64 t544, .string t545, .int .u32 t546, .bool t547]] (by rfl) rfl rfl (by (try simp only [List.map_toArray, List.map_cons, List.map_nil]); first | done | rfl | (simp only [List.length_drop, List.length_take]; rfl)) ?_
   with_reducible refine (headgatekeep_Tables.calls kj2 _ _ t534 t537 t538 t539 t540 _ _ t541 t544 t545 t546 t547 true _ ?side1 ?side2 ?side3 ?side4 A23.out).mono ?_
   (case side1 => repeat (first | exact (Kd.R_reads' HO536.out).2.2 | (with_reducible refine Kd.C_alloc ?_ _) | (with_reducible refine Kd.C_drewN ?_ _) | (with_reducible refine Kd.C_drew ?_)))
   (case side2 => exact (Kd.R_reads' HO536.out).2.1)
   (case side3 => repeat (first | exact (Kd.R_reads' HO543.out).2.2 | (with_reducible refine Kd.C_alloc ?_ _) | (with_reducible refine Kd.C_drewN ?_ _) | (with_reducible refine Kd.C_drew ?_)))
   (case side4 => exact (Kd.R_reads' HO543.out).2.1)
   rintro e w44 ⟨rfl, hb⟩
   refine ⟨_, rfl, ?_⟩
   have n0_ := Aside0.mk (Kd.R_below (by (with_reducible repeat (first | apply Kd.R_alloc | apply Kd.R_drewN | apply Kd.R_drew)); exact HO524.out) hb)
   have n1_ := Aside0.mk (Kd.R_below (by (with_reducible repeat (first | apply Kd.R_alloc | apply Kd.R_drewN | apply Kd.R_drew)); exact HO536.out) hb)
   have n2_ := Aside0.mk (Kd.R_below (by (with_reducible repeat (first | apply Kd.R_alloc | apply Kd.R_drewN | apply Kd.R_drew)); exact HO543.out) hb)
   have n3_ := Aside0.mk (blk_below (bk_ BK519) hb)
   have n4_ := Aside0.mk (blk_below (bk_ BK529) hb)
   have n5_ := Aside0.mk (below_step (hb_ HB) hb)
   clear HO524
   clear HO536
   clear HO543
   clear BK519
   clear BK529
   clear HB
   have HO524 := n0_
   have HO536 := n1_
   have HO543 := n2_
   have BK519 := n3_
   have BK529 := n4_
   have HB := n5_
   clear n0_ n1_ n2_ n3_ n4_ n5_
   (try clear hb)
   (try clear hb2)
   (try clear hk)
   (try clear hi)
   refine hK.out _ _ ⟨(blk_cell BK529.out 0).trans rfl, (blk_cell BK529.out 1).trans rfl, (blk_cell BK529.out 2).trans rfl, (blk_cell BK529.out 3).trans rfl, (blk_cell BK529.out 4).trans rfl, (blk_cell BK519.out 0).trans rfl, (blk_cell BK519.out 1).trans rfl, (blk_cell BK519.out 2).trans rfl, (blk_cell BK519.out 3).trans rfl, (blk_cell BK519.out 4).trans rfl⟩ (fun hHeld => ?_)
   clear hK K
   refine norm_ (a' := ?_) ?_ ?_
   rotate_left
   ·show Act.put _ (some 35) _ = _
    simp only [Act.put, la_, lb_, lc_, i64_w, i32_w]
    rfl
   refine pon_ 20 (some 36) d8x21 HT_.out ?_
   refine pon_ 21 (some 37) d8x22 HT_.out ?_
   refine ptk_ 22 (some 38) d8x23 HT_.out HW_.out hHeld ?_
   refine ptk_ 23 (some 39) d8x24 HT_.out HW_.out hHeld ?_
   refine one_ (i := 24) (N := some 40) d8x25 rfl rfl (one_of HT_.out (by kernel_rfl)) (by decide) (fun K hK => ?_)
   refine goes_ Tryd.func17 (by kernel_rfl) rfl #[.agg #[.slice Ao31 t522.length co31, .int .i64 t525, .string t526, .int .u32 t527, .bool t528], .agg #[.slice A0_0 l0_0.length c0_0, .int .i64 a0_1, .string a0_2, .int .u32 a0_3, .bool a0_4]] (by rfl) rfl rfl (by (try simp only [List.map_toArray, List.map_cons, List.map_nil]); first | done | rfl | (simp only [List.length_drop, List.length_take]; rfl)) ?_
   with_reducible refine (headgatekeep_Tables.calls kj2 _ _ t522 t525 t526 t527 t528 _ _ l0_0 a0_1 a0_2 a0_3 a0_4 true _ ?side1 ?side2 ?side3 ?side4 A25.out).mono ?_
   (case side1 => repeat (first | exact (Kd.R_reads' HO524.out).2.2 | (with_reducible refine Kd.C_alloc ?_ _) | (with_reducible refine Kd.C_drewN ?_ _) | (with_reducible refine Kd.C_drew ?_)))
   (case side2 => exact (Kd.R_reads' HO524.out).2.1)
   (case side3 => repeat (first | exact (Kd.C_below HR0_0.out HB.out) | (with_reducible refine Kd.C_alloc ?_ _) | (with_reducible refine Kd.C_drewN ?_ _) | (with_reducible refine Kd.C_drew ?_)))
   (case side4 => exact HC0_0.out)
   rintro e w45 ⟨rfl, hb⟩
   refine ⟨_, rfl, ?_⟩
   have n0_ := Aside0.mk (Kd.R_below (by (with_reducible repeat (first | apply Kd.R_alloc | apply Kd.R_drewN | apply Kd.R_drew)); exact HO524.out) hb)
   have n1_ := Aside0.mk (Kd.R_below (by (with_reducible repeat (first | apply Kd.R_alloc | apply Kd.R_drewN | apply Kd.R_drew)); exact HO536.out) hb)
   have n2_ := Aside0.mk (Kd.R_below (by (with_reducible repeat (first | apply Kd.R_alloc | apply Kd.R_drewN | apply Kd.R_drew)); exact HO543.out) hb)
   have n3_ := Aside0.mk (blk_below (bk_ BK519) hb)
   have n4_ := Aside0.mk (blk_below (bk_ BK529) hb)
   have n5_ := Aside0.mk (below_step (hb_ HB) hb)
   clear HO524
   clear HO536
   clear HO543
   clear BK519
   clear BK529
   clear HB
   have HO524 := n0_
   have HO536 := n1_
   have HO543 := n2_
   have BK519 := n3_
   have BK529 := n4_
   have HB := n5_
   clear n0_ n1_ n2_ n3_ n4_ n5_
   (try clear hb)
   (try clear hb2)
   (try clear hk)
   (try clear hi)
   refine hK.out _ _ ⟨(blk_cell BK529.out 0).trans rfl, (blk_cell BK529.out 1).trans rfl, (blk_cell BK529.out 2).trans rfl, (blk_cell BK529.out 3).trans rfl, (blk_cell BK529.out 4).trans rfl, (blk_cell BK519.out 0).trans rfl, (blk_cell BK519.out 1).trans rfl, (blk_cell BK519.out 2).trans rfl, (blk_cell BK519.out 3).trans rfl, (blk_cell BK519.out 4).trans rfl⟩ (fun hHeld => ?_)
   clear hK K
   refine norm_ (a' := ?_) ?_ ?_
   rotate_left
   ·show Act.put _ (some 40) _ = _
    simp only [Act.put, la_, lb_, lc_, i64_w, i32_w]
    rfl
   refine pon_ 25 (some 41) d8x26 HT_.out ?_
   refine pon_ 26 (some 42) d8x27 HT_.out ?_
   refine one_ (i := 27) (N := some 43) d8x28 rfl rfl (one_of HT_.out (by kernel_rfl)) (by decide) (fun K hK => ?_)
   refine goes_ Tryd.func13 (by kernel_rfl) rfl #[] (by rfl) rfl rfl (by (try simp only [List.map_toArray, List.map_cons, List.map_nil]); first | done | rfl | (simp only [List.length_drop, List.length_take]; rfl)) ?_
   with_reducible refine (headgatelaw11_wakes.calls kj2  t550 _ ?side1 A27.out).mono ?_
   (case side1 => first | ((refine Glob.keep HG.out ?_); (repeat (first | (with_reducible first | exact HB.out | apply below_alloc | apply pw_below_drewN | apply below_drew1 | refine below_set ?_ GE519.out | refine below_set ?_ GE529.out) | exact HB.out)); done) | exact HG.out)
   rintro e w46 ⟨rfl, hb⟩
   refine ⟨_, rfl, ?_⟩
   have n0_ := Aside0.mk (Kd.R_below (by (with_reducible repeat (first | apply Kd.R_alloc | apply Kd.R_drewN | apply Kd.R_drew)); exact HO524.out) hb)
   have n1_ := Aside0.mk (Kd.R_below (by (with_reducible repeat (first | apply Kd.R_alloc | apply Kd.R_drewN | apply Kd.R_drew)); exact HO536.out) hb)
   have n2_ := Aside0.mk (Kd.R_below (by (with_reducible repeat (first | apply Kd.R_alloc | apply Kd.R_drewN | apply Kd.R_drew)); exact HO543.out) hb)
   have n3_ := Aside0.mk (blk_below (bk_ BK519) hb)
   have n4_ := Aside0.mk (blk_below (bk_ BK529) hb)
   have n5_ := Aside0.mk (below_step (hb_ HB) hb)
   clear HO524
   clear HO536
   clear HO543
   clear BK519
   clear BK529
   clear HB
   have HO524 := n0_
   have HO536 := n1_
   have HO543 := n2_
   have BK519 := n3_
   have BK529 := n4_
   have HB := n5_
   clear n0_ n1_ n2_ n3_ n4_ n5_
   (try clear hb)
   (try clear hb2)
   (try clear hk)
   (try clear hi)
   refine hK.out _ _ ⟨(blk_cell BK529.out 0).trans rfl, (blk_cell BK529.out 1).trans rfl, (blk_cell BK529.out 2).trans rfl, (blk_cell BK529.out 3).trans rfl, (blk_cell BK529.out 4).trans rfl, (blk_cell BK519.out 0).trans rfl, (blk_cell BK519.out 1).trans rfl, (blk_cell BK519.out 2).trans rfl, (blk_cell BK519.out 3).trans rfl, (blk_cell BK519.out 4).trans rfl⟩ (fun hHeld => ?_)
   clear hK K
   refine norm_ (a' := ?_) ?_ ?_
   rotate_left
   ·show Act.put _ (some 43) _ = _
    simp only [Act.put, la_, lb_, lc_, i64_w, i32_w]
    rfl
   refine pon_ 28 (some 44) d8x29 HT_.out ?_
   refine pon_ 29 (some 4) d8x30 HT_.out ?_
   refine done_ (done_of HT_.out (by kernel_rfl)) ?_
   try go_wp2
   go_ret
   exact ⟨by first | rfl | (simp [errW_none, errW_some] <;> rfl) | (simp [*, errW_none, errW_some] <;> rfl) | (simp [bt, *]; done) | (unfold bt; simp [*]; done), by repeat (first | (with_reducible first | exact HB.out | apply below_alloc | apply pw_below_drewN | apply below_drew1 | refine below_set ?_ GE519.out | refine below_set ?_ GE529.out) | exact HB.out)⟩
end Go.Proofs.YtjogkfcjlljjcaaDoor.P
