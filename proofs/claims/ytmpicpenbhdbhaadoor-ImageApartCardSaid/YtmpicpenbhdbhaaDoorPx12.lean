-- written by this session's patched copy of the printer (wip/tools/patch_print.py); Lean checks it
import Derived.Test.YtmpicpenbhdbhaaDoorPx0
import Derived.Test.YtmpicpenbhdbhaaDoorPx1
import Derived.Test.YtmpicpenbhdbhaaDoorPx3
import Derived.Test.YtmpicpenbhdbhaaDoorPx5
import Derived.Test.YtmpicpenbhdbhaaDoorPx9
namespace Go.Proofs.YtmpicpenbhdbhaaDoor.P
open Go.RowKit Go.Proofs.YtmpicpenbhdbhaaDoorW.PrintWords Go.Proofs.YtmpicpenbhdbhaaDoorW.PrintLast Go.Proofs.YtmpicpenbhdbhaaDoorW.PrintMore
attribute [local go_sem] max2_int min2_int max_two min_two max_three min_three max_four min_four   -- for this text's walks alone
set_option linter.unusedVariables false
set_option linter.unusedSimpArgs false
set_option linter.unnecessarySimpa false

/-! ### headgatelaw12_ImageApart: function 7 -/
mutual
def headgatelaw12_ImageApart.j0 : Nat → Bool → List (S48) → Int → ByteArray → Int → Bool → List (S48) → Int → ByteArray → Int → Bool → Option (Bool)
 | 0, _, _, _, _, _, _, _, _, _, _, _ => none
 | k + 1, x14, x311000, x311001, x311002, x311003, x311004, x312000, x312001, x312002, x312003, x312004 => if x14 = true then ((headgatelaw12_wakes.f k).bind fun t314 => (some t314)) else ((headgatekeep_CopyTable.f x311000 x311001 x311002 x311003 x311004).bind fun bt315 => ((image_Encode.f k bt315.1 bt315.2.1 bt315.2.2.1 bt315.2.2.2.1 bt315.2.2.2.2).bind fun bt322 => ((headgatekeep_CopyTable.f x312000 x312001 x312002 x312003 x312004).bind fun bt324 => ((image_Encode.f k bt324.1 bt324.2.1 bt324.2.2.1 bt324.2.2.2.1 bt324.2.2.2.2).bind fun bt331 => (if bt322.2 = 0 then (headgatelaw12_ImageApart.j1 k bt322.1 bt322.2 bt331.1 bt331.2 (bt331.2 != 0) x311000 x311001 x311002 x311003 x311004 x312000 x312001 x312002 x312003 x312004) else (headgatelaw12_ImageApart.j1 k bt322.1 bt322.2 bt331.1 bt331.2 true x311000 x311001 x311002 x311003 x311004 x312000 x312001 x312002 x312003 x312004))))))
def headgatelaw12_ImageApart.j1 : Nat → ByteArray → Int → ByteArray → Int → Bool → List (S48) → Int → ByteArray → Int → Bool → List (S48) → Int → ByteArray → Int → Bool → Option (Bool)
 | 0, _, _, _, _, _, _, _, _, _, _, _, _, _, _, _ => none
 | k + 1, x5, x6, x7, x8, x33, x311000, x311001, x311002, x311003, x311004, x312000, x312001, x312002, x312003, x312004 => if x33 = true then (if x6 = 0 then (if x8 = 0 then ((headgatelaw12_wakes.f k).bind fun t333 => (some t333)) else (if x7.toList = ([] : List UInt8) then ((headgatelaw12_wakes.f k).bind fun t334 => (some t334)) else (some false))) else (if x5.toList = ([] : List UInt8) then (if x8 = 0 then ((headgatelaw12_wakes.f k).bind fun t335 => (some t335)) else (if x7.toList = ([] : List UInt8) then ((headgatelaw12_wakes.f k).bind fun t336 => (some t336)) else (some false))) else (some false))) else ((headgatekeep_Tables.f k x311000 x311001 x311002 x311003 x311004 x312000 x312001 x312002 x312003 x312004).bind fun t337 => (if ((x5.toList == x7.toList) == t337) = true then ((headgatelaw12_wakes.f k).bind fun t338 => (some t338)) else (some false)))
end
def headgatelaw12_ImageApart.f (k : Nat) (l0_0 : List (S48)) (a0_1 : Int) (a0_2 : ByteArray) (a0_3 : Int) (a0_4 : Bool) (l1_0 : List (S48)) (a1_1 : Int) (a1_2 : ByteArray) (a1_3 : Int) (a1_4 : Bool) : Option (Bool) := (headgatelaw10_Large.f k l0_0 a0_1 a0_2 a0_3 a0_4).bind fun t312 => (if t312 = true then (headgatelaw12_ImageApart.j0 k true l0_0 a0_1 a0_2 a0_3 a0_4 l1_0 a1_1 a1_2 a1_3 a1_4) else ((headgatelaw10_Large.f k l1_0 a1_1 a1_2 a1_3 a1_4).bind fun t313 => (headgatelaw12_ImageApart.j0 k t313 l0_0 a0_1 a0_2 a0_3 a0_4 l1_0 a1_1 a1_2 a1_3 a1_4)))
theorem headgatelaw12_ImageApart.mono_l : ∀ k, (∀ y0 y1 y2 y3 y4 y5 y6 y7 y8 y9 y10, LeO (headgatelaw12_ImageApart.j0 k y0 y1 y2 y3 y4 y5 y6 y7 y8 y9 y10) (headgatelaw12_ImageApart.j0 (k + 1) y0 y1 y2 y3 y4 y5 y6 y7 y8 y9 y10)) ∧ (∀ y0 y1 y2 y3 y4 y5 y6 y7 y8 y9 y10 y11 y12 y13 y14, LeO (headgatelaw12_ImageApart.j1 k y0 y1 y2 y3 y4 y5 y6 y7 y8 y9 y10 y11 y12 y13 y14) (headgatelaw12_ImageApart.j1 (k + 1) y0 y1 y2 y3 y4 y5 y6 y7 y8 y9 y10 y11 y12 y13 y14))
 | 0 => ⟨fun _ _ _ _ _ _ _ _ _ _ _ r h => by simp [headgatelaw12_ImageApart.j0] at h, fun _ _ _ _ _ _ _ _ _ _ _ _ _ _ _ r h => by simp [headgatelaw12_ImageApart.j1] at h⟩
 | k + 1 => by
  obtain ⟨ih0, ih1⟩ := headgatelaw12_ImageApart.mono_l k
  refine ⟨?_, ?_⟩
  ·intro y0 y1 y2 y3 y4 y5 y6 y7 y8 y9 y10
   unfold headgatelaw12_ImageApart.j0
   repeat' first
   | (with_reducible exact ih0 _ _ _ _ _ _ _ _ _ _ _)
   | (with_reducible exact ih1 _ _ _ _ _ _ _ _ _ _ _ _ _ _ _)
   | (with_reducible exact headgatekeep_Tables.mono _ _ _ _ _ _ _ _ _ _ _)
   | (with_reducible exact headgatelaw10_Large.mono _ _ _ _ _ _)
   | (with_reducible exact headgatelaw12_wakes.mono _)
   | (with_reducible exact image_Encode.mono _ _ _ _ _ _)
   | (with_reducible exact LeO.refl _)
   | (with_reducible exact LeO.none _)
   | (with_reducible refine LeO.ite ?_ ?_)
   | (with_reducible refine LeO.bind ?_ (fun _ => ?_))
   | exact ih0 _ _ _ _ _ _ _ _ _ _ _
   | exact ih1 _ _ _ _ _ _ _ _ _ _ _ _ _ _ _
   | exact headgatekeep_Tables.mono _ _ _ _ _ _ _ _ _ _ _
   | exact headgatelaw10_Large.mono _ _ _ _ _ _
   | exact headgatelaw12_wakes.mono _
   | exact image_Encode.mono _ _ _ _ _ _
   | exact LeO.none _
   | refine LeO.ite ?_ ?_
   | refine LeO.bind ?_ (fun _ => ?_)
  ·intro y0 y1 y2 y3 y4 y5 y6 y7 y8 y9 y10 y11 y12 y13 y14
   unfold headgatelaw12_ImageApart.j1
   repeat' first
   | (with_reducible exact ih0 _ _ _ _ _ _ _ _ _ _ _)
   | (with_reducible exact ih1 _ _ _ _ _ _ _ _ _ _ _ _ _ _ _)
   | (with_reducible exact headgatekeep_Tables.mono _ _ _ _ _ _ _ _ _ _ _)
   | (with_reducible exact headgatelaw10_Large.mono _ _ _ _ _ _)
   | (with_reducible exact headgatelaw12_wakes.mono _)
   | (with_reducible exact image_Encode.mono _ _ _ _ _ _)
   | (with_reducible exact LeO.refl _)
   | (with_reducible exact LeO.none _)
   | (with_reducible refine LeO.ite ?_ ?_)
   | (with_reducible refine LeO.bind ?_ (fun _ => ?_))
   | exact ih0 _ _ _ _ _ _ _ _ _ _ _
   | exact ih1 _ _ _ _ _ _ _ _ _ _ _ _ _ _ _
   | exact headgatekeep_Tables.mono _ _ _ _ _ _ _ _ _ _ _
   | exact headgatelaw10_Large.mono _ _ _ _ _ _
   | exact headgatelaw12_wakes.mono _
   | exact image_Encode.mono _ _ _ _ _ _
   | exact LeO.none _
   | refine LeO.ite ?_ ?_
   | refine LeO.bind ?_ (fun _ => ?_)
theorem headgatelaw12_ImageApart.mono : ∀ a0 a1 a2 a3 a4 a5 a6 a7 a8 a9 k, LeO (headgatelaw12_ImageApart.f k a0 a1 a2 a3 a4 a5 a6 a7 a8 a9) (headgatelaw12_ImageApart.f (k + 1) a0 a1 a2 a3 a4 a5 a6 a7 a8 a9) := by
 intro a0 a1 a2 a3 a4 a5 a6 a7 a8 a9 k
 obtain ⟨ih0, ih1⟩ := headgatelaw12_ImageApart.mono_l k
 unfold headgatelaw12_ImageApart.f
 repeat' first
   | (with_reducible exact ih0 _ _ _ _ _ _ _ _ _ _ _)
   | (with_reducible exact ih1 _ _ _ _ _ _ _ _ _ _ _ _ _ _ _)
   | (with_reducible exact headgatekeep_Tables.mono _ _ _ _ _ _ _ _ _ _ _)
   | (with_reducible exact headgatelaw10_Large.mono _ _ _ _ _ _)
   | (with_reducible exact headgatelaw12_wakes.mono _)
   | (with_reducible exact image_Encode.mono _ _ _ _ _ _)
   | (with_reducible exact LeO.refl _)
   | (with_reducible exact LeO.none _)
   | (with_reducible refine LeO.ite ?_ ?_)
   | (with_reducible refine LeO.bind ?_ (fun _ => ?_))
   | exact ih0 _ _ _ _ _ _ _ _ _ _ _
   | exact ih1 _ _ _ _ _ _ _ _ _ _ _ _ _ _ _
   | exact headgatekeep_Tables.mono _ _ _ _ _ _ _ _ _ _ _
   | exact headgatelaw10_Large.mono _ _ _ _ _ _
   | exact headgatelaw12_wakes.mono _
   | exact image_Encode.mono _ _ _ _ _ _
   | exact LeO.none _
   | refine LeO.ite ?_ ?_
   | refine LeO.bind ?_ (fun _ => ?_)
set_option maxHeartbeats 8000000 in
set_option maxRecDepth 100000 in
theorem headgatelaw12_ImageApart.calls (k : Nat) (A0_0 : Option Addr) (c0_0 : Nat) (l0_0 : List (S48)) (a0_1 : Int) (a0_2 : ByteArray) (a0_3 : Int) (a0_4 : Bool) (A1_0 : Option Addr) (c1_0 : Nat) (l1_0 : List (S48)) (a1_1 : Int) (a1_2 : ByteArray) (a1_3 : Int) (a1_4 : Bool) (r : Bool) (w : World) (hr0_0 : Kd.C k48 w A0_0 l0_0.length l0_0) (hc0_0 : l0_0.length ≤ c0_0) (hr1_0 : Kd.C k48 w A1_0 l1_0.length l1_0) (hc1_0 : l1_0.length ≤ c1_0) (hG : Glob w) (hT : r = true) (h : headgatelaw12_ImageApart.f k l0_0 a0_1 a0_2 a0_3 a0_4 l1_0 a1_1 a1_2 a1_3 a1_4 = some r) :
  Calls Tryd.prog 7 #[.agg #[.slice A0_0 l0_0.length c0_0, .int .i64 a0_1, .string a0_2, .int .u32 a0_3, .bool a0_4], .agg #[.slice A1_0 l1_0.length c1_0, .int .i64 a1_1, .string a1_2, .int .u32 a1_3, .bool a1_4]] w fun e w' => e = .returned (.bool r) ∧ Below w.heap.size w w' := by
 have hu27 := Tryd.underlying27
 have HT0 := Aside0.mk hT
 clear hT
 have HG := Aside0.mk hG
 clear hG
 have HR0_0 := Aside0.mk hr0_0
 have HC0_0 := Aside0.mk hc0_0
 clear hr0_0 hc0_0
 have HR1_0 := Aside0.mk hr1_0
 have HC1_0 := Aside0.mk hc1_0
 clear hr1_0 hc1_0
 have HB := Aside0.mk (Below.refl w.heap.size w)
 have H : ((headgatelaw10_Large.f k l0_0 a0_1 a0_2 a0_3 a0_4).bind fun t312 => (if t312 = true then (headgatelaw12_ImageApart.j0 k true l0_0 a0_1 a0_2 a0_3 a0_4 l1_0 a1_1 a1_2 a1_3 a1_4) else ((headgatelaw10_Large.f k l1_0 a1_1 a1_2 a1_3 a1_4).bind fun t313 => (headgatelaw12_ImageApart.j0 k t313 l0_0 a0_1 a0_2 a0_3 a0_4 l1_0 a1_1 a1_2 a1_3 a1_4)))) = some r := h
 clear h
 have HC3 := Aside0.mk H
 clear H
 go_enter Tryd.func7, Tryd.ntmps7
 go_upto_region 1 with (first | ((with_reducible refine gate_dst (N := 2) rfl ?_); refine box_event ?hg (N := 2) ?hd (cs := #[.slice A0_0 l0_0.length c0_0, .int .i64 a0_1, .string a0_2, .int .u32 a0_3, .bool a0_4]) (t := 27) ?hr ?_; (case hd => rfl); (case hg => rfl); (case hr => first | (go_simp; done) | (go_simp; rfl)); intro gb310 hg w4 hbox hb; have n0_ := Aside0.mk (below_step (hb_ HB) hb); have n1_ := Aside0.mk (hbox); have n2_ := Aside0.mk ((by rw [hg]; exact (below_size (hb_ HB)) : w.heap.size ≤ gb310)); have n3_ := Aside0.mk ((by rw [hg]; exact (below_size (hb_ HB)) : w.heap.size ≤ gb310)); clear HB; have HB := n0_; have BK310 := n1_; have GW310 := n2_; have GE310 := n3_; clear n0_ n1_ n2_ n3_; clear hb hbox hg) | ((with_reducible refine gate_dst (N := 3) rfl ?_); refine box_event ?hg (N := 3) ?hd (cs := #[.slice A1_0 l1_0.length c1_0, .int .i64 a1_1, .string a1_2, .int .u32 a1_3, .bool a1_4]) (t := 27) ?hr ?_; (case hd => rfl); (case hg => rfl); (case hr => first | (go_simp; done) | (go_simp; rfl)); intro gb311 hg w5 hbox hb; have n0_ := Aside0.mk (blk_below (bk_ BK310) hb); have n1_ := Aside0.mk (below_step (hb_ HB) hb); have n2_ := Aside0.mk (hbox); have n3_ := Aside0.mk ((by rw [hg]; exact (below_size (hb_ HB)) : w.heap.size ≤ gb311)); have n4_ := Aside0.mk ((by rw [hg]; exact (below_size (hb_ HB)) : w.heap.size ≤ gb311)); have n5_ := Aside0.mk ((by rw [hg]; exact Nat.ne_of_lt (blk_lt (g := gb310) (o := .cells #[.slice A0_0 l0_0.length c0_0, .int .i64 a0_1, .string a0_2, .int .u32 a0_3, .bool a0_4] 27 (0, 0)) (bk_ BK310)) : gb310 ≠ gb311)); have n6_ := Aside0.mk ((by rw [hg]; exact Nat.ne_of_gt (blk_lt (g := gb310) (o := .cells #[.slice A0_0 l0_0.length c0_0, .int .i64 a0_1, .string a0_2, .int .u32 a0_3, .bool a0_4] 27 (0, 0)) (bk_ BK310)) : gb311 ≠ gb310)); clear BK310; clear HB; have BK310 := n0_; have HB := n1_; have BK311 := n2_; have GW311 := n3_; have GE311 := n4_; have NB310_311 := n5_; have NB311_310 := n6_; clear n0_ n1_ n2_ n3_ n4_ n5_ n6_; clear hb hbox hg))
 (try simp only [Act.put, la_, lb_, lc_])
 go_cut [14] (fun v14 wc => ∃ (kq : Nat) (x14_2 : Bool), v14 = .bool x14_2 ∧ Aside0 (headgatelaw12_ImageApart.j0 kq x14_2 l0_0 a0_1 a0_2 a0_3 a0_4 l1_0 a1_1 a1_2 a1_3 a1_4 = some r) ∧ Aside0 (kq ≤ k) ∧ Aside0 (wc.heap[gb310]? = some (.cells #[(.slice A0_0 l0_0.length c0_0), .int .i64 a0_1, .string a0_2, .int .u32 a0_3, .bool a0_4] 27 (0, 0))) ∧ Aside0 (wc.heap[gb311]? = some (.cells #[(.slice A1_0 l1_0.length c1_0), .int .i64 a1_1, .string a1_2, .int .u32 a1_3, .bool a1_4] 27 (0, 0))) ∧ Aside0 (Below w.heap.size w wc))
 case first =>
  have H := HC3.out
  clear HC3
  replace H := Option.bind_eq_some_iff.mp H
  obtain ⟨t312, A60, H⟩ := H
  try dsimp only at H
  have A6 := Aside0.mk A60
  clear A60
  by_cases c7 : t312 = true
  ·subst c7
   have H1 := H
   rw [if_pos rfl] at H1
   clear H
   have H := H1
   clear H1
   have H' := Aside0.mk H
   clear H
   have hnb8 := NB310_311.out
   have hnc8 := NB311_310.out
   have hcz9_0 : w5.cell? ⟨gb310, 0, none⟩ = some (.slice A0_0 l0_0.length c0_0) := (blk_cell BK310.out 0).trans rfl
   have hcz9_1 : w5.cell? ⟨gb310, 1, none⟩ = some (.int .i64 a0_1) := (blk_cell BK310.out 1).trans rfl
   have hcz9_2 : w5.cell? ⟨gb310, 2, none⟩ = some (.string a0_2) := (blk_cell BK310.out 2).trans rfl
   have hcz9_3 : w5.cell? ⟨gb310, 3, none⟩ = some (.int .u32 a0_3) := (blk_cell BK310.out 3).trans rfl
   have hcz9_4 : w5.cell? ⟨gb310, 4, none⟩ = some (.bool a0_4) := (blk_cell BK310.out 4).trans rfl
   have hfz9_0 := blk_frozen BK310.out 0
   have hfz9_1 := blk_frozen BK310.out 1
   have hfz9_2 := blk_frozen BK310.out 2
   have hfz9_3 := blk_frozen BK310.out 3
   have hfz9_4 := blk_frozen BK310.out 4
   go_wp2_with (first | ((with_reducible refine gate_callee (f := 8) rfl ?_); refine goesL_ (some 10) rfl rfl Tryd.func8 (by kernel_rfl) rfl #[.agg #[.slice A0_0 l0_0.length c0_0, .int .i64 a0_1, .string a0_2, .int .u32 a0_3, .bool a0_4]] rfl (by (try simp only [List.map_toArray, List.map_cons, List.map_nil]); first | done | rfl | (simp only [List.length_drop, List.length_take]; rfl)) ?_; (with_reducible refine (headgatelaw10_Large.calls k _ _ l0_0 a0_1 a0_2 a0_3 a0_4 true _ ?side1 ?side2 A6.out).mono ?_); (case side1 => repeat (first | exact (Kd.C_below HR0_0.out HB.out) | (with_reducible refine Kd.C_alloc ?_ _) | (with_reducible refine Kd.C_drewN ?_ _) | (with_reducible refine Kd.C_drew ?_))); (case side2 => exact HC0_0.out); rintro e w10 ⟨rfl, hb⟩; refine ⟨_, rfl, ?_⟩; have n0_ := Aside0.mk (blk_below (bk_ BK310) hb); have n1_ := Aside0.mk (blk_below (bk_ BK311) hb); have n2_ := Aside0.mk (below_step (hb_ HB) hb); clear BK310; clear BK311; clear HB; have BK310 := n0_; have BK311 := n1_; have HB := n2_; clear n0_ n1_ n2_; (try clear hb); (try clear hb2); (try clear hk); (try clear hi)))
   go_meet
   case rel => exact ⟨_, (true), (by first | rfl | (simp; done) | (simp [*]; done)), H', ⟨by first | omega | exact Nat.le_refl _⟩, ⟨bk_ BK310⟩, ⟨bk_ BK311⟩, ⟨hb_ HB⟩⟩
  replace c7 := Bool.eq_false_iff.mpr c7
  subst c7
  have H1 := H
  rw [if_neg (show ¬ (false = true) by decide)] at H1
  clear H
  have H := H1
  clear H1
  replace H := Option.bind_eq_some_iff.mp H
  obtain ⟨t313, A110, H⟩ := H
  try dsimp only at H
  have A11 := Aside0.mk A110
  clear A110
  have H' := Aside0.mk H
  clear H
  have hnb12 := NB310_311.out
  have hnc12 := NB311_310.out
  have hcz13_0 : w5.cell? ⟨gb310, 0, none⟩ = some (.slice A0_0 l0_0.length c0_0) := (blk_cell BK310.out 0).trans rfl
  have hcz13_1 : w5.cell? ⟨gb310, 1, none⟩ = some (.int .i64 a0_1) := (blk_cell BK310.out 1).trans rfl
  have hcz13_2 : w5.cell? ⟨gb310, 2, none⟩ = some (.string a0_2) := (blk_cell BK310.out 2).trans rfl
  have hcz13_3 : w5.cell? ⟨gb310, 3, none⟩ = some (.int .u32 a0_3) := (blk_cell BK310.out 3).trans rfl
  have hcz13_4 : w5.cell? ⟨gb310, 4, none⟩ = some (.bool a0_4) := (blk_cell BK310.out 4).trans rfl
  have hfz13_0 := blk_frozen BK310.out 0
  have hfz13_1 := blk_frozen BK310.out 1
  have hfz13_2 := blk_frozen BK310.out 2
  have hfz13_3 := blk_frozen BK310.out 3
  have hfz13_4 := blk_frozen BK310.out 4
  go_wp2_with (first | ((with_reducible refine gate_callee (f := 8) rfl ?_); refine goesL_ (some 10) rfl rfl Tryd.func8 (by kernel_rfl) rfl #[.agg #[.slice A0_0 l0_0.length c0_0, .int .i64 a0_1, .string a0_2, .int .u32 a0_3, .bool a0_4]] rfl (by (try simp only [List.map_toArray, List.map_cons, List.map_nil]); first | done | rfl | (simp only [List.length_drop, List.length_take]; rfl)) ?_; (with_reducible refine (headgatelaw10_Large.calls k _ _ l0_0 a0_1 a0_2 a0_3 a0_4 false _ ?side1 ?side2 A6.out).mono ?_); (case side1 => repeat (first | exact (Kd.C_below HR0_0.out HB.out) | (with_reducible refine Kd.C_alloc ?_ _) | (with_reducible refine Kd.C_drewN ?_ _) | (with_reducible refine Kd.C_drew ?_))); (case side2 => exact HC0_0.out); rintro e w14 ⟨rfl, hb⟩; refine ⟨_, rfl, ?_⟩; have n0_ := Aside0.mk (blk_below (bk_ BK310) hb); have n1_ := Aside0.mk (blk_below (bk_ BK311) hb); have n2_ := Aside0.mk (below_step (hb_ HB) hb); clear BK310; clear BK311; clear HB; have BK310 := n0_; have BK311 := n1_; have HB := n2_; clear n0_ n1_ n2_; (try clear hb); (try clear hb2); (try clear hk); (try clear hi); have hcz15_0 : w14.cell? ⟨gb311, 0, none⟩ = some (.slice A1_0 l1_0.length c1_0) := (blk_cell BK311.out 0).trans rfl; have hcz15_1 : w14.cell? ⟨gb311, 1, none⟩ = some (.int .i64 a1_1) := (blk_cell BK311.out 1).trans rfl; have hcz15_2 : w14.cell? ⟨gb311, 2, none⟩ = some (.string a1_2) := (blk_cell BK311.out 2).trans rfl; have hcz15_3 : w14.cell? ⟨gb311, 3, none⟩ = some (.int .u32 a1_3) := (blk_cell BK311.out 3).trans rfl; have hcz15_4 : w14.cell? ⟨gb311, 4, none⟩ = some (.bool a1_4) := (blk_cell BK311.out 4).trans rfl; have hfz15_0 := blk_frozen BK311.out 0; have hfz15_1 := blk_frozen BK311.out 1; have hfz15_2 := blk_frozen BK311.out 2; have hfz15_3 := blk_frozen BK311.out 3; have hfz15_4 := blk_frozen BK311.out 4) | (go_at_call 8; (with_reducible refine (headgatelaw10_Large.calls k _ _ l1_0 a1_1 a1_2 a1_3 a1_4 t313 _ ?side1 ?side2 A11.out).mono ?_); (case side1 => repeat (first | exact (Kd.C_below HR1_0.out HB.out) | (with_reducible refine Kd.C_alloc ?_ _) | (with_reducible refine Kd.C_drewN ?_ _) | (with_reducible refine Kd.C_drew ?_))); (case side2 => exact HC1_0.out); rintro e w16 ⟨rfl, hb⟩; have n0_ := Aside0.mk (blk_below (bk_ BK310) hb); have n1_ := Aside0.mk (blk_below (bk_ BK311) hb); have n2_ := Aside0.mk (below_step (hb_ HB) hb); clear BK310; clear BK311; clear HB; have BK310 := n0_; have BK311 := n1_; have HB := n2_; clear n0_ n1_ n2_; (try clear hb); (try clear hb2); (try clear hk); (try clear hi)))
  go_meet
  case rel => exact ⟨_, (t313), (by first | rfl | (simp; done) | (simp [*]; done)), H', ⟨by first | omega | exact Nat.le_refl _⟩, ⟨bk_ BK310⟩, ⟨bk_ BK311⟩, ⟨hb_ HB⟩⟩
 case rest =>
  clear HC3
  try clear c1
  try clear p2
  try clear c7
  try clear c8
  try clear c12
  try clear hcz13_0
  try clear hcz13_1
  try clear hcz13_2
  try clear hcz13_3
  try clear hcz13_4
  try clear hcz15_0
  try clear hcz15_1
  try clear hcz15_2
  try clear hcz15_3
  try clear hcz15_4
  try clear hcz9_0
  try clear hcz9_1
  try clear hcz9_2
  try clear hcz9_3
  try clear hcz9_4
  try clear hfz13_0
  try clear hfz13_1
  try clear hfz13_2
  try clear hfz13_3
  try clear hfz13_4
  try clear hfz15_0
  try clear hfz15_1
  try clear hfz15_2
  try clear hfz15_3
  try clear hfz15_4
  try clear hfz9_0
  try clear hfz9_1
  try clear hfz9_2
  try clear hfz9_3
  try clear hfz9_4
  obtain ⟨kq, x14_2, rfl, HA, HJ2, BK310, BK311, HB⟩ := hcut
  cases kq with
  | zero => exact absurd HA.out (by simp [headgatelaw12_ImageApart.j0])
  | succ kj2 =>
   have H := HA.out
   clear HA
   simp only [headgatelaw12_ImageApart.j0] at H
   by_cases c17 : x14_2 = true
   ·subst c17
    have H1 := H
    rw [if_pos rfl] at H1
    clear H
    have H := H1
    clear H1
    replace H := Option.bind_eq_some_iff.mp H
    obtain ⟨t314, A180, H⟩ := H
    try dsimp only at H
    have A18 := Aside0.mk A180
    clear A180
    obtain rfl := Option.some.inj H
    go_wp2_with (first | ((with_reducible refine gate_callee (f := 9) rfl ?_); refine goesL_ (some 15) rfl rfl Tryd.func9 (by kernel_rfl) rfl #[] rfl (by (try simp only [List.map_toArray, List.map_cons, List.map_nil]); first | done | rfl | (simp only [List.length_drop, List.length_take]; rfl)) ?_; (with_reducible refine (headgatelaw12_wakes.calls kj2  t314 _ ?side1 A18.out).mono ?_); (case side1 => first | ((refine Glob.keep HG.out ?_); (repeat (first | (with_reducible first | exact HB.out | apply below_alloc | apply pw_below_drewN | apply below_drew1 | refine below_set ?_ GE310.out | refine below_set ?_ GE311.out) | exact HB.out)); done) | exact HG.out); rintro e w19 ⟨rfl, hb⟩; refine ⟨_, rfl, ?_⟩; have n0_ := Aside0.mk (blk_below (bk_ BK310) hb); have n1_ := Aside0.mk (blk_below (bk_ BK311) hb); have n2_ := Aside0.mk (below_step (hb_ HB) hb); clear BK310; clear BK311; clear HB; have BK310 := n0_; have BK311 := n1_; have HB := n2_; clear n0_ n1_ n2_; (try clear hb); (try clear hb2); (try clear hk); (try clear hi)))
    go_ret
    exact ⟨by first | rfl | (simp [errW_none, errW_some] <;> rfl) | (simp [*, errW_none, errW_some] <;> rfl) | (simp [bt, *]; done) | (unfold bt; simp [*]; done), by repeat (first | (with_reducible first | exact HB.out | apply below_alloc | apply pw_below_drewN | apply below_drew1 | refine below_set ?_ GE310.out | refine below_set ?_ GE311.out) | exact HB.out)⟩
   replace c17 := Bool.eq_false_iff.mpr c17
   subst c17
   have H1 := H
   rw [if_neg (show ¬ (false = true) by decide)] at H1
   clear H
   have H := H1
   clear H1
   replace H := Option.bind_eq_some_iff.mp H
   obtain ⟨⟨t315, t318, t319, t320, t321⟩, A200, H⟩ := H
   try dsimp only at H
   have A20 := Aside0.mk A200
   clear A200
   replace H := Option.bind_eq_some_iff.mp H
   obtain ⟨⟨t322, t323⟩, A210, H⟩ := H
   try dsimp only at H
   have A21 := Aside0.mk A210
   clear A210
   replace H := Option.bind_eq_some_iff.mp H
   obtain ⟨⟨t324, t327, t328, t329, t330⟩, A220, H⟩ := H
   try dsimp only at H
   have A22 := Aside0.mk A220
   clear A220
   replace H := Option.bind_eq_some_iff.mp H
   obtain ⟨⟨t331, t332⟩, A230, H⟩ := H
   try dsimp only at H
   have A23 := Aside0.mk A230
   clear A230
   have HC24 := Aside0.mk H
   clear H
   have hnb25 := NB310_311.out
   have hnc25 := NB311_310.out
   have hcz26_0 : wc.cell? ⟨gb310, 0, none⟩ = some (.slice A0_0 l0_0.length c0_0) := (blk_cell BK310.out 0).trans rfl
   have hcz26_1 : wc.cell? ⟨gb310, 1, none⟩ = some (.int .i64 a0_1) := (blk_cell BK310.out 1).trans rfl
   have hcz26_2 : wc.cell? ⟨gb310, 2, none⟩ = some (.string a0_2) := (blk_cell BK310.out 2).trans rfl
   have hcz26_3 : wc.cell? ⟨gb310, 3, none⟩ = some (.int .u32 a0_3) := (blk_cell BK310.out 3).trans rfl
   have hcz26_4 : wc.cell? ⟨gb310, 4, none⟩ = some (.bool a0_4) := (blk_cell BK310.out 4).trans rfl
   have hfz26_0 := blk_frozen BK310.out 0
   have hfz26_1 := blk_frozen BK310.out 1
   have hfz26_2 := blk_frozen BK310.out 2
   have hfz26_3 := blk_frozen BK310.out 3
   have hfz26_4 := blk_frozen BK310.out 4
   go_upto_region 5 with (first | ((with_reducible refine gate_callee (f := 10) rfl ?_); refine goesL_ (some 18) rfl rfl Tryd.func10 (by kernel_rfl) rfl #[.agg #[.slice A0_0 l0_0.length c0_0, .int .i64 a0_1, .string a0_2, .int .u32 a0_3, .bool a0_4]] rfl (by (try simp only [List.map_toArray, List.map_cons, List.map_nil]); first | done | rfl | (simp only [List.length_drop, List.length_take]; rfl)) ?_; (with_reducible refine (headgatekeep_CopyTable.calls _ _ l0_0 a0_1 a0_2 a0_3 a0_4 t315 t318 t319 t320 t321 _ ?side1 ?side2 A20.out).mono ?_); (case side1 => repeat (first | exact (Kd.C_below HR0_0.out HB.out) | (with_reducible refine Kd.C_alloc ?_ _) | (with_reducible refine Kd.C_drewN ?_ _) | (with_reducible refine Kd.C_drew ?_))); (case side2 => exact HC0_0.out); rintro e w27 ⟨v316, rfl, ho0, hb⟩; refine ⟨_, rfl, ?_⟩; have n0_ := Aside0.mk (Kd.R_lower ho0 (below_size (hb_ HB))); have n1_ := Aside0.mk (blk_below (bk_ BK310) hb); have n2_ := Aside0.mk (blk_below (bk_ BK311) hb); have n3_ := Aside0.mk (below_step (hb_ HB) hb); clear BK310; clear BK311; clear HB; have HO317 := n0_; have BK310 := n1_; have BK311 := n2_; have HB := n3_; clear n0_ n1_ n2_ n3_; (try clear hb); (try clear hb2); (try clear hk); (try clear hi); (try clear ho0); obtain ⟨Ao28, co28, eo28⟩ := Kd.R_slice HO317.out; subst eo28) | ((with_reducible refine gate_callee (f := 11) rfl ?_); refine goesL_ (some 19) rfl rfl Tryd.func11 (by kernel_rfl) rfl #[.agg #[.slice Ao28 t315.length co28, .int .i64 t318, .string t319, .int .u32 t320, .bool t321]] rfl (by (try simp only [List.map_toArray, List.map_cons, List.map_nil]); first | done | rfl | (simp only [List.length_drop, List.length_take]; rfl)) ?_; (with_reducible refine (image_Encode.calls kj2 _ _ t315 t318 t319 t320 t321 t322 t323 _ ?side1 ?side2 ?side3 A21.out).mono ?_); (case side1 => repeat (first | exact (Kd.R_reads' HO317.out).2.2 | (with_reducible refine Kd.C_alloc ?_ _) | (with_reducible refine Kd.C_drewN ?_ _) | (with_reducible refine Kd.C_drew ?_))); (case side2 => exact (Kd.R_reads' HO317.out).2.1); (case side3 => first | ((refine Glob.keep HG.out ?_); (repeat (first | (with_reducible first | exact HB.out | apply below_alloc | apply pw_below_drewN | apply below_drew1 | refine below_set ?_ GE310.out | refine below_set ?_ GE311.out) | exact HB.out)); done) | exact HG.out); rintro e w29 ⟨rfl, hb⟩; refine ⟨_, rfl, ?_⟩; have n0_ := Aside0.mk (Kd.R_below (by (with_reducible repeat (first | apply Kd.R_alloc | apply Kd.R_drewN | apply Kd.R_drew)); exact HO317.out) hb); have n1_ := Aside0.mk (blk_below (bk_ BK310) hb); have n2_ := Aside0.mk (blk_below (bk_ BK311) hb); have n3_ := Aside0.mk (below_step (hb_ HB) hb); clear HO317; clear BK310; clear BK311; clear HB; have HO317 := n0_; have BK310 := n1_; have BK311 := n2_; have HB := n3_; clear n0_ n1_ n2_ n3_; (try clear hb); (try clear hb2); (try clear hk); (try clear hi); have hcz30_0 : w29.cell? ⟨gb311, 0, none⟩ = some (.slice A1_0 l1_0.length c1_0) := (blk_cell BK311.out 0).trans rfl; have hcz30_1 : w29.cell? ⟨gb311, 1, none⟩ = some (.int .i64 a1_1) := (blk_cell BK311.out 1).trans rfl; have hcz30_2 : w29.cell? ⟨gb311, 2, none⟩ = some (.string a1_2) := (blk_cell BK311.out 2).trans rfl; have hcz30_3 : w29.cell? ⟨gb311, 3, none⟩ = some (.int .u32 a1_3) := (blk_cell BK311.out 3).trans rfl; have hcz30_4 : w29.cell? ⟨gb311, 4, none⟩ = some (.bool a1_4) := (blk_cell BK311.out 4).trans rfl; have hfz30_0 := blk_frozen BK311.out 0; have hfz30_1 := blk_frozen BK311.out 1; have hfz30_2 := blk_frozen BK311.out 2; have hfz30_3 := blk_frozen BK311.out 3; have hfz30_4 := blk_frozen BK311.out 4) | ((with_reducible refine gate_callee (f := 10) rfl ?_); refine goesL_ (some 24) rfl rfl Tryd.func10 (by kernel_rfl) rfl #[.agg #[.slice A1_0 l1_0.length c1_0, .int .i64 a1_1, .string a1_2, .int .u32 a1_3, .bool a1_4]] rfl (by (try simp only [List.map_toArray, List.map_cons, List.map_nil]); first | done | rfl | (simp only [List.length_drop, List.length_take]; rfl)) ?_; (with_reducible refine (headgatekeep_CopyTable.calls _ _ l1_0 a1_1 a1_2 a1_3 a1_4 t324 t327 t328 t329 t330 _ ?side1 ?side2 A22.out).mono ?_); (case side1 => repeat (first | exact (Kd.C_below HR1_0.out HB.out) | (with_reducible refine Kd.C_alloc ?_ _) | (with_reducible refine Kd.C_drewN ?_ _) | (with_reducible refine Kd.C_drew ?_))); (case side2 => exact HC1_0.out); rintro e w31 ⟨v325, rfl, ho0, hb⟩; refine ⟨_, rfl, ?_⟩; have n0_ := Aside0.mk (Kd.R_elder' (by (with_reducible repeat (first | apply Kd.R_alloc | apply Kd.R_drewN | apply Kd.R_drew)); exact HO317.out) (Kd.R_base ho0) hb); have n1_ := Aside0.mk (Kd.R_lower (Kd.R_new' ho0 (Kd.R_lt (by (with_reducible repeat (first | apply Kd.R_alloc | apply Kd.R_drewN | apply Kd.R_drew)); exact HO317.out))) (below_size (hb_ HB))); have n2_ := Aside0.mk (blk_below (bk_ BK310) hb); have n3_ := Aside0.mk (blk_below (bk_ BK311) hb); have n4_ := Aside0.mk (below_step (hb_ HB) hb); clear HO317; clear BK310; clear BK311; clear HB; have HO317 := n0_; have HO326 := n1_; have BK310 := n2_; have BK311 := n3_; have HB := n4_; clear n0_ n1_ n2_ n3_ n4_; (try clear hb); (try clear hb2); (try clear hk); (try clear hi); (try clear ho0); obtain ⟨Ao32, co32, eo32⟩ := Kd.R_slice HO326.out; subst eo32) | ((with_reducible refine gate_callee (f := 11) rfl ?_); refine goesL_ (some 25) rfl rfl Tryd.func11 (by kernel_rfl) rfl #[.agg #[.slice Ao32 t324.length co32, .int .i64 t327, .string t328, .int .u32 t329, .bool t330]] rfl (by (try simp only [List.map_toArray, List.map_cons, List.map_nil]); first | done | rfl | (simp only [List.length_drop, List.length_take]; rfl)) ?_; (with_reducible refine (image_Encode.calls kj2 _ _ t324 t327 t328 t329 t330 t331 t332 _ ?side1 ?side2 ?side3 A23.out).mono ?_); (case side1 => repeat (first | exact (Kd.R_reads' HO326.out).2.2 | (with_reducible refine Kd.C_alloc ?_ _) | (with_reducible refine Kd.C_drewN ?_ _) | (with_reducible refine Kd.C_drew ?_))); (case side2 => exact (Kd.R_reads' HO326.out).2.1); (case side3 => first | ((refine Glob.keep HG.out ?_); (repeat (first | (with_reducible first | exact HB.out | apply below_alloc | apply pw_below_drewN | apply below_drew1 | refine below_set ?_ GE310.out | refine below_set ?_ GE311.out) | exact HB.out)); done) | exact HG.out); rintro e w33 ⟨rfl, hb⟩; refine ⟨_, rfl, ?_⟩; have n0_ := Aside0.mk (Kd.R_below (by (with_reducible repeat (first | apply Kd.R_alloc | apply Kd.R_drewN | apply Kd.R_drew)); exact HO317.out) hb); have n1_ := Aside0.mk (Kd.R_below (by (with_reducible repeat (first | apply Kd.R_alloc | apply Kd.R_drewN | apply Kd.R_drew)); exact HO326.out) hb); have n2_ := Aside0.mk (blk_below (bk_ BK310) hb); have n3_ := Aside0.mk (blk_below (bk_ BK311) hb); have n4_ := Aside0.mk (below_step (hb_ HB) hb); clear HO317; clear HO326; clear BK310; clear BK311; clear HB; have HO317 := n0_; have HO326 := n1_; have BK310 := n2_; have BK311 := n3_; have HB := n4_; clear n0_ n1_ n2_ n3_ n4_; (try clear hb); (try clear hb2); (try clear hk); (try clear hi)))
   (try simp only [Act.put, la_, lb_, lc_])
   go_cut [33] (fun v33 wc => ∃ (kq : Nat) (x33_23 : Bool), v33 = .bool x33_23 ∧ Aside0 (headgatelaw12_ImageApart.j1 kq t322 t323 t331 t332 x33_23 l0_0 a0_1 a0_2 a0_3 a0_4 l1_0 a1_1 a1_2 a1_3 a1_4 = some r) ∧ Aside0 (kq ≤ kj2) ∧ Aside0 (wc.heap[gb310]? = some (.cells #[(.slice A0_0 l0_0.length c0_0), .int .i64 a0_1, .string a0_2, .int .u32 a0_3, .bool a0_4] 27 (0, 0))) ∧ Aside0 (wc.heap[gb311]? = some (.cells #[(.slice A1_0 l1_0.length c1_0), .int .i64 a1_1, .string a1_2, .int .u32 a1_3, .bool a1_4] 27 (0, 0))) ∧ Aside0 (Below w.heap.size w wc))
   case first =>
    have H := HC24.out
    clear HC24
    refine neg_first (p := (t323 = 0)) (fun c34 => ?_) (fun c34 => ?_)
    ·rw [if_neg c34] at H
     have c34b0 : (t323 == 0) = false := beq_eq_false_iff_ne.mpr c34
     have c34b1 : (t323 != 0) = true := bne_iff_ne.mpr c34
     (first | rw [c34b0] | (simp only [i64_w, i32_w]; rw [c34b0]) | skip)
     have H' := Aside0.mk H
     clear H
     go_wp2
     go_meet
     case rel => exact ⟨_, (true), (by first | rfl | (simp; done) | (simp [*]; done)), H', ⟨by have := HJ2.out; first | omega | exact Nat.le_refl _⟩, ⟨bk_ BK310⟩, ⟨bk_ BK311⟩, ⟨hb_ HB⟩⟩
    rw [if_pos c34] at H
    have c34b0 : (t323 == 0) = true := beq_iff_eq.mpr c34
    have c34b1 : (t323 != 0) = false := bne_eq_false_iff_eq.mpr c34
    clear c34
    (first | rw [c34b0] | (simp only [i64_w, i32_w]; rw [c34b0]) | skip)
    have H' := Aside0.mk H
    clear H
    go_wp2
    go_meet
    case rel => exact ⟨_, ((t332 != 0)), (by first | rfl | (simp; done) | (simp [*]; done)), H', ⟨by have := HJ2.out; first | omega | exact Nat.le_refl _⟩, ⟨bk_ BK310⟩, ⟨bk_ BK311⟩, ⟨hb_ HB⟩⟩
   case rest =>
    clear HC24
    try clear c1
    try clear c2
    try clear p2
    try clear c3
    try clear c7
    try clear c8
    try clear c9
    try clear c10
    try clear c11
    try clear c12
    try clear c17
    try clear c25
    try clear c34
    try clear c34b0
    try clear c34b1
    try clear hcz13_0
    try clear hcz13_1
    try clear hcz13_2
    try clear hcz13_3
    try clear hcz13_4
    try clear hcz15_0
    try clear hcz15_1
    try clear hcz15_2
    try clear hcz15_3
    try clear hcz15_4
    try clear hcz26_0
    try clear hcz26_1
    try clear hcz26_2
    try clear hcz26_3
    try clear hcz26_4
    try clear hcz30_0
    try clear hcz30_1
    try clear hcz30_2
    try clear hcz30_3
    try clear hcz30_4
    try clear hcz9_0
    try clear hcz9_1
    try clear hcz9_2
    try clear hcz9_3
    try clear hcz9_4
    try clear hfz13_0
    try clear hfz13_1
    try clear hfz13_2
    try clear hfz13_3
    try clear hfz13_4
    try clear hfz15_0
    try clear hfz15_1
    try clear hfz15_2
    try clear hfz15_3
    try clear hfz15_4
    try clear hfz26_0
    try clear hfz26_1
    try clear hfz26_2
    try clear hfz26_3
    try clear hfz26_4
    try clear hfz30_0
    try clear hfz30_1
    try clear hfz30_2
    try clear hfz30_3
    try clear hfz30_4
    try clear hfz9_0
    try clear hfz9_1
    try clear hfz9_2
    try clear hfz9_3
    try clear hfz9_4
    try clear p2
    obtain ⟨kq, x33_23, rfl, HA, HJ23, BK310, BK311, HB⟩ := hcut
    cases kq with
    | zero => exact absurd HA.out (by simp [headgatelaw12_ImageApart.j1])
    | succ kj23 =>
     have H := HA.out
     clear HA
     simp only [headgatelaw12_ImageApart.j1] at H
     refine neg_first (p := (x33_23 = true)) (fun c35 => ?_) (fun c35 => ?_)
     ·replace c35 := Bool.eq_false_iff.mpr c35
      subst c35
      have H1 := H
      rw [if_neg (show ¬ (false = true) by decide)] at H1
      clear H
      have H := H1
      clear H1
      replace H := Option.bind_eq_some_iff.mp H
      obtain ⟨t337, A500, H⟩ := H
      try dsimp only at H
      have A50 := Aside0.mk A500
      clear A500
      refine neg_first (p := (((t322.toList == t331.toList) == t337) = true)) (fun c51 => ?_) (fun c51 => ?_)
      ·rw [if_neg c51] at H
       have c51b0 : ((t322.toList == t331.toList) == t337) = false := by simpa using c51
       (try (have c51b1 : decide ((t322.toList == t331.toList) = t337) = false := by simpa using c51))
       (try (have c51b2 : ((t322.toList == t331.toList) == t337) = false := by simpa using c51))
       (try (have c51b3 : ¬ ((t322.toList == t331.toList) = t337) := by simpa using c51))
       clear c51
       exact absurd ((Option.some.inj H).trans HT0.out) (by decide)

      rw [if_pos c51] at H
      have c51b0 : ((t322.toList == t331.toList) == t337) = true := c51
      (try (have c51b1 : decide ((t322.toList == t331.toList) = t337) = true := by simpa using c51))
      (try (have c51b2 : ((t322.toList == t331.toList) == t337) = true := by simpa using c51))
      clear c51
      replace H := Option.bind_eq_some_iff.mp H
      obtain ⟨t338, A520, H⟩ := H
      try dsimp only at H
      have A52 := Aside0.mk A520
      clear A520
      obtain rfl := Option.some.inj H
      have hnb53 := NB310_311.out
      have hnc53 := NB311_310.out
      have hcz54_0 : wc.cell? ⟨gb310, 0, none⟩ = some (.slice A0_0 l0_0.length c0_0) := (blk_cell BK310.out 0).trans rfl
      have hcz54_1 : wc.cell? ⟨gb310, 1, none⟩ = some (.int .i64 a0_1) := (blk_cell BK310.out 1).trans rfl
      have hcz54_2 : wc.cell? ⟨gb310, 2, none⟩ = some (.string a0_2) := (blk_cell BK310.out 2).trans rfl
      have hcz54_3 : wc.cell? ⟨gb310, 3, none⟩ = some (.int .u32 a0_3) := (blk_cell BK310.out 3).trans rfl
      have hcz54_4 : wc.cell? ⟨gb310, 4, none⟩ = some (.bool a0_4) := (blk_cell BK310.out 4).trans rfl
      have hfz54_0 := blk_frozen BK310.out 0
      have hfz54_1 := blk_frozen BK310.out 1
      have hfz54_2 := blk_frozen BK310.out 2
      have hfz54_3 := blk_frozen BK310.out 3
      have hfz54_4 := blk_frozen BK310.out 4
      have hcz55_0 : wc.cell? ⟨gb311, 0, none⟩ = some (.slice A1_0 l1_0.length c1_0) := (blk_cell BK311.out 0).trans rfl
      have hcz55_1 : wc.cell? ⟨gb311, 1, none⟩ = some (.int .i64 a1_1) := (blk_cell BK311.out 1).trans rfl
      have hcz55_2 : wc.cell? ⟨gb311, 2, none⟩ = some (.string a1_2) := (blk_cell BK311.out 2).trans rfl
      have hcz55_3 : wc.cell? ⟨gb311, 3, none⟩ = some (.int .u32 a1_3) := (blk_cell BK311.out 3).trans rfl
      have hcz55_4 : wc.cell? ⟨gb311, 4, none⟩ = some (.bool a1_4) := (blk_cell BK311.out 4).trans rfl
      have hfz55_0 := blk_frozen BK311.out 0
      have hfz55_1 := blk_frozen BK311.out 1
      have hfz55_2 := blk_frozen BK311.out 2
      have hfz55_3 := blk_frozen BK311.out 3
      have hfz55_4 := blk_frozen BK311.out 4
      go_wp2_with (first | ((with_reducible refine gate_callee (f := 13) rfl ?_); refine goesL_ (some 56) rfl rfl Tryd.func13 (by kernel_rfl) rfl #[.agg #[.slice A0_0 l0_0.length c0_0, .int .i64 a0_1, .string a0_2, .int .u32 a0_3, .bool a0_4], .agg #[.slice A1_0 l1_0.length c1_0, .int .i64 a1_1, .string a1_2, .int .u32 a1_3, .bool a1_4]] rfl (by (try simp only [List.map_toArray, List.map_cons, List.map_nil]); first | done | rfl | (simp only [List.length_drop, List.length_take]; rfl)) ?_; (with_reducible refine (headgatekeep_Tables.calls kj23 _ _ l0_0 a0_1 a0_2 a0_3 a0_4 _ _ l1_0 a1_1 a1_2 a1_3 a1_4 t337 _ ?side1 ?side2 ?side3 ?side4 A50.out).mono ?_); (case side1 => repeat (first | exact (Kd.C_below HR0_0.out HB.out) | (with_reducible refine Kd.C_alloc ?_ _) | (with_reducible refine Kd.C_drewN ?_ _) | (with_reducible refine Kd.C_drew ?_))); (case side2 => exact HC0_0.out); (case side3 => repeat (first | exact (Kd.C_below HR1_0.out HB.out) | (with_reducible refine Kd.C_alloc ?_ _) | (with_reducible refine Kd.C_drewN ?_ _) | (with_reducible refine Kd.C_drew ?_))); (case side4 => exact HC1_0.out); rintro e w56 ⟨rfl, hb⟩; refine ⟨_, rfl, ?_⟩; have n0_ := Aside0.mk (blk_below (bk_ BK310) hb); have n1_ := Aside0.mk (blk_below (bk_ BK311) hb); have n2_ := Aside0.mk (below_step (hb_ HB) hb); clear BK310; clear BK311; clear HB; have BK310 := n0_; have BK311 := n1_; have HB := n2_; clear n0_ n1_ n2_; (try clear hb); (try clear hb2); (try clear hk); (try clear hi)) | (go_at_call 9; (with_reducible refine (headgatelaw12_wakes.calls kj23  t338 _ ?side1 A52.out).mono ?_); (case side1 => first | ((refine Glob.keep HG.out ?_); (repeat (first | (with_reducible first | exact HB.out | apply below_alloc | apply pw_below_drewN | apply below_drew1 | refine below_set ?_ GE310.out | refine below_set ?_ GE311.out) | exact HB.out)); done) | exact HG.out); rintro e w57 ⟨rfl, hb⟩; have n0_ := Aside0.mk (blk_below (bk_ BK310) hb); have n1_ := Aside0.mk (blk_below (bk_ BK311) hb); have n2_ := Aside0.mk (below_step (hb_ HB) hb); clear BK310; clear BK311; clear HB; have BK310 := n0_; have BK311 := n1_; have HB := n2_; clear n0_ n1_ n2_; (try clear hb); (try clear hb2); (try clear hk); (try clear hi)))
      go_ret
      exact ⟨by first | rfl | (simp [errW_none, errW_some] <;> rfl) | (simp [*, errW_none, errW_some] <;> rfl) | (simp [bt, *]; done) | (unfold bt; simp [*]; done), by repeat (first | (with_reducible first | exact HB.out | apply below_alloc | apply pw_below_drewN | apply below_drew1 | refine below_set ?_ GE310.out | refine below_set ?_ GE311.out) | exact HB.out)⟩
     subst c35
     have H1 := H
     rw [if_pos rfl] at H1
     clear H
     have H := H1
     clear H1
     by_cases c36 : t323 = 0
     ·rw [if_pos c36] at H
      have c36b0 : (t323 == 0) = true := beq_iff_eq.mpr c36
      have c36b1 : (t323 != 0) = false := bne_eq_false_iff_eq.mpr c36
      clear c36
      by_cases c37 : t332 = 0
      ·rw [if_pos c37] at H
       have c37b0 : (t332 == 0) = true := beq_iff_eq.mpr c37
       have c37b1 : (t332 != 0) = false := bne_eq_false_iff_eq.mpr c37
       clear c37
       replace H := Option.bind_eq_some_iff.mp H
       obtain ⟨t333, A380, H⟩ := H
       try dsimp only at H
       have A38 := Aside0.mk A380
       clear A380
       obtain rfl := Option.some.inj H
       go_wp2_with (first | (go_at_call 9; (with_reducible refine (headgatelaw12_wakes.calls kj23  t333 _ ?side1 A38.out).mono ?_); (case side1 => first | ((refine Glob.keep HG.out ?_); (repeat (first | (with_reducible first | exact HB.out | apply below_alloc | apply pw_below_drewN | apply below_drew1 | refine below_set ?_ GE310.out | refine below_set ?_ GE311.out) | exact HB.out)); done) | exact HG.out); rintro e w39 ⟨rfl, hb⟩; have n0_ := Aside0.mk (blk_below (bk_ BK310) hb); have n1_ := Aside0.mk (blk_below (bk_ BK311) hb); have n2_ := Aside0.mk (below_step (hb_ HB) hb); clear BK310; clear BK311; clear HB; have BK310 := n0_; have BK311 := n1_; have HB := n2_; clear n0_ n1_ n2_; (try clear hb); (try clear hb2); (try clear hk); (try clear hi)))
       go_ret
       exact ⟨by first | rfl | (simp [errW_none, errW_some] <;> rfl) | (simp [*, errW_none, errW_some] <;> rfl) | (simp [bt, *]; done) | (unfold bt; simp [*]; done), by repeat (first | (with_reducible first | exact HB.out | apply below_alloc | apply pw_below_drewN | apply below_drew1 | refine below_set ?_ GE310.out | refine below_set ?_ GE311.out) | exact HB.out)⟩
      rw [if_neg c37] at H
      have c37b0 : (t332 == 0) = false := beq_eq_false_iff_ne.mpr c37
      have c37b1 : (t332 != 0) = true := bne_iff_ne.mpr c37
      refine neg_first (p := (t331.toList = ([] : List UInt8))) (fun c40 => ?_) (fun c40 => ?_)
      ·rw [if_neg c40] at H
       have c40b0 : (t331.toList == ([] : List UInt8)) = false := beq_eq_false_iff_ne.mpr c40
       have c40b1 : (t331.toList != ([] : List UInt8)) = true := bne_iff_ne.mpr c40
       (try (have c40b2 : (t331 = ByteArray.empty) = False := eq_false (fun h_ => c40 (by rw [h_, ByteArray.toList_eq]; rfl))))
       exact absurd ((Option.some.inj H).trans HT0.out) (by decide)
      rw [if_pos c40] at H
      have c40b0 : (t331.toList == ([] : List UInt8)) = true := beq_iff_eq.mpr c40
      have c40b1 : (t331.toList != ([] : List UInt8)) = false := bne_eq_false_iff_eq.mpr c40
      (try (have c40b2 : (t331 = ByteArray.empty) = True := eq_true (by have h_ := c40; rw [ByteArray.toList_eq] at h_; exact ByteArray.ext (Array.toList_eq_nil_iff.mp h_))))
      clear c40
      replace H := Option.bind_eq_some_iff.mp H
      obtain ⟨t334, A410, H⟩ := H
      try dsimp only at H
      have A41 := Aside0.mk A410
      clear A410
      obtain rfl := Option.some.inj H
      go_wp2_with (first | (go_at_call 9; (with_reducible refine (headgatelaw12_wakes.calls kj23  t334 _ ?side1 A41.out).mono ?_); (case side1 => first | ((refine Glob.keep HG.out ?_); (repeat (first | (with_reducible first | exact HB.out | apply below_alloc | apply pw_below_drewN | apply below_drew1 | refine below_set ?_ GE310.out | refine below_set ?_ GE311.out) | exact HB.out)); done) | exact HG.out); rintro e w42 ⟨rfl, hb⟩; have n0_ := Aside0.mk (blk_below (bk_ BK310) hb); have n1_ := Aside0.mk (blk_below (bk_ BK311) hb); have n2_ := Aside0.mk (below_step (hb_ HB) hb); clear BK310; clear BK311; clear HB; have BK310 := n0_; have BK311 := n1_; have HB := n2_; clear n0_ n1_ n2_; (try clear hb); (try clear hb2); (try clear hk); (try clear hi)))
      go_ret
      exact ⟨by first | rfl | (simp [errW_none, errW_some] <;> rfl) | (simp [*, errW_none, errW_some] <;> rfl) | (simp [bt, *]; done) | (unfold bt; simp [*]; done), by repeat (first | (with_reducible first | exact HB.out | apply below_alloc | apply pw_below_drewN | apply below_drew1 | refine below_set ?_ GE310.out | refine below_set ?_ GE311.out) | exact HB.out)⟩
     rw [if_neg c36] at H
     have c36b0 : (t323 == 0) = false := beq_eq_false_iff_ne.mpr c36
     have c36b1 : (t323 != 0) = true := bne_iff_ne.mpr c36
     refine neg_first (p := (t322.toList = ([] : List UInt8))) (fun c43 => ?_) (fun c43 => ?_)
     ·rw [if_neg c43] at H
      have c43b0 : (t322.toList == ([] : List UInt8)) = false := beq_eq_false_iff_ne.mpr c43
      have c43b1 : (t322.toList != ([] : List UInt8)) = true := bne_iff_ne.mpr c43
      (try (have c43b2 : (t322 = ByteArray.empty) = False := eq_false (fun h_ => c43 (by rw [h_, ByteArray.toList_eq]; rfl))))
      exact absurd ((Option.some.inj H).trans HT0.out) (by decide)
     rw [if_pos c43] at H
     have c43b0 : (t322.toList == ([] : List UInt8)) = true := beq_iff_eq.mpr c43
     have c43b1 : (t322.toList != ([] : List UInt8)) = false := bne_eq_false_iff_eq.mpr c43
     (try (have c43b2 : (t322 = ByteArray.empty) = True := eq_true (by have h_ := c43; rw [ByteArray.toList_eq] at h_; exact ByteArray.ext (Array.toList_eq_nil_iff.mp h_))))
     clear c43
     by_cases c44 : t332 = 0
     ·rw [if_pos c44] at H
      have c44b0 : (t332 == 0) = true := beq_iff_eq.mpr c44
      have c44b1 : (t332 != 0) = false := bne_eq_false_iff_eq.mpr c44
      clear c44
      replace H := Option.bind_eq_some_iff.mp H
      obtain ⟨t335, A450, H⟩ := H
      try dsimp only at H
      have A45 := Aside0.mk A450
      clear A450
      obtain rfl := Option.some.inj H
      go_wp2_with (first | (go_at_call 9; (with_reducible refine (headgatelaw12_wakes.calls kj23  t335 _ ?side1 A45.out).mono ?_); (case side1 => first | ((refine Glob.keep HG.out ?_); (repeat (first | (with_reducible first | exact HB.out | apply below_alloc | apply pw_below_drewN | apply below_drew1 | refine below_set ?_ GE310.out | refine below_set ?_ GE311.out) | exact HB.out)); done) | exact HG.out); rintro e w46 ⟨rfl, hb⟩; have n0_ := Aside0.mk (blk_below (bk_ BK310) hb); have n1_ := Aside0.mk (blk_below (bk_ BK311) hb); have n2_ := Aside0.mk (below_step (hb_ HB) hb); clear BK310; clear BK311; clear HB; have BK310 := n0_; have BK311 := n1_; have HB := n2_; clear n0_ n1_ n2_; (try clear hb); (try clear hb2); (try clear hk); (try clear hi)))
      go_ret
      exact ⟨by first | rfl | (simp [errW_none, errW_some] <;> rfl) | (simp [*, errW_none, errW_some] <;> rfl) | (simp [bt, *]; done) | (unfold bt; simp [*]; done), by repeat (first | (with_reducible first | exact HB.out | apply below_alloc | apply pw_below_drewN | apply below_drew1 | refine below_set ?_ GE310.out | refine below_set ?_ GE311.out) | exact HB.out)⟩
     rw [if_neg c44] at H
     have c44b0 : (t332 == 0) = false := beq_eq_false_iff_ne.mpr c44
     have c44b1 : (t332 != 0) = true := bne_iff_ne.mpr c44
     refine neg_first (p := (t331.toList = ([] : List UInt8))) (fun c47 => ?_) (fun c47 => ?_)
     ·rw [if_neg c47] at H
      have c47b0 : (t331.toList == ([] : List UInt8)) = false := beq_eq_false_iff_ne.mpr c47
      have c47b1 : (t331.toList != ([] : List UInt8)) = true := bne_iff_ne.mpr c47
      (try (have c47b2 : (t331 = ByteArray.empty) = False := eq_false (fun h_ => c47 (by rw [h_, ByteArray.toList_eq]; rfl))))
      exact absurd ((Option.some.inj H).trans HT0.out) (by decide)
     rw [if_pos c47] at H
     have c47b0 : (t331.toList == ([] : List UInt8)) = true := beq_iff_eq.mpr c47
     have c47b1 : (t331.toList != ([] : List UInt8)) = false := bne_eq_false_iff_eq.mpr c47
     (try (have c47b2 : (t331 = ByteArray.empty) = True := eq_true (by have h_ := c47; rw [ByteArray.toList_eq] at h_; exact ByteArray.ext (Array.toList_eq_nil_iff.mp h_))))
     clear c47
     replace H := Option.bind_eq_some_iff.mp H
     obtain ⟨t336, A480, H⟩ := H
     try dsimp only at H
     have A48 := Aside0.mk A480
     clear A480
     obtain rfl := Option.some.inj H
     go_wp2_with (first | (go_at_call 9; (with_reducible refine (headgatelaw12_wakes.calls kj23  t336 _ ?side1 A48.out).mono ?_); (case side1 => first | ((refine Glob.keep HG.out ?_); (repeat (first | (with_reducible first | exact HB.out | apply below_alloc | apply pw_below_drewN | apply below_drew1 | refine below_set ?_ GE310.out | refine below_set ?_ GE311.out) | exact HB.out)); done) | exact HG.out); rintro e w49 ⟨rfl, hb⟩; have n0_ := Aside0.mk (blk_below (bk_ BK310) hb); have n1_ := Aside0.mk (blk_below (bk_ BK311) hb); have n2_ := Aside0.mk (below_step (hb_ HB) hb); clear BK310; clear BK311; clear HB; have BK310 := n0_; have BK311 := n1_; have HB := n2_; clear n0_ n1_ n2_; (try clear hb); (try clear hb2); (try clear hk); (try clear hi)))
     go_ret
     exact ⟨by first | rfl | (simp [errW_none, errW_some] <;> rfl) | (simp [*, errW_none, errW_some] <;> rfl) | (simp [bt, *]; done) | (unfold bt; simp [*]; done), by repeat (first | (with_reducible first | exact HB.out | apply below_alloc | apply pw_below_drewN | apply below_drew1 | refine below_set ?_ GE310.out | refine below_set ?_ GE311.out) | exact HB.out)⟩
end Go.Proofs.YtmpicpenbhdbhaaDoor.P
