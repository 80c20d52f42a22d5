-- written by this session's patched copy of the printer (wip/tools/patch_print.py); Lean checks it
import Derived.Test.YtjogkfcjlljjcaaDoorXaResvClears
namespace Go.Proofs.YtjogkfcjlljjcaaDoor.P
open Go.RowKit Go.Proofs.YtjogkfcjlljjcaaDoorW.PrintWords Go.Proofs.YtjogkfcjlljjcaaDoorW.PrintLast Go.Proofs.YtjogkfcjlljjcaaDoorW.PrintMore
attribute [local go_sem] max2_int min2_int max_two min_two max_three min_three max_four min_four   -- for this text's walks alone
set_option linter.unusedVariables false
set_option linter.unusedSimpArgs false
set_option linter.unnecessarySimpa false

/-! ### headgatelaw11_ResvClears: function 10 -/
mutual
def headgatelaw11_ResvClears.j0 : Nat → ByteArray → Int → Bool → List (S53) → Int → ByteArray → Int → Bool → Option (Bool)
 | 0, _, _, _, _, _, _, _, _ => none
 | k + 1, x1, x2, x35, x601000, x601001, x601002, x601003, x601004 => if x35 = true then ((headgatelaw11_wakes.f k).bind fun t605 => (some t605)) else ((headgateref11_Key.f k x601000 x601001 x601002 x601003 x601004 x1).bind fun t606 => ((headgatekeep_CopyTable.f x601000 x601001 x601002 x601003 x601004).bind fun bt607 => ((resv_Do.f k bt607.1 bt607.2.1 bt607.2.2.1 bt607.2.2.2.1 bt607.2.2.2.2 11 0 x1 0 0 (⟨#[]⟩ : ByteArray) false ([] : List (S100)) t606 0 0 0 false 0).bind fun bt614 => (if bt614.2.2.2.2.2.2 = 1 then (if (bt614.1.length : Int) = 0 then (if bt614.2.1 = 0 then (if (bt614.2.2.2.2.2.1.length : Int) = (wrap64 ((x601000.length : Int) - 1)) then (if bt614.2.2.2.1 = ((x601003 + 1) % 4294967296) then (headgatelaw11_ResvClears.j1 k x1 x2 t606 (bt614.2.2.2.2.1 != x601004) bt614.1 bt614.2.1 bt614.2.2.1 bt614.2.2.2.1 bt614.2.2.2.2.1) else (headgatelaw11_ResvClears.j1 k x1 x2 t606 true bt614.1 bt614.2.1 bt614.2.2.1 bt614.2.2.2.1 bt614.2.2.2.2.1)) else (headgatelaw11_ResvClears.j1 k x1 x2 t606 true bt614.1 bt614.2.1 bt614.2.2.1 bt614.2.2.2.1 bt614.2.2.2.2.1)) else (headgatelaw11_ResvClears.j1 k x1 x2 t606 true bt614.1 bt614.2.1 bt614.2.2.1 bt614.2.2.2.1 bt614.2.2.2.2.1)) else (headgatelaw11_ResvClears.j1 k x1 x2 t606 true bt614.1 bt614.2.1 bt614.2.2.1 bt614.2.2.2.1 bt614.2.2.2.2.1)) else (headgatelaw11_ResvClears.j1 k x1 x2 t606 true bt614.1 bt614.2.1 bt614.2.2.1 bt614.2.2.2.1 bt614.2.2.2.2.1)))))
def headgatelaw11_ResvClears.j1 : Nat → ByteArray → Int → Int → Bool → List (S53) → Int → ByteArray → Int → Bool → Option (Bool)
 | 0, _, _, _, _, _, _, _, _, _ => none
 | k + 1, x1, x2, x7, x87, x626000, x626001, x626002, x626003, x626004 => if x87 = true then (some false) else ((headgatekeep_Mod.f x2 6).bind fun t626 => ((resv_Do.f k x626000 x626001 x626002 x626003 x626004 8 0 x1 0 0 (⟨#[]⟩ : ByteArray) false ([] : List (S100)) 0 x7 0 0 false 0).bind fun bt627 => ((resv_Do.f k bt627.1 bt627.2.1 bt627.2.2.1 bt627.2.2.2.1 bt627.2.2.2.2.1 9 0 x1 0 0 (⟨#[]⟩ : ByteArray) false ([] : List (S100)) x7 0 0 (wrap64 (1 + t626)) false 0).bind fun bt639 => (if bt627.2.2.2.2.2.2 = 1 then (if bt639.2.2.2.2.2.2 = 1 then ((access_Holds.f k bt639.1 bt639.2.1 bt639.2.2.1 bt639.2.2.2.1 bt639.2.2.2.2.1 x1).bind fun t651 => (if t651 = true then (if bt639.2.1 = (wrap64 (1 + t626)) then ((access_May.f k bt639.1 bt639.2.1 bt639.2.2.1 bt639.2.2.2.1 bt639.2.2.2.2.1 x1 3).bind fun t652 => (if t652 = true then ((headgatelaw11_wakes.f k).bind fun t653 => (some t653)) else (some false))) else (some false)) else (some false))) else (some false)) else (some false)))))
end
def headgatelaw11_ResvClears.f (k : Nat) (l0_0 : List (S53)) (a0_1 : Int) (a0_2 : ByteArray) (a0_3 : Int) (a0_4 : Bool) (a1 : ByteArray) (a2 : Int) : Option (Bool) := (headgatelaw10_Large.f k l0_0 a0_1 a0_2 a0_3 a0_4).bind fun t601 => (if t601 = true then (headgatelaw11_ResvClears.j0 k a1 a2 true l0_0 a0_1 a0_2 a0_3 a0_4) else ((headgateref11_Good.f k l0_0 a0_1 a0_2 a0_3 a0_4).bind fun t602 => (if t602 = true then ((headgateref03_Name.f k a1).bind fun t603 => (if t603 = true then ((headgateref11_Key.f k l0_0 a0_1 a0_2 a0_3 a0_4 a1).bind fun t604 => (headgatelaw11_ResvClears.j0 k a1 a2 (t604 == 0) l0_0 a0_1 a0_2 a0_3 a0_4)) else (headgatelaw11_ResvClears.j0 k a1 a2 true l0_0 a0_1 a0_2 a0_3 a0_4))) else (headgatelaw11_ResvClears.j0 k a1 a2 true l0_0 a0_1 a0_2 a0_3 a0_4))))
theorem headgatelaw11_ResvClears.mono_l : ∀ k, (∀ y0 y1 y2 y3 y4 y5 y6 y7, LeO (headgatelaw11_ResvClears.j0 k y0 y1 y2 y3 y4 y5 y6 y7) (headgatelaw11_ResvClears.j0 (k + 1) y0 y1 y2 y3 y4 y5 y6 y7)) ∧ (∀ y0 y1 y2 y3 y4 y5 y6 y7 y8, LeO (headgatelaw11_ResvClears.j1 k y0 y1 y2 y3 y4 y5 y6 y7 y8) (headgatelaw11_ResvClears.j1 (k + 1) y0 y1 y2 y3 y4 y5 y6 y7 y8))
 | 0 => ⟨fun _ _ _ _ _ _ _ _ r h => by simp [headgatelaw11_ResvClears.j0] at h, fun _ _ _ _ _ _ _ _ _ r h => by simp [headgatelaw11_ResvClears.j1] at h⟩
 | k + 1 => by
  obtain ⟨ih0, ih1⟩ := headgatelaw11_ResvClears.mono_l k
  refine ⟨?_, ?_⟩
  ·intro y0 y1 y2 y3 y4 y5 y6 y7
   unfold headgatelaw11_ResvClears.j0
   repeat' first
   | (with_reducible exact ih0 _ _ _ _ _ _ _ _)
   | (with_reducible exact ih1 _ _ _ _ _ _ _ _ _)
   | (with_reducible exact access_Holds.mono _ _ _ _ _ _ _)
   | (with_reducible exact access_May.mono _ _ _ _ _ _ _ _)
   | (with_reducible exact headgatelaw10_Large.mono _ _ _ _ _ _)
   | (with_reducible exact headgatelaw11_wakes.mono _)
   | (with_reducible exact headgateref03_Name.mono _ _)
   | (with_reducible exact headgateref11_Good.mono _ _ _ _ _ _)
   | (with_reducible exact headgateref11_Key.mono _ _ _ _ _ _ _)
   | (with_reducible exact resv_Do.mono _ _ _ _ _ _ _ _ _ _ _ _ _ _ _ _ _ _ _ _)
   | (with_reducible exact LeO.refl _)
   | (with_reducible exact LeO.none _)
   | (with_reducible refine LeO.ite ?_ ?_)
   | (with_reducible refine LeO.bind ?_ (fun _ => ?_))
   | exact ih0 _ _ _ _ _ _ _ _
   | exact ih1 _ _ _ _ _ _ _ _ _
   | exact access_Holds.mono _ _ _ _ _ _ _
   | exact access_May.mono _ _ _ _ _ _ _ _
   | exact headgatelaw10_Large.mono _ _ _ _ _ _
   | exact headgatelaw11_wakes.mono _
   | exact headgateref03_Name.mono _ _
   | exact headgateref11_Good.mono _ _ _ _ _ _
   | exact headgateref11_Key.mono _ _ _ _ _ _ _
   | exact resv_Do.mono _ _ _ _ _ _ _ _ _ _ _ _ _ _ _ _ _ _ _ _
   | exact LeO.none _
   | refine LeO.ite ?_ ?_
   | refine LeO.bind ?_ (fun _ => ?_)
  ·intro y0 y1 y2 y3 y4 y5 y6 y7 y8
   unfold headgatelaw11_ResvClears.j1
   repeat' first
   | (with_reducible exact ih0 _ _ _ _ _ _ _ _)
   | (with_reducible exact ih1 _ _ _ _ _ _ _ _ _)
   | (with_reducible exact access_Holds.mono _ _ _ _ _ _ _)
   | (with_reducible exact access_May.mono _ _ _ _ _ _ _ _)
   | (with_reducible exact headgatelaw10_Large.mono _ _ _ _ _ _)
   | (with_reducible exact headgatelaw11_wakes.mono _)
   | (with_reducible exact headgateref03_Name.mono _ _)
   | (with_reducible exact headgateref11_Good.mono _ _ _ _ _ _)
   | (with_reducible exact headgateref11_Key.mono _ _ _ _ _ _ _)
   | (with_reducible exact resv_Do.mono _ _ _ _ _ _ _ _ _ _ _ _ _ _ _ _ _ _ _ _)
   | (with_reducible exact LeO.refl _)
   | (with_reducible exact LeO.none _)
   | (with_reducible refine LeO.ite ?_ ?_)
   | (with_reducible refine LeO.bind ?_ (fun _ => ?_))
   | exact ih0 _ _ _ _ _ _ _ _
   | exact ih1 _ _ _ _ _ _ _ _ _
   | exact access_Holds.mono _ _ _ _ _ _ _
   | exact access_May.mono _ _ _ _ _ _ _ _
   | exact headgatelaw10_Large.mono _ _ _ _ _ _
   | exact headgatelaw11_wakes.mono _
   | exact headgateref03_Name.mono _ _
   | exact headgateref11_Good.mono _ _ _ _ _ _
   | exact headgateref11_Key.mono _ _ _ _ _ _ _
   | exact resv_Do.mono _ _ _ _ _ _ _ _ _ _ _ _ _ _ _ _ _ _ _ _
   | exact LeO.none _
   | refine LeO.ite ?_ ?_
   | refine LeO.bind ?_ (fun _ => ?_)
theorem headgatelaw11_ResvClears.mono : ∀ a0 a1 a2 a3 a4 a5 a6 k, LeO (headgatelaw11_ResvClears.f k a0 a1 a2 a3 a4 a5 a6) (headgatelaw11_ResvClears.f (k + 1) a0 a1 a2 a3 a4 a5 a6) := by
 intro a0 a1 a2 a3 a4 a5 a6 k
 obtain ⟨ih0, ih1⟩ := headgatelaw11_ResvClears.mono_l k
 unfold headgatelaw11_ResvClears.f
 repeat' first
   | (with_reducible exact ih0 _ _ _ _ _ _ _ _)
   | (with_reducible exact ih1 _ _ _ _ _ _ _ _ _)
   | (with_reducible exact access_Holds.mono _ _ _ _ _ _ _)
   | (with_reducible exact access_May.mono _ _ _ _ _ _ _ _)
   | (with_reducible exact headgatelaw10_Large.mono _ _ _ _ _ _)
   | (with_reducible exact headgatelaw11_wakes.mono _)
   | (with_reducible exact headgateref03_Name.mono _ _)
   | (with_reducible exact headgateref11_Good.mono _ _ _ _ _ _)
   | (with_reducible exact headgateref11_Key.mono _ _ _ _ _ _ _)
   | (with_reducible exact resv_Do.mono _ _ _ _ _ _ _ _ _ _ _ _ _ _ _ _ _ _ _ _)
   | (with_reducible exact LeO.refl _)
   | (with_reducible exact LeO.none _)
   | (with_reducible refine LeO.ite ?_ ?_)
   | (with_reducible refine LeO.bind ?_ (fun _ => ?_))
   | exact ih0 _ _ _ _ _ _ _ _
   | exact ih1 _ _ _ _ _ _ _ _ _
   | exact access_Holds.mono _ _ _ _ _ _ _
   | exact access_May.mono _ _ _ _ _ _ _ _
   | exact headgatelaw10_Large.mono _ _ _ _ _ _
   | exact headgatelaw11_wakes.mono _
   | exact headgateref03_Name.mono _ _
   | exact headgateref11_Good.mono _ _ _ _ _ _
   | exact headgateref11_Key.mono _ _ _ _ _ _ _
   | exact resv_Do.mono _ _ _ _ _ _ _ _ _ _ _ _ _ _ _ _ _ _ _ _
   | exact LeO.none _
   | refine LeO.ite ?_ ?_
   | refine LeO.bind ?_ (fun _ => ?_)
set_option maxHeartbeats 8000000 in
set_option maxRecDepth 100000 in
theorem headgatelaw11_ResvClears.calls (k : Nat) (A0_0 : Option Addr) (c0_0 : Nat) (l0_0 : List (S53)) (a0_1 : Int) (a0_2 : ByteArray) (a0_3 : Int) (a0_4 : Bool) (a1 : ByteArray) (a2 : Int) (r : Bool) (w : World) (hr0_0 : Kd.C k53 w A0_0 l0_0.length l0_0) (hc0_0 : l0_0.length ≤ c0_0) (hG : Glob w) (hT : r = true) (h : headgatelaw11_ResvClears.f k l0_0 a0_1 a0_2 a0_3 a0_4 a1 a2 = some r) :
  Calls Tryd.prog 10 #[.agg #[.slice A0_0 l0_0.length c0_0, .int .i64 a0_1, .string a0_2, .int .u32 a0_3, .bool a0_4], .string a1, .int .i64 a2] w fun e w' => e = .returned (.bool r) ∧ Below w.heap.size w w' := by
 have hu27 := Tryd.underlying27
 have hu31 := Tryd.underlying31
 have HT0 := Aside0.mk hT
 clear hT
 have HG := Aside0.mk hG
 clear hG
 have HR0_0 := Aside0.mk hr0_0
 have HC0_0 := Aside0.mk hc0_0
 clear hr0_0 hc0_0
 have HB := Aside0.mk (Below.refl w.heap.size w)
 have H : ((headgatelaw10_Large.f k l0_0 a0_1 a0_2 a0_3 a0_4).bind fun t601 => (if t601 = true then (headgatelaw11_ResvClears.j0 k a1 a2 true l0_0 a0_1 a0_2 a0_3 a0_4) else ((headgateref11_Good.f k l0_0 a0_1 a0_2 a0_3 a0_4).bind fun t602 => (if t602 = true then ((headgateref03_Name.f k a1).bind fun t603 => (if t603 = true then ((headgateref11_Key.f k l0_0 a0_1 a0_2 a0_3 a0_4 a1).bind fun t604 => (headgatelaw11_ResvClears.j0 k a1 a2 (t604 == 0) l0_0 a0_1 a0_2 a0_3 a0_4)) else (headgatelaw11_ResvClears.j0 k a1 a2 true l0_0 a0_1 a0_2 a0_3 a0_4))) else (headgatelaw11_ResvClears.j0 k a1 a2 true l0_0 a0_1 a0_2 a0_3 a0_4))))) = some r := h
 clear h
 have HC4 := Aside0.mk H
 clear H
 go_enter Tryd.func10, Tryd.ntmps10
 go_upto_region 1 with (first | ((with_reducible refine gate_dst (N := 3) rfl ?_); refine box_event ?hg (N := 3) ?hd (cs := #[.slice A0_0 l0_0.length c0_0, .int .i64 a0_1, .string a0_2, .int .u32 a0_3, .bool a0_4]) (t := 27) ?hr ?_; (case hd => rfl); (case hg => rfl); (case hr => first | (go_simp; done) | (go_simp; rfl)); intro gb600 hg w5 hbox hb; have n0_ := Aside0.mk (below_step (hb_ HB) hb); have n1_ := Aside0.mk (hbox); have n2_ := Aside0.mk ((by rw [hg]; exact (below_size (hb_ HB)) : w.heap.size ≤ gb600)); have n3_ := Aside0.mk ((by rw [hg]; exact (below_size (hb_ HB)) : w.heap.size ≤ gb600)); clear HB; have HB := n0_; have BK600 := n1_; have GW600 := n2_; have GE600 := n3_; clear n0_ n1_ n2_ n3_; clear hb hbox hg))
 (try simp only [Act.put, la_, lb_, lc_])
 go_cut [35] (fun v35 wc => ∃ (kq : Nat) (x35_3 : Bool), v35 = .bool x35_3 ∧ Aside0 (headgatelaw11_ResvClears.j0 kq a1 a2 x35_3 l0_0 a0_1 a0_2 a0_3 a0_4 = some r) ∧ Aside0 (kq ≤ k) ∧ Aside0 (wc.heap[gb600]? = some (.cells #[(.slice A0_0 l0_0.length c0_0), .int .i64 a0_1, .string a0_2, .int .u32 a0_3, .bool a0_4] 27 (0, 0))) ∧ Aside0 (Below w.heap.size w wc))
 case first =>
  have H := HC4.out
  clear HC4
  replace H := Option.bind_eq_some_iff.mp H
  obtain ⟨t601, A60, H⟩ := H
  try dsimp only at H
  have A6 := Aside0.mk A60
  clear A60
  by_cases c7 : t601 = true
  ·subst c7
   have H1 := H
   rw [if_pos rfl] at H1
   clear H
   have H := H1
   clear H1
   have H' := Aside0.mk H
   clear H
   have hcz8_0 : w5.cell? ⟨gb600, 0, none⟩ = some (.slice A0_0 l0_0.length c0_0) := (blk_cell BK600.out 0).trans rfl
   have hcz8_1 : w5.cell? ⟨gb600, 1, none⟩ = some (.int .i64 a0_1) := (blk_cell BK600.out 1).trans rfl
   have hcz8_2 : w5.cell? ⟨gb600, 2, none⟩ = some (.string a0_2) := (blk_cell BK600.out 2).trans rfl
   have hcz8_3 : w5.cell? ⟨gb600, 3, none⟩ = some (.int .u32 a0_3) := (blk_cell BK600.out 3).trans rfl
   have hcz8_4 : w5.cell? ⟨gb600, 4, none⟩ = some (.bool a0_4) := (blk_cell BK600.out 4).trans rfl
   have hfz8_0 := blk_frozen BK600.out 0
   have hfz8_1 := blk_frozen BK600.out 1
   have hfz8_2 := blk_frozen BK600.out 2
   have hfz8_3 := blk_frozen BK600.out 3
   have hfz8_4 := blk_frozen BK600.out 4
   go_wp2_with (first | ((with_reducible refine gate_callee (f := 11) rfl ?_); refine goesL_ (some 19) rfl rfl Tryd.func11 (by kernel_rfl) rfl #[.agg #[.slice A0_0 l0_0.length c0_0, .int .i64 a0_1, .string a0_2, .int .u32 a0_3, .bool a0_4]] rfl (by (try simp only [List.map_toArray, List.map_cons, List.map_nil]); first | done | rfl | (simp only [List.length_drop, List.length_take]; rfl)) ?_; (with_reducible refine (headgatelaw10_Large.calls k _ _ l0_0 a0_1 a0_2 a0_3 a0_4 true _ ?side1 ?side2 A6.out).mono ?_); (case side1 => repeat (first | exact (Kd.C_below HR0_0.out HB.out) | (with_reducible refine Kd.C_alloc ?_ _) | (with_reducible refine Kd.C_drewN ?_ _) | (with_reducible refine Kd.C_drew ?_))); (case side2 => exact HC0_0.out); rintro e w9 ⟨rfl, hb⟩; refine ⟨_, rfl, ?_⟩; have n0_ := Aside0.mk (blk_below (bk_ BK600) hb); have n1_ := Aside0.mk (below_step (hb_ HB) hb); clear BK600; clear HB; have BK600 := n0_; have HB := n1_; clear n0_ n1_; (try clear hb); (try clear hb2); (try clear hk); (try clear hi)))
   go_meet
   case rel => exact ⟨_, (true), (by first | rfl | (simp; done) | (simp [*]; done)), H', ⟨by first | omega | exact Nat.le_refl _⟩, ⟨bk_ BK600⟩, ⟨hb_ HB⟩⟩
  replace c7 := Bool.eq_false_iff.mpr c7
  subst c7
  have H1 := H
  rw [if_neg (show ¬ (false = true) by decide)] at H1
  clear H
  have H := H1
  clear H1
  replace H := Option.bind_eq_some_iff.mp H
  obtain ⟨t602, A100, H⟩ := H
  try dsimp only at H
  have A10 := Aside0.mk A100
  clear A100
  refine neg_first (p := (t602 = true)) (fun c11 => ?_) (fun c11 => ?_)
  ·replace c11 := Bool.eq_false_iff.mpr c11
   subst c11
   have H1 := H
   rw [if_neg (show ¬ (false = true) by decide)] at H1
   clear H
   have H := H1
   clear H1
   have H' := Aside0.mk H
   clear H
   have hcz25_0 : w5.cell? ⟨gb600, 0, none⟩ = some (.slice A0_0 l0_0.length c0_0) := (blk_cell BK600.out 0).trans rfl
   have hcz25_1 : w5.cell? ⟨gb600, 1, none⟩ = some (.int .i64 a0_1) := (blk_cell BK600.out 1).trans rfl
   have hcz25_2 : w5.cell? ⟨gb600, 2, none⟩ = some (.string a0_2) := (blk_cell BK600.out 2).trans rfl
   have hcz25_3 : w5.cell? ⟨gb600, 3, none⟩ = some (.int .u32 a0_3) := (blk_cell BK600.out 3).trans rfl
   have hcz25_4 : w5.cell? ⟨gb600, 4, none⟩ = some (.bool a0_4) := (blk_cell BK600.out 4).trans rfl
   have hfz25_0 := blk_frozen BK600.out 0
   have hfz25_1 := blk_frozen BK600.out 1
   have hfz25_2 := blk_frozen BK600.out 2
   have hfz25_3 := blk_frozen BK600.out 3
   have hfz25_4 := blk_frozen BK600.out 4
   go_wp2_with (first | ((with_reducible refine gate_callee (f := 11) rfl ?_); refine goesL_ (some 19) rfl rfl Tryd.func11 (by kernel_rfl) rfl #[.agg #[.slice A0_0 l0_0.length c0_0, .int .i64 a0_1, .string a0_2, .int .u32 a0_3, .bool a0_4]] rfl (by (try simp only [List.map_toArray, List.map_cons, List.map_nil]); first | done | rfl | (simp only [List.length_drop, List.length_take]; rfl)) ?_; (with_reducible refine (headgatelaw10_Large.calls k _ _ l0_0 a0_1 a0_2 a0_3 a0_4 false _ ?side1 ?side2 A6.out).mono ?_); (case side1 => repeat (first | exact (Kd.C_below HR0_0.out HB.out) | (with_reducible refine Kd.C_alloc ?_ _) | (with_reducible refine Kd.C_drewN ?_ _) | (with_reducible refine Kd.C_drew ?_))); (case side2 => exact HC0_0.out); rintro e w26 ⟨rfl, hb⟩; refine ⟨_, rfl, ?_⟩; have n0_ := Aside0.mk (blk_below (bk_ BK600) hb); have n1_ := Aside0.mk (below_step (hb_ HB) hb); clear BK600; clear HB; have BK600 := n0_; have HB := n1_; clear n0_ n1_; (try clear hb); (try clear hb2); (try clear hk); (try clear hi); have hcz27_0 : w26.cell? ⟨gb600, 0, none⟩ = some (.slice A0_0 l0_0.length c0_0) := (blk_cell BK600.out 0).trans rfl; have hcz27_1 : w26.cell? ⟨gb600, 1, none⟩ = some (.int .i64 a0_1) := (blk_cell BK600.out 1).trans rfl; have hcz27_2 : w26.cell? ⟨gb600, 2, none⟩ = some (.string a0_2) := (blk_cell BK600.out 2).trans rfl; have hcz27_3 : w26.cell? ⟨gb600, 3, none⟩ = some (.int .u32 a0_3) := (blk_cell BK600.out 3).trans rfl; have hcz27_4 : w26.cell? ⟨gb600, 4, none⟩ = some (.bool a0_4) := (blk_cell BK600.out 4).trans rfl; have hfz27_0 := blk_frozen BK600.out 0; have hfz27_1 := blk_frozen BK600.out 1; have hfz27_2 := blk_frozen BK600.out 2; have hfz27_3 := blk_frozen BK600.out 3; have hfz27_4 := blk_frozen BK600.out 4) | (go_at_call 20; (with_reducible refine (headgateref11_Good.calls k _ _ l0_0 a0_1 a0_2 a0_3 a0_4 false _ ?side1 ?side2 A10.out).mono ?_); (case side1 => repeat (first | exact (Kd.C_below HR0_0.out HB.out) | (with_reducible refine Kd.C_alloc ?_ _) | (with_reducible refine Kd.C_drewN ?_ _) | (with_reducible refine Kd.C_drew ?_))); (case side2 => exact HC0_0.out); rintro e w28 ⟨rfl, hb⟩; have n0_ := Aside0.mk (blk_below (bk_ BK600) hb); have n1_ := Aside0.mk (below_step (hb_ HB) hb); clear BK600; clear HB; have BK600 := n0_; have HB := n1_; clear n0_ n1_; (try clear hb); (try clear hb2); (try clear hk); (try clear hi)))
   go_meet
   case rel => exact ⟨_, (true), (by first | rfl | (simp; done) | (simp [*]; done)), H', ⟨by first | omega | exact Nat.le_refl _⟩, ⟨bk_ BK600⟩, ⟨hb_ HB⟩⟩
  subst c11
  have H1 := H
  rw [if_pos rfl] at H1
  clear H
  have H := H1
  clear H1
  replace H := Option.bind_eq_some_iff.mp H
  obtain ⟨t603, A120, H⟩ := H
  try dsimp only at H
  have A12 := Aside0.mk A120
  clear A120
  refine neg_first (p := (t603 = true)) (fun c13 => ?_) (fun c13 => ?_)
  ·replace c13 := Bool.eq_false_iff.mpr c13
   subst c13
   have H1 := H
   rw [if_neg (show ¬ (false = true) by decide)] at H1
   clear H
   have H := H1
   clear H1
   have H' := Aside0.mk H
   clear H
   have hcz21_0 : w5.cell? ⟨gb600, 0, none⟩ = some (.slice A0_0 l0_0.length c0_0) := (blk_cell BK600.out 0).trans rfl
   have hcz21_1 : w5.cell? ⟨gb600, 1, none⟩ = some (.int .i64 a0_1) := (blk_cell BK600.out 1).trans rfl
   have hcz21_2 : w5.cell? ⟨gb600, 2, none⟩ = some (.string a0_2) := (blk_cell BK600.out 2).trans rfl
   have hcz21_3 : w5.cell? ⟨gb600, 3, none⟩ = some (.int .u32 a0_3) := (blk_cell BK600.out 3).trans rfl
   have hcz21_4 : w5.cell? ⟨gb600, 4, none⟩ = some (.bool a0_4) := (blk_cell BK600.out 4).trans rfl
   have hfz21_0 := blk_frozen BK600.out 0
   have hfz21_1 := blk_frozen BK600.out 1
   have hfz21_2 := blk_frozen BK600.out 2
   have hfz21_3 := blk_frozen BK600.out 3
   have hfz21_4 := blk_frozen BK600.out 4
   go_wp2_with (first | ((with_reducible refine gate_callee (f := 11) rfl ?_); refine goesL_ (some 19) rfl rfl Tryd.func11 (by kernel_rfl) rfl #[.agg #[.slice A0_0 l0_0.length c0_0, .int .i64 a0_1, .string a0_2, .int .u32 a0_3, .bool a0_4]] rfl (by (try simp only [List.map_toArray, List.map_cons, List.map_nil]); first | done | rfl | (simp only [List.length_drop, List.length_take]; rfl)) ?_; (with_reducible refine (headgatelaw10_Large.calls k _ _ l0_0 a0_1 a0_2 a0_3 a0_4 false _ ?side1 ?side2 A6.out).mono ?_); (case side1 => repeat (first | exact (Kd.C_below HR0_0.out HB.out) | (with_reducible refine Kd.C_alloc ?_ _) | (with_reducible refine Kd.C_drewN ?_ _) | (with_reducible refine Kd.C_drew ?_))); (case side2 => exact HC0_0.out); rintro e w22 ⟨rfl, hb⟩; refine ⟨_, rfl, ?_⟩; have n0_ := Aside0.mk (blk_below (bk_ BK600) hb); have n1_ := Aside0.mk (below_step (hb_ HB) hb); clear BK600; clear HB; have BK600 := n0_; have HB := n1_; clear n0_ n1_; (try clear hb); (try clear hb2); (try clear hk); (try clear hi); have hcz23_0 : w22.cell? ⟨gb600, 0, none⟩ = some (.slice A0_0 l0_0.length c0_0) := (blk_cell BK600.out 0).trans rfl; have hcz23_1 : w22.cell? ⟨gb600, 1, none⟩ = some (.int .i64 a0_1) := (blk_cell BK600.out 1).trans rfl; have hcz23_2 : w22.cell? ⟨gb600, 2, none⟩ = some (.string a0_2) := (blk_cell BK600.out 2).trans rfl; have hcz23_3 : w22.cell? ⟨gb600, 3, none⟩ = some (.int .u32 a0_3) := (blk_cell BK600.out 3).trans rfl; have hcz23_4 : w22.cell? ⟨gb600, 4, none⟩ = some (.bool a0_4) := (blk_cell BK600.out 4).trans rfl; have hfz23_0 := blk_frozen BK600.out 0; have hfz23_1 := blk_frozen BK600.out 1; have hfz23_2 := blk_frozen BK600.out 2; have hfz23_3 := blk_frozen BK600.out 3; have hfz23_4 := blk_frozen BK600.out 4) | (go_at_call 20; (with_reducible refine (headgateref11_Good.calls k _ _ l0_0 a0_1 a0_2 a0_3 a0_4 true _ ?side1 ?side2 A10.out).mono ?_); (case side1 => repeat (first | exact (Kd.C_below HR0_0.out HB.out) | (with_reducible refine Kd.C_alloc ?_ _) | (with_reducible refine Kd.C_drewN ?_ _) | (with_reducible refine Kd.C_drew ?_))); (case side2 => exact HC0_0.out); rintro e w24 ⟨rfl, hb⟩; have n0_ := Aside0.mk (blk_below (bk_ BK600) hb); have n1_ := Aside0.mk (below_step (hb_ HB) hb); clear BK600; clear HB; have BK600 := n0_; have HB := n1_; clear n0_ n1_; (try clear hb); (try clear hb2); (try clear hk); (try clear hi)) | (go_at_call 27; (with_reducible refine (headgateref03_Name.calls k a1 false _ A12.out).mono ?_); rintro e w' ⟨rfl, ⟨nd, rfl⟩⟩))
   go_meet
   case rel => exact ⟨_, (true), (by first | rfl | (simp; done) | (simp [*]; done)), H', ⟨by first | omega | exact Nat.le_refl _⟩, ⟨bk_ BK600⟩, ⟨hb_ HB⟩⟩
  subst c13
  have H1 := H
  rw [if_pos rfl] at H1
  clear H
  have H := H1
  clear H1
  replace H := Option.bind_eq_some_iff.mp H
  obtain ⟨t604, A140, H⟩ := H
  try dsimp only at H
  have A14 := Aside0.mk A140
  clear A140
  have H' := Aside0.mk H
  clear H
  have hcz15_0 : w5.cell? ⟨gb600, 0, none⟩ = some (.slice A0_0 l0_0.length c0_0) := (blk_cell BK600.out 0).trans rfl
  have hcz15_1 : w5.cell? ⟨gb600, 1, none⟩ = some (.int .i64 a0_1) := (blk_cell BK600.out 1).trans rfl
  have hcz15_2 : w5.cell? ⟨gb600, 2, none⟩ = some (.string a0_2) := (blk_cell BK600.out 2).trans rfl
  have hcz15_3 : w5.cell? ⟨gb600, 3, none⟩ = some (.int .u32 a0_3) := (blk_cell BK600.out 3).trans rfl
  have hcz15_4 : w5.cell? ⟨gb600, 4, none⟩ = some (.bool a0_4) := (blk_cell BK600.out 4).trans rfl
  have hfz15_0 := blk_frozen BK600.out 0
  have hfz15_1 := blk_frozen BK600.out 1
  have hfz15_2 := blk_frozen BK600.out 2
  have hfz15_3 := blk_frozen BK600.out 3
  have hfz15_4 := blk_frozen BK600.out 4
  go_wp2_with (first | ((with_reducible refine gate_callee (f := 11) rfl ?_); refine goesL_ (some 19) rfl rfl Tryd.func11 (by kernel_rfl) rfl #[.agg #[.slice A0_0 l0_0.length c0_0, .int .i64 a0_1, .string a0_2, .int .u32 a0_3, .bool a0_4]] rfl (by (try simp only [List.map_toArray, List.map_cons, List.map_nil]); first | done | rfl | (simp only [List.length_drop, List.length_take]; rfl)) ?_; (with_reducible refine (headgatelaw10_Large.calls k _ _ l0_0 a0_1 a0_2 a0_3 a0_4 false _ ?side1 ?side2 A6.out).mono ?_); (case side1 => repeat (first | exact (Kd.C_below HR0_0.out HB.out) | (with_reducible refine Kd.C_alloc ?_ _) | (with_reducible refine Kd.C_drewN ?_ _) | (with_reducible refine Kd.C_drew ?_))); (case side2 => exact HC0_0.out); rintro e w16 ⟨rfl, hb⟩; refine ⟨_, rfl, ?_⟩; have n0_ := Aside0.mk (blk_below (bk_ BK600) hb); have n1_ := Aside0.mk (below_step (hb_ HB) hb); clear BK600; clear HB; have BK600 := n0_; have HB := n1_; clear n0_ n1_; (try clear hb); (try clear hb2); (try clear hk); (try clear hi); have hcz17_0 : w16.cell? ⟨gb600, 0, none⟩ = some (.slice A0_0 l0_0.length c0_0) := (blk_cell BK600.out 0).trans rfl; have hcz17_1 : w16.cell? ⟨gb600, 1, none⟩ = some (.int .i64 a0_1) := (blk_cell BK600.out 1).trans rfl; have hcz17_2 : w16.cell? ⟨gb600, 2, none⟩ = some (.string a0_2) := (blk_cell BK600.out 2).trans rfl; have hcz17_3 : w16.cell? ⟨gb600, 3, none⟩ = some (.int .u32 a0_3) := (blk_cell BK600.out 3).trans rfl; have hcz17_4 : w16.cell? ⟨gb600, 4, none⟩ = some (.bool a0_4) := (blk_cell BK600.out 4).trans rfl; have hfz17_0 := blk_frozen BK600.out 0; have hfz17_1 := blk_frozen BK600.out 1; have hfz17_2 := blk_frozen BK600.out 2; have hfz17_3 := blk_frozen BK600.out 3; have hfz17_4 := blk_frozen BK600.out 4) | (go_at_call 20; (with_reducible refine (headgateref11_Good.calls k _ _ l0_0 a0_1 a0_2 a0_3 a0_4 true _ ?side1 ?side2 A10.out).mono ?_); (case side1 => repeat (first | exact (Kd.C_below HR0_0.out HB.out) | (with_reducible refine Kd.C_alloc ?_ _) | (with_reducible refine Kd.C_drewN ?_ _) | (with_reducible refine Kd.C_drew ?_))); (case side2 => exact HC0_0.out); rintro e w18 ⟨rfl, hb⟩; have n0_ := Aside0.mk (blk_below (bk_ BK600) hb); have n1_ := Aside0.mk (below_step (hb_ HB) hb); clear BK600; clear HB; have BK600 := n0_; have HB := n1_; clear n0_ n1_; (try clear hb); (try clear hb2); (try clear hk); (try clear hi)) | (go_at_call 27; (with_reducible refine (headgateref03_Name.calls k a1 true _ A12.out).mono ?_); rintro e w' ⟨rfl, ⟨nd, rfl⟩⟩; have hcz19_0 : w18.cell? ⟨gb600, 0, none⟩ = some (.slice A0_0 l0_0.length c0_0) := (blk_cell BK600.out 0).trans rfl; have hcz19_1 : w18.cell? ⟨gb600, 1, none⟩ = some (.int .i64 a0_1) := (blk_cell BK600.out 1).trans rfl; have hcz19_2 : w18.cell? ⟨gb600, 2, none⟩ = some (.string a0_2) := (blk_cell BK600.out 2).trans rfl; have hcz19_3 : w18.cell? ⟨gb600, 3, none⟩ = some (.int .u32 a0_3) := (blk_cell BK600.out 3).trans rfl; have hcz19_4 : w18.cell? ⟨gb600, 4, none⟩ = some (.bool a0_4) := (blk_cell BK600.out 4).trans rfl; have hfz19_0 := blk_frozen BK600.out 0; have hfz19_1 := blk_frozen BK600.out 1; have hfz19_2 := blk_frozen BK600.out 2; have hfz19_3 := blk_frozen BK600.out 3; have hfz19_4 := blk_frozen BK600.out 4) | (go_at_call 19; (with_reducible refine (headgateref11_Key.calls k _ _ l0_0 a0_1 a0_2 a0_3 a0_4 a1 t604 _ ?side1 ?side2 A14.out).mono ?_); (case side1 => repeat (first | exact (Kd.C_below HR0_0.out (hb_ HB)) | (with_reducible refine Kd.C_alloc ?_ _) | (with_reducible refine Kd.C_drewN ?_ _) | (with_reducible refine Kd.C_drew ?_))); (case side2 => exact HC0_0.out); rintro e w20 ⟨rfl, hb⟩; have n0_ := Aside0.mk (blk_below (bk_ BK600) hb); have n1_ := Aside0.mk (below_step (hb_ HB) hb); clear BK600; clear HB; have BK600 := n0_; have HB := n1_; clear n0_ n1_; (try clear hb); (try clear hb2); (try clear hk); (try clear hi)))
  go_meet
  case rel => exact ⟨_, ((t604 == 0)), (by first | rfl | (simp; done) | (simp [*]; done)), H', ⟨by first | omega | exact Nat.le_refl _⟩, ⟨bk_ BK600⟩, ⟨hb_ HB⟩⟩
 case rest =>
  clear HC4
  try clear c1
  try clear p2
  try clear c7
  try clear c10
  try clear c11
  try clear c13
  try clear hcz15_0
  try clear hcz15_1
  try clear hcz15_2
  try clear hcz15_3
  try clear hcz15_4
  try clear hcz17_0
  try clear hcz17_1
  try clear hcz17_2
  try clear hcz17_3
  try clear hcz17_4
  try clear hcz19_0
  try clear hcz19_1
  try clear hcz19_2
  try clear hcz19_3
  try clear hcz19_4
  try clear hcz21_0
  try clear hcz21_1
  try clear hcz21_2
  try clear hcz21_3
  try clear hcz21_4
  try clear hcz23_0
  try clear hcz23_1
  try clear hcz23_2
  try clear hcz23_3
  try clear hcz23_4
  try clear hcz25_0
  try clear hcz25_1
  try clear hcz25_2
  try clear hcz25_3
  try clear hcz25_4
  try clear hcz27_0
  try clear hcz27_1
  try clear hcz27_2
  try clear hcz27_3
  try clear hcz27_4
  try clear hcz8_0
  try clear hcz8_1
  try clear hcz8_2
  try clear hcz8_3
  try clear hcz8_4
  try clear hfz15_0
  try clear hfz15_1
  try clear hfz15_2
  try clear hfz15_3
  try clear hfz15_4
  try clear hfz17_0
  try clear hfz17_1
  try clear hfz17_2
  try clear hfz17_3
  try clear hfz17_4
  try clear hfz19_0
  try clear hfz19_1
  try clear hfz19_2
  try clear hfz19_3
  try clear hfz19_4
  try clear hfz21_0
  try clear hfz21_1
  try clear hfz21_2
  try clear hfz21_3
  try clear hfz21_4
  try clear hfz23_0
  try clear hfz23_1
  try clear hfz23_2
  try clear hfz23_3
  try clear hfz23_4
  try clear hfz25_0
  try clear hfz25_1
  try clear hfz25_2
  try clear hfz25_3
  try clear hfz25_4
  try clear hfz27_0
  try clear hfz27_1
  try clear hfz27_2
  try clear hfz27_3
  try clear hfz27_4
  try clear hfz8_0
  try clear hfz8_1
  try clear hfz8_2
  try clear hfz8_3
  try clear hfz8_4
  obtain ⟨kq, x35_3, rfl, HA, HJ3, BK600, HB⟩ := hcut
  cases kq with
  | zero => exact absurd HA.out (by simp [headgatelaw11_ResvClears.j0])
  | succ kj3 =>
   have H := HA.out
   clear HA
   simp only [headgatelaw11_ResvClears.j0] at H
   by_cases c29 : x35_3 = true
   ·subst c29
    have H1 := H
    rw [if_pos rfl] at H1
    clear H
    have H := H1
    clear H1
    replace H := Option.bind_eq_some_iff.mp H
    obtain ⟨t605, A300, H⟩ := H
    try dsimp only at H
    have A30 := Aside0.mk A300
    clear A300
    obtain rfl := Option.some.inj H
    go_wp2_with (first | ((with_reducible refine gate_callee (f := 13) rfl ?_); refine goesL_ (some 36) rfl rfl Tryd.func13 (by kernel_rfl) rfl #[] rfl (by (try simp only [List.map_toArray, List.map_cons, List.map_nil]); first | done | rfl | (simp only [List.length_drop, List.length_take]; rfl)) ?_; (with_reducible refine (headgatelaw11_wakes.calls kj3  t605 _ ?side1 A30.out).mono ?_); (case side1 => first | ((refine Glob.keep HG.out ?_); (repeat (first | (with_reducible first | exact HB.out | apply below_alloc | apply pw_below_drewN | apply below_drew1 | refine below_set ?_ GE600.out) | exact HB.out)); done) | exact HG.out); rintro e w31 ⟨rfl, hb⟩; refine ⟨_, rfl, ?_⟩; have n0_ := Aside0.mk (blk_below (bk_ BK600) hb); have n1_ := Aside0.mk (below_step (hb_ HB) hb); clear BK600; clear HB; have BK600 := n0_; have HB := n1_; clear n0_ n1_; (try clear hb); (try clear hb2); (try clear hk); (try clear hi)))
    go_ret
    exact ⟨by first | rfl | (simp [errW_none, errW_some] <;> rfl) | (simp [*, errW_none, errW_some] <;> rfl) | (simp [bt, *]; done) | (unfold bt; simp [*]; done), by repeat (first | (with_reducible first | exact HB.out | apply below_alloc | apply pw_below_drewN | apply below_drew1 | refine below_set ?_ GE600.out) | exact HB.out)⟩
   replace c29 := Bool.eq_false_iff.mpr c29
   subst c29
   have H1 := H
   rw [if_neg (show ¬ (false = true) by decide)] at H1
   clear H
   have H := H1
   clear H1
   replace H := Option.bind_eq_some_iff.mp H
   obtain ⟨t606, A320, H⟩ := H
   try dsimp only at H
   have A32 := Aside0.mk A320
   clear A320
   replace H := Option.bind_eq_some_iff.mp H
   obtain ⟨⟨t607, t610, t611, t612, t613⟩, A330, H⟩ := H
   try dsimp only at H
   have A33 := Aside0.mk A330
   clear A330
   replace H := Option.bind_eq_some_iff.mp H
   obtain ⟨⟨t614, t617, t618, t619, t620, t621, t624⟩, A340, H⟩ := H
   try dsimp only at H
   have A34 := Aside0.mk A340
   clear A340
   have HC35 := Aside0.mk H
   clear H
   have hcz36_0 : wc.cell? ⟨gb600, 0, none⟩ = some (.slice A0_0 l0_0.length c0_0) := (blk_cell BK600.out 0).trans rfl
   have hcz36_1 : wc.cell? ⟨gb600, 1, none⟩ = some (.int .i64 a0_1) := (blk_cell BK600.out 1).trans rfl
   have hcz36_2 : wc.cell? ⟨gb600, 2, none⟩ = some (.string a0_2) := (blk_cell BK600.out 2).trans rfl
   have hcz36_3 : wc.cell? ⟨gb600, 3, none⟩ = some (.int .u32 a0_3) := (blk_cell BK600.out 3).trans rfl
   have hcz36_4 : wc.cell? ⟨gb600, 4, none⟩ = some (.bool a0_4) := (blk_cell BK600.out 4).trans rfl
   have hfz36_0 := blk_frozen BK600.out 0
   have hfz36_1 := blk_frozen BK600.out 1
   have hfz36_2 := blk_frozen BK600.out 2
   have hfz36_3 := blk_frozen BK600.out 3
   have hfz36_4 := blk_frozen BK600.out 4
   go_upto_region 5 with (first | ((with_reducible refine gate_callee (f := 19) rfl ?_); refine goesL_ (some 39) rfl rfl Tryd.func19 (by kernel_rfl) rfl #[.agg #[.slice A0_0 l0_0.length c0_0, .int .i64 a0_1, .string a0_2, .int .u32 a0_3, .bool a0_4], .string a1] rfl (by (try simp only [List.map_toArray, List.map_cons, List.map_nil]); first | done | rfl | (simp only [List.length_drop, List.length_take]; rfl)) ?_; (with_reducible refine (headgateref11_Key.calls kj3 _ _ l0_0 a0_1 a0_2 a0_3 a0_4 a1 t606 _ ?side1 ?side2 A32.out).mono ?_); (case side1 => repeat (first | exact (Kd.C_below HR0_0.out HB.out) | (with_reducible refine Kd.C_alloc ?_ _) | (with_reducible refine Kd.C_drewN ?_ _) | (with_reducible refine Kd.C_drew ?_))); (case side2 => exact HC0_0.out); rintro e w37 ⟨rfl, hb⟩; refine ⟨_, rfl, ?_⟩; have n0_ := Aside0.mk (blk_below (bk_ BK600) hb); have n1_ := Aside0.mk (below_step (hb_ HB) hb); clear BK600; clear HB; have BK600 := n0_; have HB := n1_; clear n0_ n1_; (try clear hb); (try clear hb2); (try clear hk); (try clear hi); have hcz38_0 : w37.cell? ⟨gb600, 0, none⟩ = some (.slice A0_0 l0_0.length c0_0) := (blk_cell BK600.out 0).trans rfl; have hcz38_1 : w37.cell? ⟨gb600, 1, none⟩ = some (.int .i64 a0_1) := (blk_cell BK600.out 1).trans rfl; have hcz38_2 : w37.cell? ⟨gb600, 2, none⟩ = some (.string a0_2) := (blk_cell BK600.out 2).trans rfl; have hcz38_3 : w37.cell? ⟨gb600, 3, none⟩ = some (.int .u32 a0_3) := (blk_cell BK600.out 3).trans rfl; have hcz38_4 : w37.cell? ⟨gb600, 4, none⟩ = some (.bool a0_4) := (blk_cell BK600.out 4).trans rfl; have hfz38_0 := blk_frozen BK600.out 0; have hfz38_1 := blk_frozen BK600.out 1; have hfz38_2 := blk_frozen BK600.out 2; have hfz38_3 := blk_frozen BK600.out 3; have hfz38_4 := blk_frozen BK600.out 4) | ((with_reducible refine gate_callee (f := 14) rfl ?_); refine goesL_ (some 42) rfl rfl Tryd.func14 (by kernel_rfl) rfl #[.agg #[.slice A0_0 l0_0.length c0_0, .int .i64 a0_1, .string a0_2, .int .u32 a0_3, .bool a0_4]] rfl (by (try simp only [List.map_toArray, List.map_cons, List.map_nil]); first | done | rfl | (simp only [List.length_drop, List.length_take]; rfl)) ?_; (with_reducible refine (headgatekeep_CopyTable.calls _ _ l0_0 a0_1 a0_2 a0_3 a0_4 t607 t610 t611 t612 t613 _ ?side1 ?side2 A33.out).mono ?_); (case side1 => repeat (first | exact (Kd.C_below HR0_0.out HB.out) | (with_reducible refine Kd.C_alloc ?_ _) | (with_reducible refine Kd.C_drewN ?_ _) | (with_reducible refine Kd.C_drew ?_))); (case side2 => exact HC0_0.out); rintro e w39 ⟨v608, rfl, ho0, hb⟩; refine ⟨_, rfl, ?_⟩; have n0_ := Aside0.mk (Kd.R_lower ho0 (below_size (hb_ HB))); have n1_ := Aside0.mk (blk_below (bk_ BK600) hb); have n2_ := Aside0.mk (below_step (hb_ HB) hb); clear BK600; clear HB; have HO609 := n0_; have BK600 := n1_; have HB := n2_; clear n0_ n1_ n2_; (try clear hb); (try clear hb2); (try clear hk); (try clear hi); (try clear ho0); obtain ⟨Ao40, co40, eo40⟩ := Kd.R_slice HO609.out; subst eo40) | ((with_reducible refine gate_callee (f := 15) rfl ?_); refine goesL_ (some 46) rfl rfl Tryd.func15 (by kernel_rfl) rfl #[.agg #[.slice Ao40 t607.length co40, .int .i64 t610, .string t611, .int .u32 t612, .bool t613], .agg #[.int .i64 11, .int .i64 0, .string a1, .int .i64 0, .int .i64 0, .string (⟨#[]⟩ : ByteArray), .bool false, .slice none 0 0, .int .u64 t606, .int .u64 0, .int .u64 0, .int .i64 0, .bool false, .int .i64 0]] rfl (by (try simp only [List.map_toArray, List.map_cons, List.map_nil]); first | done | rfl | (simp only [List.length_drop, List.length_take]; rfl)) ?_; (refine (resv_Do.calls kj3 (fun k_ => some k_ = (.slice Ao40 t607.length co40 : Value).ownBlock) _ _ t607 t610 t611 t612 t613 11 0 a1 0 0 (⟨#[]⟩ : ByteArray) false _ _ ([] : List (S100)) t606 0 0 0 false 0 t614 t617 t618 t619 t620 t621 t624 _ ?side1 ?side2 ?side3 ?side4 A34.out).mono ?_); (case side1 => exact Kd.R_V (Kd.R_tight rfl (Kd.R_types (HO609.out) BK600.out (by decide)))); (case side2 => exact Kd.C_nil _ _); (case side3 => exact Nat.le_refl _); (case side4 => first | ((refine Glob.keep HG.out ?_); (repeat (first | (with_reducible first | exact HB.out | apply below_alloc | apply pw_below_drewN | apply below_drew1 | refine below_set ?_ GE600.out) | exact HB.out)); done) | exact HG.out); rintro e w41 ⟨v615, v622, rfl, ho0, ho1, hb⟩; refine ⟨_, rfl, ?_⟩; have n0_ := Aside0.mk (Kd.R_below (by (with_reducible repeat (first | apply Kd.R_alloc | apply Kd.R_drewN | apply Kd.R_drew)); exact HO609.out) hb); have n1_ := Aside0.mk (Kd.V_lower (Kd.V_mono (ok' := fun k_ => some k_ ≠ (v622 : Value).ownBlock ∧ k_ ≠ gb600) ho0 (fun k_ hk_ => ⟨hk_.2, Or.elim hk_.1 (fun hs_ => ((Kd.R_types (HO609.out) BK600.out (by decide)).1 k_ hs_.symm).2) (fun hn_ => (Kd.freshB (g := gb600) (o := .cells #[.slice A0_0 l0_0.length c0_0, .int .i64 a0_1, .string a0_2, .int .u32 a0_3, .bool a0_4] 27 (0, 0)) (bk_ BK600) k_ hn_))⟩)) (below_size (hb_ HB))); have n2_ := Aside0.mk (Kd.R_lower (Kd.R_mono (ok' := fun k_ => True) ho1 (fun _ hk_ => trivial)) (below_size (hb_ HB))); have n3_ := Aside0.mk (blk_below (bk_ BK600) hb); have n4_ := Aside0.mk (below_step (hb_ HB) hb); clear HO609; clear BK600; clear HB; have HO609 := n0_; have HO616 := n1_; have HO623 := n2_; have BK600 := n3_; have HB := n4_; clear n0_ n1_ n2_ n3_ n4_; (try clear hb); (try clear hb2); (try clear hk); (try clear hi); (try clear ho0); (try clear ho1)) | ((with_reducible refine gate_dst (N := 8) rfl ?_); refine box_event ?hg (N := 8) ?hd (cs := #[.slice none 0 0, .int .i64 0, .string (⟨#[]⟩ : ByteArray), .int .u32 0, .bool false]) (t := 27) ?hr ?_; (case hd => rfl); (case hg => rfl); (case hr => first | (go_simp; done) | (go_simp; rfl)); intro gb625 hg w42 hbox hb; have n0_ := Aside0.mk (Kd.R_below (by (with_reducible repeat (first | apply Kd.R_alloc | apply Kd.R_drewN | apply Kd.R_drew)); exact HO609.out) hb); have n1_ := Aside0.mk (Kd.V_below (Kd.V_elderB (by (with_reducible repeat (first | apply Kd.V_alloc | apply Kd.V_drewN | apply Kd.V_drew)); exact HO616.out) gb625 (Nat.le_of_eq hg.symm)) hb); have n2_ := Aside0.mk (Kd.R_below (by (with_reducible repeat (first | apply Kd.R_alloc | apply Kd.R_drewN | apply Kd.R_drew)); exact HO623.out) hb); have n3_ := Aside0.mk (blk_below (bk_ BK600) hb); have n4_ := Aside0.mk (below_step (hb_ HB) hb); have n5_ := Aside0.mk (hbox); have n6_ := Aside0.mk ((by rw [hg]; exact (below_size (hb_ HB)) : w.heap.size ≤ gb625)); have n7_ := Aside0.mk ((by rw [hg]; exact (below_size (hb_ HB)) : w.heap.size ≤ gb625)); have n8_ := Aside0.mk ((by rw [hg]; exact Nat.ne_of_lt (blk_lt (g := gb600) (o := .cells #[.slice A0_0 l0_0.length c0_0, .int .i64 a0_1, .string a0_2, .int .u32 a0_3, .bool a0_4] 27 (0, 0)) (bk_ BK600)) : gb600 ≠ gb625)); have n9_ := Aside0.mk ((by rw [hg]; exact Nat.ne_of_gt (blk_lt (g := gb600) (o := .cells #[.slice A0_0 l0_0.length c0_0, .int .i64 a0_1, .string a0_2, .int .u32 a0_3, .bool a0_4] 27 (0, 0)) (bk_ BK600)) : gb625 ≠ gb600)); clear HO609; clear HO616; clear HO623; clear BK600; clear HB; have HO609 := n0_; have HO616 := n1_; have HO623 := n2_; have BK600 := n3_; have HB := n4_; have BK625 := n5_; have GW625 := n6_; have GE625 := n7_; have NB600_625 := n8_; have NB625_600 := n9_; clear n0_ n1_ n2_ n3_ n4_ n5_ n6_ n7_ n8_ n9_; clear hb hbox hg; obtain ⟨Ao43, co43, eo43⟩ := Kd.V_slice HO616.out; subst eo43; have hnb44 := NB625_600.out; have hnc44 := NB600_625.out; have hcz45_0 : w42.cell? ⟨gb625, 0, none⟩ = some (.slice none 0 0) := (blk_cell BK625.out 0).trans rfl; have hcz45_1 : w42.cell? ⟨gb625, 1, none⟩ = some (.int .i64 0) := (blk_cell BK625.out 1).trans rfl; have hcz45_2 : w42.cell? ⟨gb625, 2, none⟩ = some (.string (⟨#[]⟩ : ByteArray)) := (blk_cell BK625.out 2).trans rfl; have hcz45_3 : w42.cell? ⟨gb625, 3, none⟩ = some (.int .u32 0) := (blk_cell BK625.out 3).trans rfl; have hcz45_4 : w42.cell? ⟨gb625, 4, none⟩ = some (.bool false) := (blk_cell BK625.out 4).trans rfl; have hfz45_0 := blk_frozen BK625.out 0; have hfz45_1 := blk_frozen BK625.out 1; have hfz45_2 := blk_frozen BK625.out 2; have hfz45_3 := blk_frozen BK625.out 3; have hfz45_4 := blk_frozen BK625.out 4))
   (try simp only [Act.put, la_, lb_, lc_])
   go_cut [87] (fun v87 wc => ∃ (kq : Nat) (x87_34 : Bool), v87 = .bool x87_34 ∧ Aside0 (headgatelaw11_ResvClears.j1 kq a1 a2 t606 x87_34 t614 t617 t618 t619 t620 = some r) ∧ Aside0 (kq ≤ kj3) ∧ Aside0 (Kd.V k53 53 wc w.heap.size (fun k_ => k_ ≠ gb600 ∧ k_ ≠ gb625) (.slice Ao43 t614.length co43) t614) ∧ Aside0 (wc.heap[gb600]? = some (.cells #[(.slice A0_0 l0_0.length c0_0), .int .i64 a0_1, .string a0_2, .int .u32 a0_3, .bool a0_4] 27 (0, 0))) ∧ Aside0 (wc.heap[gb625]? = some (.cells #[(.slice Ao43 t614.length co43), .int .i64 t617, .string t618, .int .u32 t619, .bool t620] 27 (0, 0))) ∧ Aside0 (Below w.heap.size w wc))
   case first =>
    have H := HC35.out
    clear HC35
    refine neg_first (p := (t624 = 1)) (fun c46 => ?_) (fun c46 => ?_)
    ·rw [if_neg c46] at H
     have c46b0 : (t624 == 1) = false := beq_eq_false_iff_ne.mpr c46
     have c46b1 : (t624 != 1) = true := bne_iff_ne.mpr c46
     (first | rw [c46b0] | (simp only [i64_w, i32_w]; rw [c46b0]) | skip)
     have H' := Aside0.mk H
     clear H
     go_wp2
     go_meet
     case rel => exact ⟨_, (true), (by first | rfl | (simp; done) | (simp [*]; done)), H', ⟨by have := HJ3.out; first | omega | exact Nat.le_refl _⟩, ⟨by (with_reducible repeat (first | apply Kd.V_alloc | apply Kd.V_drewN | apply Kd.V_drew)); exact Kd.V_mono (Kd.V_far (p := ⟨gb625, 4, none⟩) (Kd.V_far (p := ⟨gb625, 3, none⟩) (Kd.V_far (p := ⟨gb625, 2, none⟩) (Kd.V_far (p := ⟨gb625, 1, none⟩) (Kd.V_far (p := ⟨gb625, 0, none⟩) (Kd.V_mono HO616.out (fun k_ hk => (⟨hk, hk.2⟩ : _ ∧ k_ ≠ gb625))) (fun _ hk => hk.2) (.slice Ao43 t614.length co43)) (fun _ hk => hk.2) (.int .i64 t617)) (fun _ hk => hk.2) (.string t618)) (fun _ hk => hk.2) (.int .u32 t619)) (fun _ hk => hk.2) (.bool t620)) (fun _ hk => ⟨hk.1.1.2, hk.1.2⟩)⟩, ⟨by (with_reducible repeat (first | refine blk_drewN ?_ _ | refine blk_drew ?_ | refine blk_alloc ?_ _ | refine blk_far ?_ NB600_625.out _)); exact BK600.out⟩, ⟨by (with_reducible repeat (first | refine blk_drewN ?_ _ | refine blk_drew ?_ | refine blk_alloc ?_ _)); refine blk_put (cs := #[.slice Ao43 t614.length co43, .int .i64 t617, .string t618, .int .u32 t619, .bool false]) ?_ 4 _ rfl; (with_reducible repeat (first | refine blk_drewN ?_ _ | refine blk_drew ?_ | refine blk_alloc ?_ _)); refine blk_put (cs := #[.slice Ao43 t614.length co43, .int .i64 t617, .string t618, .int .u32 0, .bool false]) ?_ 3 _ rfl; (with_reducible repeat (first | refine blk_drewN ?_ _ | refine blk_drew ?_ | refine blk_alloc ?_ _)); refine blk_put (cs := #[.slice Ao43 t614.length co43, .int .i64 t617, .string (⟨#[]⟩ : ByteArray), .int .u32 0, .bool false]) ?_ 2 _ rfl; (with_reducible repeat (first | refine blk_drewN ?_ _ | refine blk_drew ?_ | refine blk_alloc ?_ _)); refine blk_put (cs := #[.slice Ao43 t614.length co43, .int .i64 0, .string (⟨#[]⟩ : ByteArray), .int .u32 0, .bool false]) ?_ 1 _ rfl; (with_reducible repeat (first | refine blk_drewN ?_ _ | refine blk_drew ?_ | refine blk_alloc ?_ _)); refine blk_put (cs := #[.slice none 0 0, .int .i64 0, .string (⟨#[]⟩ : ByteArray), .int .u32 0, .bool false]) ?_ 0 _ rfl; (with_reducible repeat (first | refine blk_drewN ?_ _ | refine blk_drew ?_ | refine blk_alloc ?_ _)); exact BK625.out⟩, ⟨hb_ HB⟩⟩
    rw [if_pos c46] at H
    have c46b0 : (t624 == 1) = true := beq_iff_eq.mpr c46
    have c46b1 : (t624 != 1) = false := bne_eq_false_iff_eq.mpr c46
    clear c46
    (first | rw [c46b0] | (simp only [i64_w, i32_w]; rw [c46b0]) | skip)
    refine neg_first (p := ((t614.length : Int) = 0)) (fun c47 => ?_) (fun c47 => ?_)
    ·rw [if_neg c47] at H
     have c47b0 : ((t614.length : Int) == 0) = false := beq_eq_false_iff_ne.mpr c47
     have c47b1 : ((t614.length : Int) != 0) = true := bne_iff_ne.mpr c47
     have c47b2 : ¬ (t614 = []) := fun h_ => c47 (by rw [h_]; rfl)
     have H' := Aside0.mk H
     clear H
     have hnb65 := NB625_600.out
     have hnc65 := NB600_625.out
     have hcz66_0 : w42.cell? ⟨gb625, 0, none⟩ = some (.slice none 0 0) := (blk_cell BK625.out 0).trans rfl
     have hcz66_1 : w42.cell? ⟨gb625, 1, none⟩ = some (.int .i64 0) := (blk_cell BK625.out 1).trans rfl
     have hcz66_2 : w42.cell? ⟨gb625, 2, none⟩ = some (.string (⟨#[]⟩ : ByteArray)) := (blk_cell BK625.out 2).trans rfl
     have hcz66_3 : w42.cell? ⟨gb625, 3, none⟩ = some (.int .u32 0) := (blk_cell BK625.out 3).trans rfl
     have hcz66_4 : w42.cell? ⟨gb625, 4, none⟩ = some (.bool false) := (blk_cell BK625.out 4).trans rfl
     have hfz66_0 := blk_frozen BK625.out 0
     have hfz66_1 := blk_frozen BK625.out 1
     have hfz66_2 := blk_frozen BK625.out 2
     have hfz66_3 := blk_frozen BK625.out 3
     have hfz66_4 := blk_frozen BK625.out 4
     go_wp2
     go_meet
     case rel => exact ⟨_, (true), (by first | rfl | (simp; done) | (simp [*]; done)), H', ⟨by have := HJ3.out; first | omega | exact Nat.le_refl _⟩, ⟨by (with_reducible repeat (first | apply Kd.V_alloc | apply Kd.V_drewN | apply Kd.V_drew)); exact Kd.V_mono (Kd.V_far (p := ⟨gb625, 4, none⟩) (Kd.V_far (p := ⟨gb625, 3, none⟩) (Kd.V_far (p := ⟨gb625, 2, none⟩) (Kd.V_far (p := ⟨gb625, 1, none⟩) (Kd.V_far (p := ⟨gb625, 0, none⟩) (Kd.V_mono HO616.out (fun k_ hk => (⟨hk, hk.2⟩ : _ ∧ k_ ≠ gb625))) (fun _ hk => hk.2) (.slice Ao43 t614.length co43)) (fun _ hk => hk.2) (.int .i64 t617)) (fun _ hk => hk.2) (.string t618)) (fun _ hk => hk.2) (.int .u32 t619)) (fun _ hk => hk.2) (.bool t620)) (fun _ hk => ⟨hk.1.1.2, hk.1.2⟩)⟩, ⟨by (with_reducible repeat (first | refine blk_drewN ?_ _ | refine blk_drew ?_ | refine blk_alloc ?_ _ | refine blk_far ?_ NB600_625.out _)); exact BK600.out⟩, ⟨by (with_reducible repeat (first | refine blk_drewN ?_ _ | refine blk_drew ?_ | refine blk_alloc ?_ _)); refine blk_put (cs := #[.slice Ao43 t614.length co43, .int .i64 t617, .string t618, .int .u32 t619, .bool false]) ?_ 4 _ rfl; (with_reducible repeat (first | refine blk_drewN ?_ _ | refine blk_drew ?_ | refine blk_alloc ?_ _)); refine blk_put (cs := #[.slice Ao43 t614.length co43, .int .i64 t617, .string t618, .int .u32 0, .bool false]) ?_ 3 _ rfl; (with_reducible repeat (first | refine blk_drewN ?_ _ | refine blk_drew ?_ | refine blk_alloc ?_ _)); refine blk_put (cs := #[.slice Ao43 t614.length co43, .int .i64 t617, .string (⟨#[]⟩ : ByteArray), .int .u32 0, .bool false]) ?_ 2 _ rfl; (with_reducible repeat (first | refine blk_drewN ?_ _ | refine blk_drew ?_ | refine blk_alloc ?_ _)); refine blk_put (cs := #[.slice Ao43 t614.length co43, .int .i64 0, .string (⟨#[]⟩ : ByteArray), .int .u32 0, .bool false]) ?_ 1 _ rfl; (with_reducible repeat (first | refine blk_drewN ?_ _ | refine blk_drew ?_ | refine blk_alloc ?_ _)); refine blk_put (cs := #[.slice none 0 0, .int .i64 0, .string (⟨#[]⟩ : ByteArray), .int .u32 0, .bool false]) ?_ 0 _ rfl; (with_reducible repeat (first | refine blk_drewN ?_ _ | refine blk_drew ?_ | refine blk_alloc ?_ _)); exact BK625.out⟩, ⟨hb_ HB⟩⟩
    rw [if_pos c47] at H
    have c47b0 : ((t614.length : Int) == 0) = true := beq_iff_eq.mpr c47
    have c47b1 : ((t614.length : Int) != 0) = false := bne_eq_false_iff_eq.mpr c47
    clear c47
    refine neg_first (p := (t617 = 0)) (fun c48 => ?_) (fun c48 => ?_)
    ·rw [if_neg c48] at H
     have c48b0 : (t617 == 0) = false := beq_eq_false_iff_ne.mpr c48
     have c48b1 : (t617 != 0) = true := bne_iff_ne.mpr c48
     have H' := Aside0.mk H
     clear H
     have hnb63 := NB625_600.out
     have hnc63 := NB600_625.out
     have hcz64_0 : w42.cell? ⟨gb625, 0, none⟩ = some (.slice none 0 0) := (blk_cell BK625.out 0).trans rfl
     have hcz64_1 : w42.cell? ⟨gb625, 1, none⟩ = some (.int .i64 0) := (blk_cell BK625.out 1).trans rfl
     have hcz64_2 : w42.cell? ⟨gb625, 2, none⟩ = some (.string (⟨#[]⟩ : ByteArray)) := (blk_cell BK625.out 2).trans rfl
     have hcz64_3 : w42.cell? ⟨gb625, 3, none⟩ = some (.int .u32 0) := (blk_cell BK625.out 3).trans rfl
     have hcz64_4 : w42.cell? ⟨gb625, 4, none⟩ = some (.bool false) := (blk_cell BK625.out 4).trans rfl
     have hfz64_0 := blk_frozen BK625.out 0
     have hfz64_1 := blk_frozen BK625.out 1
     have hfz64_2 := blk_frozen BK625.out 2
     have hfz64_3 := blk_frozen BK625.out 3
     have hfz64_4 := blk_frozen BK625.out 4
     go_wp2
     go_meet
     case rel => exact ⟨_, (true), (by first | rfl | (simp; done) | (simp [*]; done)), H', ⟨by have := HJ3.out; first | omega | exact Nat.le_refl _⟩, ⟨by (with_reducible repeat (first | apply Kd.V_alloc | apply Kd.V_drewN | apply Kd.V_drew)); exact Kd.V_mono (Kd.V_far (p := ⟨gb625, 4, none⟩) (Kd.V_far (p := ⟨gb625, 3, none⟩) (Kd.V_far (p := ⟨gb625, 2, none⟩) (Kd.V_far (p := ⟨gb625, 1, none⟩) (Kd.V_far (p := ⟨gb625, 0, none⟩) (Kd.V_mono HO616.out (fun k_ hk => (⟨hk, hk.2⟩ : _ ∧ k_ ≠ gb625))) (fun _ hk => hk.2) (.slice Ao43 t614.length co43)) (fun _ hk => hk.2) (.int .i64 t617)) (fun _ hk => hk.2) (.string t618)) (fun _ hk => hk.2) (.int .u32 t619)) (fun _ hk => hk.2) (.bool t620)) (fun _ hk => ⟨hk.1.1.2, hk.1.2⟩)⟩, ⟨by (with_reducible repeat (first | refine blk_drewN ?_ _ | refine blk_drew ?_ | refine blk_alloc ?_ _ | refine blk_far ?_ NB600_625.out _)); exact BK600.out⟩, ⟨by (with_reducible repeat (first | refine blk_drewN ?_ _ | refine blk_drew ?_ | refine blk_alloc ?_ _)); refine blk_put (cs := #[.slice Ao43 t614.length co43, .int .i64 t617, .string t618, .int .u32 t619, .bool false]) ?_ 4 _ rfl; (with_reducible repeat (first | refine blk_drewN ?_ _ | refine blk_drew ?_ | refine blk_alloc ?_ _)); refine blk_put (cs := #[.slice Ao43 t614.length co43, .int .i64 t617, .string t618, .int .u32 0, .bool false]) ?_ 3 _ rfl; (with_reducible repeat (first | refine blk_drewN ?_ _ | refine blk_drew ?_ | refine blk_alloc ?_ _)); refine blk_put (cs := #[.slice Ao43 t614.length co43, .int .i64 t617, .string (⟨#[]⟩ : ByteArray), .int .u32 0, .bool false]) ?_ 2 _ rfl; (with_reducible repeat (first | refine blk_drewN ?_ _ | refine blk_drew ?_ | refine blk_alloc ?_ _)); refine blk_put (cs := #[.slice Ao43 t614.length co43, .int .i64 0, .string (⟨#[]⟩ : ByteArray), .int .u32 0, .bool false]) ?_ 1 _ rfl; (with_reducible repeat (first | refine blk_drewN ?_ _ | refine blk_drew ?_ | refine blk_alloc ?_ _)); refine blk_put (cs := #[.slice none 0 0, .int .i64 0, .string (⟨#[]⟩ : ByteArray), .int .u32 0, .bool false]) ?_ 0 _ rfl; (with_reducible repeat (first | refine blk_drewN ?_ _ | refine blk_drew ?_ | refine blk_alloc ?_ _)); exact BK625.out⟩, ⟨hb_ HB⟩⟩
    rw [if_pos c48] at H
    have c48b0 : (t617 == 0) = true := beq_iff_eq.mpr c48
    have c48b1 : (t617 != 0) = false := bne_eq_false_iff_eq.mpr c48
    clear c48
    refine neg_first (p := ((t621.length : Int) = (wrap64 ((l0_0.length : Int) - 1)))) (fun c49 => ?_) (fun c49 => ?_)
    ·rw [if_neg c49] at H
     have c49b0 : ((t621.length : Int) == (wrap64 ((l0_0.length : Int) - 1))) = false := beq_eq_false_iff_ne.mpr c49
     have c49b1 : ((t621.length : Int) != (wrap64 ((l0_0.length : Int) - 1))) = true := bne_iff_ne.mpr c49
     have H' := Aside0.mk H
     clear H
     have hnb59 := NB625_600.out
     have hnc59 := NB600_625.out
     have hcz60_0 : w42.cell? ⟨gb625, 0, none⟩ = some (.slice none 0 0) := (blk_cell BK625.out 0).trans rfl
     have hcz60_1 : w42.cell? ⟨gb625, 1, none⟩ = some (.int .i64 0) := (blk_cell BK625.out 1).trans rfl
     have hcz60_2 : w42.cell? ⟨gb625, 2, none⟩ = some (.string (⟨#[]⟩ : ByteArray)) := (blk_cell BK625.out 2).trans rfl
     have hcz60_3 : w42.cell? ⟨gb625, 3, none⟩ = some (.int .u32 0) := (blk_cell BK625.out 3).trans rfl
     have hcz60_4 : w42.cell? ⟨gb625, 4, none⟩ = some (.bool false) := (blk_cell BK625.out 4).trans rfl
     have hfz60_0 := blk_frozen BK625.out 0
     have hfz60_1 := blk_frozen BK625.out 1
     have hfz60_2 := blk_frozen BK625.out 2
     have hfz60_3 := blk_frozen BK625.out 3
     have hfz60_4 := blk_frozen BK625.out 4
     obtain ⟨Ao61, co61, eo61⟩ := Kd.R_slice HO623.out
     subst eo61
     have hcz62_0 : w42.cell? ⟨gb600, 0, none⟩ = some (.slice A0_0 l0_0.length c0_0) := (blk_cell BK600.out 0).trans rfl
     have hcz62_1 : w42.cell? ⟨gb600, 1, none⟩ = some (.int .i64 a0_1) := (blk_cell BK600.out 1).trans rfl
     have hcz62_2 : w42.cell? ⟨gb600, 2, none⟩ = some (.string a0_2) := (blk_cell BK600.out 2).trans rfl
     have hcz62_3 : w42.cell? ⟨gb600, 3, none⟩ = some (.int .u32 a0_3) := (blk_cell BK600.out 3).trans rfl
     have hcz62_4 : w42.cell? ⟨gb600, 4, none⟩ = some (.bool a0_4) := (blk_cell BK600.out 4).trans rfl
     have hfz62_0 := blk_frozen BK600.out 0
     have hfz62_1 := blk_frozen BK600.out 1
     have hfz62_2 := blk_frozen BK600.out 2
     have hfz62_3 := blk_frozen BK600.out 3
     have hfz62_4 := blk_frozen BK600.out 4
     go_wp2
     go_meet
     case rel => exact ⟨_, (true), (by first | rfl | (simp; done) | (simp [*]; done)), H', ⟨by have := HJ3.out; first | omega | exact Nat.le_refl _⟩, ⟨by (with_reducible repeat (first | apply Kd.V_alloc | apply Kd.V_drewN | apply Kd.V_drew)); exact Kd.V_mono (Kd.V_far (p := ⟨gb625, 4, none⟩) (Kd.V_far (p := ⟨gb625, 3, none⟩) (Kd.V_far (p := ⟨gb625, 2, none⟩) (Kd.V_far (p := ⟨gb625, 1, none⟩) (Kd.V_far (p := ⟨gb625, 0, none⟩) (Kd.V_mono HO616.out (fun k_ hk => (⟨hk, hk.2⟩ : _ ∧ k_ ≠ gb625))) (fun _ hk => hk.2) (.slice Ao43 t614.length co43)) (fun _ hk => hk.2) (.int .i64 t617)) (fun _ hk => hk.2) (.string t618)) (fun _ hk => hk.2) (.int .u32 t619)) (fun _ hk => hk.2) (.bool t620)) (fun _ hk => ⟨hk.1.1.2, hk.1.2⟩)⟩, ⟨by (with_reducible repeat (first | refine blk_drewN ?_ _ | refine blk_drew ?_ | refine blk_alloc ?_ _ | refine blk_far ?_ NB600_625.out _)); exact BK600.out⟩, ⟨by (with_reducible repeat (first | refine blk_drewN ?_ _ | refine blk_drew ?_ | refine blk_alloc ?_ _)); refine blk_put (cs := #[.slice Ao43 t614.length co43, .int .i64 t617, .string t618, .int .u32 t619, .bool false]) ?_ 4 _ rfl; (with_reducible repeat (first | refine blk_drewN ?_ _ | refine blk_drew ?_ | refine blk_alloc ?_ _)); refine blk_put (cs := #[.slice Ao43 t614.length co43, .int .i64 t617, .string t618, .int .u32 0, .bool false]) ?_ 3 _ rfl; (with_reducible repeat (first | refine blk_drewN ?_ _ | refine blk_drew ?_ | refine blk_alloc ?_ _)); refine blk_put (cs := #[.slice Ao43 t614.length co43, .int .i64 t617, .string (⟨#[]⟩ : ByteArray), .int .u32 0, .bool false]) ?_ 2 _ rfl; (with_reducible repeat (first | refine blk_drewN ?_ _ | refine blk_drew ?_ | refine blk_alloc ?_ _)); refine blk_put (cs := #[.slice Ao43 t614.length co43, .int .i64 0, .string (⟨#[]⟩ : ByteArray), .int .u32 0, .bool false]) ?_ 1 _ rfl; (with_reducible repeat (first | refine blk_drewN ?_ _ | refine blk_drew ?_ | refine blk_alloc ?_ _)); refine blk_put (cs := #[.slice none 0 0, .int .i64 0, .string (⟨#[]⟩ : ByteArray), .int .u32 0, .bool false]) ?_ 0 _ rfl; (with_reducible repeat (first | refine blk_drewN ?_ _ | refine blk_drew ?_ | refine blk_alloc ?_ _)); exact BK625.out⟩, ⟨hb_ HB⟩⟩
    rw [if_pos c49] at H
    have c49b0 : ((t621.length : Int) == (wrap64 ((l0_0.length : Int) - 1))) = true := beq_iff_eq.mpr c49
    have c49b1 : ((t621.length : Int) != (wrap64 ((l0_0.length : Int) - 1))) = false := bne_eq_false_iff_eq.mpr c49
    clear c49
    refine neg_first (p := (t619 = ((a0_3 + 1) % 4294967296))) (fun c50 => ?_) (fun c50 => ?_)
    ·rw [if_neg c50] at H
     have c50b0 : (t619 == ((a0_3 + 1) % 4294967296)) = false := beq_eq_false_iff_ne.mpr c50
     have c50b1 : (t619 != ((a0_3 + 1) % 4294967296)) = true := bne_iff_ne.mpr c50
     have H' := Aside0.mk H
     clear H
     have hnb55 := NB625_600.out
     have hnc55 := NB600_625.out
     have hcz56_0 : w42.cell? ⟨gb625, 0, none⟩ = some (.slice none 0 0) := (blk_cell BK625.out 0).trans rfl
     have hcz56_1 : w42.cell? ⟨gb625, 1, none⟩ = some (.int .i64 0) := (blk_cell BK625.out 1).trans rfl
     have hcz56_2 : w42.cell? ⟨gb625, 2, none⟩ = some (.string (⟨#[]⟩ : ByteArray)) := (blk_cell BK625.out 2).trans rfl
     have hcz56_3 : w42.cell? ⟨gb625, 3, none⟩ = some (.int .u32 0) := (blk_cell BK625.out 3).trans rfl
     have hcz56_4 : w42.cell? ⟨gb625, 4, none⟩ = some (.bool false) := (blk_cell BK625.out 4).trans rfl
     have hfz56_0 := blk_frozen BK625.out 0
     have hfz56_1 := blk_frozen BK625.out 1
     have hfz56_2 := blk_frozen BK625.out 2
     have hfz56_3 := blk_frozen BK625.out 3
     have hfz56_4 := blk_frozen BK625.out 4
     obtain ⟨Ao57, co57, eo57⟩ := Kd.R_slice HO623.out
     subst eo57
     have hcz58_0 : w42.cell? ⟨gb600, 0, none⟩ = some (.slice A0_0 l0_0.length c0_0) := (blk_cell BK600.out 0).trans rfl
     have hcz58_1 : w42.cell? ⟨gb600, 1, none⟩ = some (.int .i64 a0_1) := (blk_cell BK600.out 1).trans rfl
     have hcz58_2 : w42.cell? ⟨gb600, 2, none⟩ = some (.string a0_2) := (blk_cell BK600.out 2).trans rfl
     have hcz58_3 : w42.cell? ⟨gb600, 3, none⟩ = some (.int .u32 a0_3) := (blk_cell BK600.out 3).trans rfl
     have hcz58_4 : w42.cell? ⟨gb600, 4, none⟩ = some (.bool a0_4) := (blk_cell BK600.out 4).trans rfl
     have hfz58_0 := blk_frozen BK600.out 0
     have hfz58_1 := blk_frozen BK600.out 1
     have hfz58_2 := blk_frozen BK600.out 2
     have hfz58_3 := blk_frozen BK600.out 3
     have hfz58_4 := blk_frozen BK600.out 4
     go_wp2
     go_meet
     case rel => exact ⟨_, (true), (by first | rfl | (simp; done) | (simp [*]; done)), H', ⟨by have := HJ3.out; first | omega | exact Nat.le_refl _⟩, ⟨by (with_reducible repeat (first | apply Kd.V_alloc | apply Kd.V_drewN | apply Kd.V_drew)); exact Kd.V_mono (Kd.V_far (p := ⟨gb625, 4, none⟩) (Kd.V_far (p := ⟨gb625, 3, none⟩) (Kd.V_far (p := ⟨gb625, 2, none⟩) (Kd.V_far (p := ⟨gb625, 1, none⟩) (Kd.V_far (p := ⟨gb625, 0, none⟩) (Kd.V_mono HO616.out (fun k_ hk => (⟨hk, hk.2⟩ : _ ∧ k_ ≠ gb625))) (fun _ hk => hk.2) (.slice Ao43 t614.length co43)) (fun _ hk => hk.2) (.int .i64 t617)) (fun _ hk => hk.2) (.string t618)) (fun _ hk => hk.2) (.int .u32 t619)) (fun _ hk => hk.2) (.bool t620)) (fun _ hk => ⟨hk.1.1.2, hk.1.2⟩)⟩, ⟨by (with_reducible repeat (first | refine blk_drewN ?_ _ | refine blk_drew ?_ | refine blk_alloc ?_ _ | refine blk_far ?_ NB600_625.out _)); exact BK600.out⟩, ⟨by (with_reducible repeat (first | refine blk_drewN ?_ _ | refine blk_drew ?_ | refine blk_alloc ?_ _)); refine blk_put (cs := #[.slice Ao43 t614.length co43, .int .i64 t617, .string t618, .int .u32 t619, .bool false]) ?_ 4 _ rfl; (with_reducible repeat (first | refine blk_drewN ?_ _ | refine blk_drew ?_ | refine blk_alloc ?_ _)); refine blk_put (cs := #[.slice Ao43 t614.length co43, .int .i64 t617, .string t618, .int .u32 0, .bool false]) ?_ 3 _ rfl; (with_reducible repeat (first | refine blk_drewN ?_ _ | refine blk_drew ?_ | refine blk_alloc ?_ _)); refine blk_put (cs := #[.slice Ao43 t614.length co43, .int .i64 t617, .string (⟨#[]⟩ : ByteArray), .int .u32 0, .bool false]) ?_ 2 _ rfl; (with_reducible repeat (first | refine blk_drewN ?_ _ | refine blk_drew ?_ | refine blk_alloc ?_ _)); refine blk_put (cs := #[.slice Ao43 t614.length co43, .int .i64 0, .string (⟨#[]⟩ : ByteArray), .int .u32 0, .bool false]) ?_ 1 _ rfl; (with_reducible repeat (first | refine blk_drewN ?_ _ | refine blk_drew ?_ | refine blk_alloc ?_ _)); refine blk_put (cs := #[.slice none 0 0, .int .i64 0, .string (⟨#[]⟩ : ByteArray), .int .u32 0, .bool false]) ?_ 0 _ rfl; (with_reducible repeat (first | refine blk_drewN ?_ _ | refine blk_drew ?_ | refine blk_alloc ?_ _)); exact BK625.out⟩, ⟨hb_ HB⟩⟩
    rw [if_pos c50] at H
    have c50b0 : (t619 == ((a0_3 + 1) % 4294967296)) = true := beq_iff_eq.mpr c50
    have c50b1 : (t619 != ((a0_3 + 1) % 4294967296)) = false := bne_eq_false_iff_eq.mpr c50
    clear c50
    have H' := Aside0.mk H
    clear H
    have hnb51 := NB625_600.out
    have hnc51 := NB600_625.out
    have hcz52_0 : w42.cell? ⟨gb625, 0, none⟩ = some (.slice none 0 0) := (blk_cell BK625.out 0).trans rfl
    have hcz52_1 : w42.cell? ⟨gb625, 1, none⟩ = some (.int .i64 0) := (blk_cell BK625.out 1).trans rfl
    have hcz52_2 : w42.cell? ⟨gb625, 2, none⟩ = some (.string (⟨#[]⟩ : ByteArray)) := (blk_cell BK625.out 2).trans rfl
    have hcz52_3 : w42.cell? ⟨gb625, 3, none⟩ = some (.int .u32 0) := (blk_cell BK625.out 3).trans rfl
    have hcz52_4 : w42.cell? ⟨gb625, 4, none⟩ = some (.bool false) := (blk_cell BK625.out 4).trans rfl
    have hfz52_0 := blk_frozen BK625.out 0
    have hfz52_1 := blk_frozen BK625.out 1
    have hfz52_2 := blk_frozen BK625.out 2
    have hfz52_3 := blk_frozen BK625.out 3
    have hfz52_4 := blk_frozen BK625.out 4
    obtain ⟨Ao53, co53, eo53⟩ := Kd.R_slice HO623.out
    subst eo53
    have hcz54_0 : w42.cell? ⟨gb600, 0, none⟩ = some (.slice A0_0 l0_0.length c0_0) := (blk_cell BK600.out 0).trans rfl
    have hcz54_1 : w42.cell? ⟨gb600, 1, none⟩ = some (.int .i64 a0_1) := (blk_cell BK600.out 1).trans rfl
    have hcz54_2 : w42.cell? ⟨gb600, 2, none⟩ = some (.string a0_2) := (blk_cell BK600.out 2).trans rfl
    have hcz54_3 : w42.cell? ⟨gb600, 3, none⟩ = some (.int .u32 a0_3) := (blk_cell BK600.out 3).trans rfl
    have hcz54_4 : w42.cell? ⟨gb600, 4, none⟩ = some (.bool a0_4) := (blk_cell BK600.out 4).trans rfl
    have hfz54_0 := blk_frozen BK600.out 0
    have hfz54_1 := blk_frozen BK600.out 1
    have hfz54_2 := blk_frozen BK600.out 2
    have hfz54_3 := blk_frozen BK600.out 3
    have hfz54_4 := blk_frozen BK600.out 4
    go_wp2
    go_meet
    case rel => exact ⟨_, ((t620 != a0_4)), (by first | rfl | (simp; done) | (simp [*]; done)), H', ⟨by have := HJ3.out; first | omega | exact Nat.le_refl _⟩, ⟨by (with_reducible repeat (first | apply Kd.V_alloc | apply Kd.V_drewN | apply Kd.V_drew)); exact Kd.V_mono (Kd.V_far (p := ⟨gb625, 4, none⟩) (Kd.V_far (p := ⟨gb625, 3, none⟩) (Kd.V_far (p := ⟨gb625, 2, none⟩) (Kd.V_far (p := ⟨gb625, 1, none⟩) (Kd.V_far (p := ⟨gb625, 0, none⟩) (Kd.V_mono HO616.out (fun k_ hk => (⟨hk, hk.2⟩ : _ ∧ k_ ≠ gb625))) (fun _ hk => hk.2) (.slice Ao43 t614.length co43)) (fun _ hk => hk.2) (.int .i64 t617)) (fun _ hk => hk.2) (.string t618)) (fun _ hk => hk.2) (.int .u32 t619)) (fun _ hk => hk.2) (.bool t620)) (fun _ hk => ⟨hk.1.1.2, hk.1.2⟩)⟩, ⟨by (with_reducible repeat (first | refine blk_drewN ?_ _ | refine blk_drew ?_ | refine blk_alloc ?_ _ | refine blk_far ?_ NB600_625.out _)); exact BK600.out⟩, ⟨by (with_reducible repeat (first | refine blk_drewN ?_ _ | refine blk_drew ?_ | refine blk_alloc ?_ _)); refine blk_put (cs := #[.slice Ao43 t614.length co43, .int .i64 t617, .string t618, .int .u32 t619, .bool false]) ?_ 4 _ rfl; (with_reducible repeat (first | refine blk_drewN ?_ _ | refine blk_drew ?_ | refine blk_alloc ?_ _)); refine blk_put (cs := #[.slice Ao43 t614.length co43, .int .i64 t617, .string t618, .int .u32 0, .bool false]) ?_ 3 _ rfl; (with_reducible repeat (first | refine blk_drewN ?_ _ | refine blk_drew ?_ | refine blk_alloc ?_ _)); refine blk_put (cs := #[.slice Ao43 t614.length co43, .int .i64 t617, .string (⟨#[]⟩ : ByteArray), .int .u32 0, .bool false]) ?_ 2 _ rfl; (with_reducible repeat (first | refine blk_drewN ?_ _ | refine blk_drew ?_ | refine blk_alloc ?_ _)); refine blk_put (cs := #[.slice Ao43 t614.length co43, .int .i64 0, .string (⟨#[]⟩ : ByteArray), .int .u32 0, .bool false]) ?_ 1 _ rfl; (with_reducible repeat (first | refine blk_drewN ?_ _ | refine blk_drew ?_ | refine blk_alloc ?_ _)); refine blk_put (cs := #[.slice none 0 0, .int .i64 0, .string (⟨#[]⟩ : ByteArray), .int .u32 0, .bool false]) ?_ 0 _ rfl; (with_reducible repeat (first | refine blk_drewN ?_ _ | refine blk_drew ?_ | refine blk_alloc ?_ _)); exact BK625.out⟩, ⟨hb_ HB⟩⟩
   case rest =>
    clear HC35
    try clear c1
    try clear c2
    try clear p2
    try clear c4
    try clear c5
    try clear c6
    try clear p6
    try clear c7
    try clear c10
    try clear c11
    try clear c13
    try clear c14
    try clear c15
    try clear c19
    try clear c29
    try clear c44
    try clear c46
    try clear c46b0
    try clear c46b1
    try clear c47
    try clear c47b0
    try clear c47b1
    try clear c47b2
    try clear c48
    try clear c48b0
    try clear c48b1
    try clear c49
    try clear c49b0
    try clear c49b1
    try clear c50
    try clear c50b0
    try clear c50b1
    try clear c51
    try clear c55
    try clear c59
    try clear c63
    try clear p64
    try clear c65
    try clear hcz15_0
    try clear hcz15_1
    try clear hcz15_2
    try clear hcz15_3
    try clear hcz15_4
    try clear hcz17_0
    try clear hcz17_1
    try clear hcz17_2
    try clear hcz17_3
    try clear hcz17_4
    try clear hcz19_0
    try clear hcz19_1
    try clear hcz19_2
    try clear hcz19_3
    try clear hcz19_4
    try clear hcz21_0
    try clear hcz21_1
    try clear hcz21_2
    try clear hcz21_3
    try clear hcz21_4
    try clear hcz23_0
    try clear hcz23_1
    try clear hcz23_2
    try clear hcz23_3
    try clear hcz23_4
    try clear hcz25_0
    try clear hcz25_1
    try clear hcz25_2
    try clear hcz25_3
    try clear hcz25_4
    try clear hcz27_0
    try clear hcz27_1
    try clear hcz27_2
    try clear hcz27_3
    try clear hcz27_4
    try clear hcz36_0
    try clear hcz36_1
    try clear hcz36_2
    try clear hcz36_3
    try clear hcz36_4
    try clear hcz38_0
    try clear hcz38_1
    try clear hcz38_2
    try clear hcz38_3
    try clear hcz38_4
    try clear hcz45_0
    try clear hcz45_1
    try clear hcz45_2
    try clear hcz45_3
    try clear hcz45_4
    try clear hcz52_0
    try clear hcz52_1
    try clear hcz52_2
    try clear hcz52_3
    try clear hcz52_4
    try clear hcz54_0
    try clear hcz54_1
    try clear hcz54_2
    try clear hcz54_3
    try clear hcz54_4
    try clear hcz56_0
    try clear hcz56_1
    try clear hcz56_2
    try clear hcz56_3
    try clear hcz56_4
    try clear hcz58_0
    try clear hcz58_1
    try clear hcz58_2
    try clear hcz58_3
    try clear hcz58_4
    try clear hcz60_0
    try clear hcz60_1
    try clear hcz60_2
    try clear hcz60_3
    try clear hcz60_4
    try clear hcz62_0
    try clear hcz62_1
    try clear hcz62_2
    try clear hcz62_3
    try clear hcz62_4
    try clear hcz64_0
    try clear hcz64_1
    try clear hcz64_2
    try clear hcz64_3
    try clear hcz64_4
    try clear hcz66_0
    try clear hcz66_1
    try clear hcz66_2
    try clear hcz66_3
    try clear hcz66_4
    try clear hcz8_0
    try clear hcz8_1
    try clear hcz8_2
    try clear hcz8_3
    try clear hcz8_4
    try clear hfz15_0
    try clear hfz15_1
    try clear hfz15_2
    try clear hfz15_3
    try clear hfz15_4
    try clear hfz17_0
    try clear hfz17_1
    try clear hfz17_2
    try clear hfz17_3
    try clear hfz17_4
    try clear hfz19_0
    try clear hfz19_1
    try clear hfz19_2
    try clear hfz19_3
    try clear hfz19_4
    try clear hfz21_0
    try clear hfz21_1
    try clear hfz21_2
    try clear hfz21_3
    try clear hfz21_4
    try clear hfz23_0
    try clear hfz23_1
    try clear hfz23_2
    try clear hfz23_3
    try clear hfz23_4
    try clear hfz25_0
    try clear hfz25_1
    try clear hfz25_2
    try clear hfz25_3
    try clear hfz25_4
    try clear hfz27_0
    try clear hfz27_1
    try clear hfz27_2
    try clear hfz27_3
    try clear hfz27_4
    try clear hfz36_0
    try clear hfz36_1
    try clear hfz36_2
    try clear hfz36_3
    try clear hfz36_4
    try clear hfz38_0
    try clear hfz38_1
    try clear hfz38_2
    try clear hfz38_3
    try clear hfz38_4
    try clear hfz45_0
    try clear hfz45_1
    try clear hfz45_2
    try clear hfz45_3
    try clear hfz45_4
    try clear hfz52_0
    try clear hfz52_1
    try clear hfz52_2
    try clear hfz52_3
    try clear hfz52_4
    try clear hfz54_0
    try clear hfz54_1
    try clear hfz54_2
    try clear hfz54_3
    try clear hfz54_4
    try clear hfz56_0
    try clear hfz56_1
    try clear hfz56_2
    try clear hfz56_3
    try clear hfz56_4
    try clear hfz58_0
    try clear hfz58_1
    try clear hfz58_2
    try clear hfz58_3
    try clear hfz58_4
    try clear hfz60_0
    try clear hfz60_1
    try clear hfz60_2
    try clear hfz60_3
    try clear hfz60_4
    try clear hfz62_0
    try clear hfz62_1
    try clear hfz62_2
    try clear hfz62_3
    try clear hfz62_4
    try clear hfz64_0
    try clear hfz64_1
    try clear hfz64_2
    try clear hfz64_3
    try clear hfz64_4
    try clear hfz66_0
    try clear hfz66_1
    try clear hfz66_2
    try clear hfz66_3
    try clear hfz66_4
    try clear hfz8_0
    try clear hfz8_1
    try clear hfz8_2
    try clear hfz8_3
    try clear hfz8_4
    try clear p2
    obtain ⟨kq, x87_34, rfl, HA, HJ34, HO_626000, BK600, BK625, HB⟩ := hcut
    cases kq with
    | zero => exact absurd HA.out (by simp [headgatelaw11_ResvClears.j1])
    | succ kj34 =>
     have H := HA.out
     clear HA
     simp only [headgatelaw11_ResvClears.j1] at H
     by_cases c67 : x87_34 = true
     ·subst c67
      have H1 := H
      rw [if_pos rfl] at H1
      clear H
      have H := H1
      clear H1
      exact absurd ((Option.some.inj H).trans HT0.out) (by decide)
     replace c67 := Bool.eq_false_iff.mpr c67
     subst c67
     have H1 := H
     rw [if_neg (show ¬ (false = true) by decide)] at H1
     clear H
     have H := H1
     clear H1
     replace H := Option.bind_eq_some_iff.mp H
     obtain ⟨t626, A680, H⟩ := H
     try dsimp only at H
     have A68 := Aside0.mk A680
     clear A680
     replace H := Option.bind_eq_some_iff.mp H
     obtain ⟨⟨t627, t630, t631, t632, t633, t634, t637⟩, A690, H⟩ := H
     try dsimp only at H
     have A69 := Aside0.mk A690
     clear A690
     replace H := Option.bind_eq_some_iff.mp H
     obtain ⟨⟨t639, t642, t643, t644, t645, t646, t649⟩, A700, H⟩ := H
     try dsimp only at H
     have A70 := Aside0.mk A700
     clear A700
     refine neg_first (p := (t637 = 1)) (fun c71 => ?_) (fun c71 => ?_)
     ·rw [if_neg c71] at H
      have c71b0 : (t637 == 1) = false := beq_eq_false_iff_ne.mpr c71
      have c71b1 : (t637 != 1) = true := bne_iff_ne.mpr c71
      exact absurd ((Option.some.inj H).trans HT0.out) (by decide)

     rw [if_pos c71] at H
     have c71b0 : (t637 == 1) = true := beq_iff_eq.mpr c71
     have c71b1 : (t637 != 1) = false := bne_eq_false_iff_eq.mpr c71
     clear c71
     refine neg_first (p := (t649 = 1)) (fun c72 => ?_) (fun c72 => ?_)
     ·rw [if_neg c72] at H
      have c72b0 : (t649 == 1) = false := beq_eq_false_iff_ne.mpr c72
      have c72b1 : (t649 != 1) = true := bne_iff_ne.mpr c72
      exact absurd ((Option.some.inj H).trans HT0.out) (by decide)
     rw [if_pos c72] at H
     have c72b0 : (t649 == 1) = true := beq_iff_eq.mpr c72
     have c72b1 : (t649 != 1) = false := bne_eq_false_iff_eq.mpr c72
     clear c72
     replace H := Option.bind_eq_some_iff.mp H
     obtain ⟨t651, A730, H⟩ := H
     try dsimp only at H
     have A73 := Aside0.mk A730
     clear A730
     refine neg_first (p := (t651 = true)) (fun c74 => ?_) (fun c74 => ?_)
     ·replace c74 := Bool.eq_false_iff.mpr c74
      subst c74
      have H1 := H
      rw [if_neg (show ¬ (false = true) by decide)] at H1
      clear H
      have H := H1
      clear H1
      exact absurd ((Option.some.inj H).trans HT0.out) (by decide)
     subst c74
     have H1 := H
     rw [if_pos rfl] at H1
     clear H
     have H := H1
     clear H1
     refine neg_first (p := (t642 = (wrap64 (1 + t626)))) (fun c75 => ?_) (fun c75 => ?_)
     ·rw [if_neg c75] at H
      have c75b0 : (t642 == (wrap64 (1 + t626))) = false := beq_eq_false_iff_ne.mpr c75
      have c75b1 : (t642 != (wrap64 (1 + t626))) = true := bne_iff_ne.mpr c75
      exact absurd ((Option.some.inj H).trans HT0.out) (by decide)
     rw [if_pos c75] at H
     have c75b0 : (t642 == (wrap64 (1 + t626))) = true := beq_iff_eq.mpr c75
     have c75b1 : (t642 != (wrap64 (1 + t626))) = false := bne_eq_false_iff_eq.mpr c75
     clear c75
     replace H := Option.bind_eq_some_iff.mp H
     obtain ⟨t652, A760, H⟩ := H
     try dsimp only at H
     have A76 := Aside0.mk A760
     clear A760
     refine neg_first (p := (t652 = true)) (fun c77 => ?_) (fun c77 => ?_)
     ·replace c77 := Bool.eq_false_iff.mpr c77
      subst c77
      have H1 := H
      rw [if_neg (show ¬ (false = true) by decide)] at H1
      clear H
      have H := H1
      clear H1
      exact absurd ((Option.some.inj H).trans HT0.out) (by decide)
     subst c77
     have H1 := H
     rw [if_pos rfl] at H1
     clear H
     have H := H1
     clear H1
     replace H := Option.bind_eq_some_iff.mp H
     obtain ⟨t653, A780, H⟩ := H
     try dsimp only at H
     have A78 := Aside0.mk A780
     clear A780
     obtain rfl := Option.some.inj H
     go_wp2_with (first | ((with_reducible refine gate_callee (f := 22) rfl ?_); refine goesL_ (some 89) rfl rfl Tryd.func22 (by kernel_rfl) rfl #[.int .i64 a2, .int .i64 6] rfl (by (try simp only [List.map_toArray, List.map_cons, List.map_nil]); first | done | rfl | (simp only [List.length_drop, List.length_take]; rfl)) ?_; (with_reducible refine (headgatekeep_Mod.calls a2 6 t626 _ A68.out).mono ?_); rintro e w' ⟨rfl, ⟨nd, rfl⟩⟩; refine ⟨_, rfl, ?_⟩; (try (rw [drewN_self wc]; generalize hq_ : World.drewN wc _ = wc; have n0_ : Aside0 (Kd.V k53 53 wc w.heap.size (fun k_ => k_ ≠ gb600 ∧ k_ ≠ gb625) (.slice Ao43 t614.length co43) t614) := ⟨by rw [← hq_]; exact (by (with_reducible repeat (first | apply Kd.V_alloc | apply Kd.V_drewN | apply Kd.V_drew)); exact HO_626000.out)⟩; have n1_ : Aside0 (wc.heap[gb600]? = some (.cells #[.slice A0_0 l0_0.length c0_0, .int .i64 a0_1, .string a0_2, .int .u32 a0_3, .bool a0_4] 27 (0, 0))) := ⟨by rw [← hq_]; exact (bk_ BK600)⟩; have n2_ : Aside0 (wc.heap[gb625]? = some (.cells #[.slice Ao43 t614.length co43, .int .i64 t617, .string t618, .int .u32 t619, .bool t620] 27 (0, 0))) := ⟨by rw [← hq_]; exact (bk_ BK625)⟩; have n3_ : Aside0 (Below w.heap.size w wc) := ⟨by rw [← hq_]; exact (hb_ HB)⟩; clear HO_626000 BK600 BK625 HB hq_; have HO_626000 := n0_; have BK600 := n1_; have BK625 := n2_; have HB := n3_; clear n0_ n1_ n2_ n3_)); have hnb79 := NB625_600.out; have hnc79 := NB600_625.out; have hcz80_0 : wc.cell? ⟨gb625, 0, none⟩ = some (.slice Ao43 t614.length co43) := (blk_cell BK625.out 0).trans rfl; have hcz80_1 : wc.cell? ⟨gb625, 1, none⟩ = some (.int .i64 t617) := (blk_cell BK625.out 1).trans rfl; have hcz80_2 : wc.cell? ⟨gb625, 2, none⟩ = some (.string t618) := (blk_cell BK625.out 2).trans rfl; have hcz80_3 : wc.cell? ⟨gb625, 3, none⟩ = some (.int .u32 t619) := (blk_cell BK625.out 3).trans rfl; have hcz80_4 : wc.cell? ⟨gb625, 4, none⟩ = some (.bool t620) := (blk_cell BK625.out 4).trans rfl; have hfz80_0 := blk_frozen BK625.out 0; have hfz80_1 := blk_frozen BK625.out 1; have hfz80_2 := blk_frozen BK625.out 2; have hfz80_3 := blk_frozen BK625.out 3; have hfz80_4 := blk_frozen BK625.out 4) | ((with_reducible refine gate_callee (f := 15) rfl ?_); refine goesL_ (some 96) rfl rfl Tryd.func15 (by kernel_rfl) rfl #[.agg #[.slice Ao43 t614.length co43, .int .i64 t617, .string t618, .int .u32 t619, .bool t620], .agg #[.int .i64 8, .int .i64 0, .string a1, .int .i64 0, .int .i64 0, .string (⟨#[]⟩ : ByteArray), .bool false, .slice none 0 0, .int .u64 0, .int .u64 t606, .int .u64 0, .int .i64 0, .bool false, .int .i64 0]] rfl (by (try simp only [List.map_toArray, List.map_cons, List.map_nil]); first | done | rfl | (simp only [List.length_drop, List.length_take]; rfl)) ?_; (refine (resv_Do.calls kj34 (fun k_ => (k_ ≠ gb600 ∧ k_ ≠ gb625)) _ _ t614 t617 t618 t619 t620 8 0 a1 0 0 (⟨#[]⟩ : ByteArray) false _ _ ([] : List (S100)) 0 t606 0 0 false 0 t627 t630 t631 t632 t633 t634 t637 _ ?side1 ?side2 ?side3 ?side4 A69.out).mono ?_); (case side1 => exact HO_626000.out); (case side2 => exact Kd.C_nil _ _); (case side3 => exact Nat.le_refl _); (case side4 => first | ((refine Glob.keep HG.out ?_); (repeat (first | (with_reducible first | exact HB.out | apply below_alloc | apply pw_below_drewN | apply below_drew1 | refine below_set ?_ GE600.out | refine below_set ?_ GE625.out) | exact HB.out)); done) | exact HG.out); rintro e w81 ⟨v628, v635, rfl, ho0, ho1, hb⟩; refine ⟨_, rfl, ?_⟩; have n0_ := Aside0.mk (Kd.V_elder' (by (with_reducible repeat (first | apply Kd.V_alloc | apply Kd.V_drewN | apply Kd.V_drew)); exact HO_626000.out) (Kd.R_base ho1) hb); have n1_ := Aside0.mk (Kd.V_lower (Kd.V_mono (ok' := fun k_ => some k_ ≠ (v635 : Value).ownBlock ∧ k_ ≠ gb600 ∧ k_ ≠ gb625) ho0 (fun k_ hk_ => ⟨hk_.2, Or.elim hk_.1 (fun hs_ => hs_.1) (fun hn_ => (Kd.freshB (g := gb600) (o := .cells #[.slice A0_0 l0_0.length c0_0, .int .i64 a0_1, .string a0_2, .int .u32 a0_3, .bool a0_4] 27 (0, 0)) (bk_ BK600) k_ hn_)), Or.elim hk_.1 (fun hs_ => hs_.2) (fun hn_ => (Kd.freshB (g := gb625) (o := .cells #[.slice Ao43 t614.length co43, .int .i64 t617, .string t618, .int .u32 t619, .bool t620] 27 (0, 0)) (bk_ BK625) k_ hn_))⟩)) (below_size (hb_ HB))); have n2_ := Aside0.mk (Kd.R_lower (Kd.R_mono (ok' := fun k_ => True) ho1 (fun _ hk_ => trivial)) (below_size (hb_ HB))); have n3_ := Aside0.mk (blk_below (bk_ BK600) hb); have n4_ := Aside0.mk (blk_below (bk_ BK625) hb); have n5_ := Aside0.mk (below_step (hb_ HB) hb); clear HO_626000; clear BK600; clear BK625; clear HB; have HO_626000 := n0_; have HO629 := n1_; have HO636 := n2_; have BK600 := n3_; have BK625 := n4_; have HB := n5_; clear n0_ n1_ n2_ n3_ n4_ n5_; (try clear hb); (try clear hb2); (try clear hk); (try clear hi); (try clear ho0); (try clear ho1)) | ((with_reducible refine gate_dst (N := 12) rfl ?_); refine box_event ?hg (N := 12) ?hd (cs := #[.slice none 0 0, .int .i64 0, .string (⟨#[]⟩ : ByteArray), .int .u32 0, .bool false]) (t := 27) ?hr ?_; (case hd => rfl); (case hg => rfl); (case hr => first | (go_simp; done) | (go_simp; rfl)); intro gb638 hg w82 hbox hb; have n0_ := Aside0.mk (Kd.V_below (Kd.V_elderB (by (with_reducible repeat (first | apply Kd.V_alloc | apply Kd.V_drewN | apply Kd.V_drew)); exact HO_626000.out) gb638 (Nat.le_of_eq hg.symm)) hb); have n1_ := Aside0.mk (Kd.V_below (Kd.V_elderB (by (with_reducible repeat (first | apply Kd.V_alloc | apply Kd.V_drewN | apply Kd.V_drew)); exact HO629.out) gb638 (Nat.le_of_eq hg.symm)) hb); have n2_ := Aside0.mk (Kd.R_below (by (with_reducible repeat (first | apply Kd.R_alloc | apply Kd.R_drewN | apply Kd.R_drew)); exact HO636.out) hb); have n3_ := Aside0.mk (blk_below (bk_ BK600) hb); have n4_ := Aside0.mk (blk_below (bk_ BK625) hb); have n5_ := Aside0.mk (below_step (hb_ HB) hb); have n6_ := Aside0.mk (hbox); have n7_ := Aside0.mk ((by rw [hg]; exact (below_size (hb_ HB)) : w.heap.size ≤ gb638)); have n8_ := Aside0.mk ((by rw [hg]; exact (below_size (hb_ HB)) : w.heap.size ≤ gb638)); have n9_ := Aside0.mk ((by rw [hg]; exact Nat.ne_of_lt (blk_lt (g := gb600) (o := .cells #[.slice A0_0 l0_0.length c0_0, .int .i64 a0_1, .string a0_2, .int .u32 a0_3, .bool a0_4] 27 (0, 0)) (bk_ BK600)) : gb600 ≠ gb638)); have n10_ := Aside0.mk ((by rw [hg]; exact Nat.ne_of_gt (blk_lt (g := gb600) (o := .cells #[.slice A0_0 l0_0.length c0_0, .int .i64 a0_1, .string a0_2, .int .u32 a0_3, .bool a0_4] 27 (0, 0)) (bk_ BK600)) : gb638 ≠ gb600)); have n11_ := Aside0.mk ((by rw [hg]; exact Nat.ne_of_lt (blk_lt (g := gb625) (o := .cells #[.slice Ao43 t614.length co43, .int .i64 t617, .string t618, .int .u32 t619, .bool t620] 27 (0, 0)) (bk_ BK625)) : gb625 ≠ gb638)); have n12_ := Aside0.mk ((by rw [hg]; exact Nat.ne_of_gt (blk_lt (g := gb625) (o := .cells #[.slice Ao43 t614.length co43, .int .i64 t617, .string t618, .int .u32 t619, .bool t620] 27 (0, 0)) (bk_ BK625)) : gb638 ≠ gb625)); clear HO_626000; clear HO629; clear HO636; clear BK600; clear BK625; clear HB; have HO_626000 := n0_; have HO629 := n1_; have HO636 := n2_; have BK600 := n3_; have BK625 := n4_; have HB := n5_; have BK638 := n6_; have GW638 := n7_; have GE638 := n8_; have NB600_638 := n9_; have NB638_600 := n10_; have NB625_638 := n11_; have NB638_625 := n12_; clear n0_ n1_ n2_ n3_ n4_ n5_ n6_ n7_ n8_ n9_ n10_ n11_ n12_; clear hb hbox hg; obtain ⟨Ao83, co83, eo83⟩ := Kd.V_slice HO629.out; subst eo83; have hnb84 := NB638_600.out; have hnc84 := NB600_638.out; have hnb85 := NB638_625.out; have hnc85 := NB625_638.out; have hcz86_0 : w82.cell? ⟨gb638, 0, none⟩ = some (.slice none 0 0) := (blk_cell BK638.out 0).trans rfl; have hcz86_1 : w82.cell? ⟨gb638, 1, none⟩ = some (.int .i64 0) := (blk_cell BK638.out 1).trans rfl; have hcz86_2 : w82.cell? ⟨gb638, 2, none⟩ = some (.string (⟨#[]⟩ : ByteArray)) := (blk_cell BK638.out 2).trans rfl; have hcz86_3 : w82.cell? ⟨gb638, 3, none⟩ = some (.int .u32 0) := (blk_cell BK638.out 3).trans rfl; have hcz86_4 : w82.cell? ⟨gb638, 4, none⟩ = some (.bool false) := (blk_cell BK638.out 4).trans rfl; have hfz86_0 := blk_frozen BK638.out 0; have hfz86_1 := blk_frozen BK638.out 1; have hfz86_2 := blk_frozen BK638.out 2; have hfz86_3 := blk_frozen BK638.out 3; have hfz86_4 := blk_frozen BK638.out 4) | ((with_reducible refine gate_store (t := 27) (p := 12) rfl ?_); refine store_event (t := 27) (p := 12) (v := ?vo_w87) (w1 := (((((w82.setCell ⟨gb638, 0, none⟩ (.slice Ao83 t627.length co83)).setCell ⟨gb638, 1, none⟩ (.int .i64 t630)).setCell ⟨gb638, 2, none⟩ (.string t631)).setCell ⟨gb638, 3, none⟩ (.int .u32 t632)).setCell ⟨gb638, 4, none⟩ (.bool t633))) ?hg ?ho ?hn ?hr ?_; (case ho => rfl); (case hg => rfl); (case hn => rfl); (case hr => first | (go_simp; done) | (go_simp; rfl)); intro w87 hw; have n0_ : Aside0 (Kd.V k53 53 w87 w.heap.size (fun k_ => some k_ ≠ (v635 : Value).ownBlock ∧ k_ ≠ gb600 ∧ k_ ≠ gb625 ∧ k_ ≠ gb638) (.slice Ao43 t614.length co43) t614) := ⟨(by rw [hw]; exact (by (with_reducible repeat (first | apply Kd.V_alloc | apply Kd.V_drewN | apply Kd.V_drew)); exact Kd.V_mono (Kd.V_far (p := ⟨gb638, 4, none⟩) (Kd.V_far (p := ⟨gb638, 3, none⟩) (Kd.V_far (p := ⟨gb638, 2, none⟩) (Kd.V_far (p := ⟨gb638, 1, none⟩) (Kd.V_far (p := ⟨gb638, 0, none⟩) (Kd.V_mono HO_626000.out (fun k_ hk => (⟨hk, hk.2⟩ : _ ∧ k_ ≠ gb638))) (fun _ hk => hk.2) (.slice Ao83 t627.length co83)) (fun _ hk => hk.2) (.int .i64 t630)) (fun _ hk => hk.2) (.string t631)) (fun _ hk => hk.2) (.int .u32 t632)) (fun _ hk => hk.2) (.bool t633)) (fun _ hk => ⟨hk.1.1.2, ⟨hk.1.1.1.1, ⟨hk.1.1.1.2, hk.1.2⟩⟩⟩)))⟩; have n1_ : Aside0 (Kd.V k53 53 w87 w.heap.size (fun k_ => some k_ ≠ (v635 : Value).ownBlock ∧ k_ ≠ gb600 ∧ k_ ≠ gb625 ∧ k_ ≠ gb638) (.slice Ao83 t627.length co83) t627) := ⟨(by rw [hw]; exact (by (with_reducible repeat (first | apply Kd.V_alloc | apply Kd.V_drewN | apply Kd.V_drew)); exact Kd.V_mono (Kd.V_far (p := ⟨gb638, 4, none⟩) (Kd.V_far (p := ⟨gb638, 3, none⟩) (Kd.V_far (p := ⟨gb638, 2, none⟩) (Kd.V_far (p := ⟨gb638, 1, none⟩) (Kd.V_far (p := ⟨gb638, 0, none⟩) (Kd.V_mono HO629.out (fun k_ hk => (⟨hk, hk.2⟩ : _ ∧ k_ ≠ gb638))) (fun _ hk => hk.2) (.slice Ao83 t627.length co83)) (fun _ hk => hk.2) (.int .i64 t630)) (fun _ hk => hk.2) (.string t631)) (fun _ hk => hk.2) (.int .u32 t632)) (fun _ hk => hk.2) (.bool t633)) (fun _ hk => ⟨hk.1.1.1, ⟨hk.1.1.2.1, ⟨hk.1.1.2.2, hk.1.2⟩⟩⟩)))⟩; have n2_ : Aside0 (Kd.R k46 46 w87 w.heap.size (fun _ => True) v635 t634) := ⟨(by rw [hw]; exact (by (with_reducible repeat (first | apply Kd.R_alloc | apply Kd.R_drewN | apply Kd.R_drew)); exact Kd.R_mono (Kd.R_far (p := ⟨gb638, 4, none⟩) (Kd.R_far (p := ⟨gb638, 3, none⟩) (Kd.R_far (p := ⟨gb638, 2, none⟩) (Kd.R_far (p := ⟨gb638, 1, none⟩) (Kd.R_far (p := ⟨gb638, 0, none⟩) (Kd.R_types HO636.out BK638.out (by decide)) (fun _ hk => hk.2) (.slice Ao83 t627.length co83)) (fun _ hk => hk.2) (.int .i64 t630)) (fun _ hk => hk.2) (.string t631)) (fun _ hk => hk.2) (.int .u32 t632)) (fun _ hk => hk.2) (.bool t633)) (fun _ hk => trivial)))⟩; have n3_ : Aside0 (w87.heap[gb600]? = some (.cells #[.slice A0_0 l0_0.length c0_0, .int .i64 a0_1, .string a0_2, .int .u32 a0_3, .bool a0_4] 27 (0, 0))) := ⟨(by rw [hw]; exact (by (with_reducible repeat (first | refine blk_drewN ?_ _ | refine blk_drew ?_ | refine blk_alloc ?_ _ | refine blk_far ?_ NB600_638.out _)); exact BK600.out))⟩; have n4_ : Aside0 (w87.heap[gb625]? = some (.cells #[.slice Ao43 t614.length co43, .int .i64 t617, .string t618, .int .u32 t619, .bool t620] 27 (0, 0))) := ⟨(by rw [hw]; exact (by (with_reducible repeat (first | refine blk_drewN ?_ _ | refine blk_drew ?_ | refine blk_alloc ?_ _ | refine blk_far ?_ NB625_638.out _)); exact BK625.out))⟩; have n5_ : Aside0 (w87.heap[gb638]? = some (.cells #[.slice Ao83 t627.length co83, .int .i64 t630, .string t631, .int .u32 t632, .bool t633] 27 (0, 0))) := ⟨(by rw [hw]; exact (by (with_reducible repeat (first | refine blk_drewN ?_ _ | refine blk_drew ?_ | refine blk_alloc ?_ _)); refine blk_put (cs := #[.slice Ao83 t627.length co83, .int .i64 t630, .string t631, .int .u32 t632, .bool false]) ?_ 4 _ rfl; (with_reducible repeat (first | refine blk_drewN ?_ _ | refine blk_drew ?_ | refine blk_alloc ?_ _)); refine blk_put (cs := #[.slice Ao83 t627.length co83, .int .i64 t630, .string t631, .int .u32 0, .bool false]) ?_ 3 _ rfl; (with_reducible repeat (first | refine blk_drewN ?_ _ | refine blk_drew ?_ | refine blk_alloc ?_ _)); refine blk_put (cs := #[.slice Ao83 t627.length co83, .int .i64 t630, .string (⟨#[]⟩ : ByteArray), .int .u32 0, .bool false]) ?_ 2 _ rfl; (with_reducible repeat (first | refine blk_drewN ?_ _ | refine blk_drew ?_ | refine blk_alloc ?_ _)); refine blk_put (cs := #[.slice Ao83 t627.length co83, .int .i64 0, .string (⟨#[]⟩ : ByteArray), .int .u32 0, .bool false]) ?_ 1 _ rfl; (with_reducible repeat (first | refine blk_drewN ?_ _ | refine blk_drew ?_ | refine blk_alloc ?_ _)); refine blk_put (cs := #[.slice none 0 0, .int .i64 0, .string (⟨#[]⟩ : ByteArray), .int .u32 0, .bool false]) ?_ 0 _ rfl; (with_reducible repeat (first | refine blk_drewN ?_ _ | refine blk_drew ?_ | refine blk_alloc ?_ _)); exact BK638.out))⟩; have n6_ : Aside0 (Below w.heap.size w w87) := ⟨(by rw [hw]; exact (hb_ HB))⟩; clear hw; clear HO_626000; clear HO629; clear HO636; clear BK600; clear BK625; clear BK638; clear HB; have HO_626000 := n0_; have HO629 := n1_; have HO636 := n2_; have BK600 := n3_; have BK625 := n4_; have BK638 := n5_; have HB := n6_; clear n0_ n1_ n2_ n3_ n4_ n5_ n6_; have hcz88_0 : w87.cell? ⟨gb638, 0, none⟩ = some (.slice Ao83 t627.length co83) := (blk_cell BK638.out 0).trans rfl; have hcz88_1 : w87.cell? ⟨gb638, 1, none⟩ = some (.int .i64 t630) := (blk_cell BK638.out 1).trans rfl; have hcz88_2 : w87.cell? ⟨gb638, 2, none⟩ = some (.string t631) := (blk_cell BK638.out 2).trans rfl; have hcz88_3 : w87.cell? ⟨gb638, 3, none⟩ = some (.int .u32 t632) := (blk_cell BK638.out 3).trans rfl; have hcz88_4 : w87.cell? ⟨gb638, 4, none⟩ = some (.bool t633) := (blk_cell BK638.out 4).trans rfl; have hfz88_0 := blk_frozen BK638.out 0; have hfz88_1 := blk_frozen BK638.out 1; have hfz88_2 := blk_frozen BK638.out 2; have hfz88_3 := blk_frozen BK638.out 3; have hfz88_4 := blk_frozen BK638.out 4) | ((with_reducible refine gate_callee (f := 15) rfl ?_); refine goesL_ (some 106) rfl rfl Tryd.func15 (by kernel_rfl) rfl #[.agg #[.slice Ao83 t627.length co83, .int .i64 t630, .string t631, .int .u32 t632, .bool t633], .agg #[.int .i64 9, .int .i64 0, .string a1, .int .i64 0, .int .i64 0, .string (⟨#[]⟩ : ByteArray), .bool false, .slice none 0 0, .int .u64 t606, .int .u64 0, .int .u64 0, .int .i64 (wrap64 (1 + t626)), .bool false, .int .i64 0]] rfl (by (try simp only [List.map_toArray, List.map_cons, List.map_nil]); first | done | rfl | (simp only [List.length_drop, List.length_take]; rfl)) ?_; (refine (resv_Do.calls kj34 (fun k_ => (some k_ ≠ (v635 : Value).ownBlock ∧ (k_ ≠ gb600 ∧ (k_ ≠ gb625 ∧ k_ ≠ gb638)))) _ _ t627 t630 t631 t632 t633 9 0 a1 0 0 (⟨#[]⟩ : ByteArray) false _ _ ([] : List (S100)) t606 0 0 (wrap64 (1 + t626)) false 0 t639 t642 t643 t644 t645 t646 t649 _ ?side1 ?side2 ?side3 ?side4 A70.out).mono ?_); (case side1 => exact HO629.out); (case side2 => exact Kd.C_nil _ _); (case side3 => exact Nat.le_refl _); (case side4 => first | ((refine Glob.keep HG.out ?_); (repeat (first | (with_reducible first | exact HB.out | apply below_alloc | apply pw_below_drewN | apply below_drew1 | refine below_set ?_ GE600.out | refine below_set ?_ GE625.out | refine below_set ?_ GE638.out) | exact HB.out)); done) | exact HG.out); rintro e w89 ⟨v640, v647, rfl, ho0, ho1, hb⟩; refine ⟨_, rfl, ?_⟩; have n0_ := Aside0.mk (Kd.V_elder' (by (with_reducible repeat (first | apply Kd.V_alloc | apply Kd.V_drewN | apply Kd.V_drew)); exact HO_626000.out) (Kd.R_base ho1) hb); have n1_ := Aside0.mk (Kd.V_elder' (by (with_reducible repeat (first | apply Kd.V_alloc | apply Kd.V_drewN | apply Kd.V_drew)); exact HO629.out) (Kd.R_base ho1) hb); have n2_ := Aside0.mk (Kd.R_elder' (by (with_reducible repeat (first | apply Kd.R_alloc | apply Kd.R_drewN | apply Kd.R_drew)); exact HO636.out) (Kd.R_base ho1) hb); have n3_ := Aside0.mk (Kd.V_lower (Kd.V_mono (ok' := fun k_ => some k_ ≠ (v647 : Value).ownBlock ∧ some k_ ≠ (v635 : Value).ownBlock ∧ k_ ≠ gb600 ∧ k_ ≠ gb625 ∧ k_ ≠ gb638) ho0 (fun k_ hk_ => ⟨hk_.2, Or.elim hk_.1 (fun hs_ => hs_.1) (fun hn_ => (Kd.fresh' (Kd.R_lt (by (with_reducible repeat (first | apply Kd.R_alloc | apply Kd.R_drewN | apply Kd.R_drew)); exact HO636.out)) k_ hn_)), Or.elim hk_.1 (fun hs_ => hs_.2.1) (fun hn_ => (Kd.freshB (g := gb600) (o := .cells #[.slice A0_0 l0_0.length c0_0, .int .i64 a0_1, .string a0_2, .int .u32 a0_3, .bool a0_4] 27 (0, 0)) (bk_ BK600) k_ hn_)), Or.elim hk_.1 (fun hs_ => hs_.2.2.1) (fun hn_ => (Kd.freshB (g := gb625) (o := .cells #[.slice Ao43 t614.length co43, .int .i64 t617, .string t618, .int .u32 t619, .bool t620] 27 (0, 0)) (bk_ BK625) k_ hn_)), Or.elim hk_.1 (fun hs_ => hs_.2.2.2) (fun hn_ => (Kd.freshB (g := gb638) (o := .cells #[.slice Ao83 t627.length co83, .int .i64 t630, .string t631, .int .u32 t632, .bool t633] 27 (0, 0)) (bk_ BK638) k_ hn_))⟩)) (below_size (hb_ HB))); have n4_ := Aside0.mk (Kd.R_lower (Kd.R_new' (Kd.R_mono (ok' := fun k_ => True) ho1 (fun _ hk_ => trivial)) (Kd.R_lt (by (with_reducible repeat (first | apply Kd.R_alloc | apply Kd.R_drewN | apply Kd.R_drew)); exact HO636.out))) (below_size (hb_ HB))); have n5_ := Aside0.mk (blk_below (bk_ BK600) hb); have n6_ := Aside0.mk (blk_below (bk_ BK625) hb); have n7_ := Aside0.mk (blk_below (bk_ BK638) hb); have n8_ := Aside0.mk (below_step (hb_ HB) hb); clear HO_626000; clear HO629; clear HO636; clear BK600; clear BK625; clear BK638; clear HB; have HO_626000 := n0_; have HO629 := n1_; have HO636 := n2_; have HO641 := n3_; have HO648 := n4_; have BK600 := n5_; have BK625 := n6_; have BK638 := n7_; have HB := n8_; clear n0_ n1_ n2_ n3_ n4_ n5_ n6_ n7_ n8_; (try clear hb); (try clear hb2); (try clear hk); (try clear hi); (try clear ho0); (try clear ho1)) | ((with_reducible refine gate_dst (N := 15) rfl ?_); refine box_event ?hg (N := 15) ?hd (cs := #[.slice none 0 0, .int .i64 0, .string (⟨#[]⟩ : ByteArray), .int .u32 0, .bool false]) (t := 27) ?hr ?_; (case hd => rfl); (case hg => rfl); (case hr => first | (go_simp; done) | (go_simp; rfl)); intro gb650 hg w90 hbox hb; have n0_ := Aside0.mk (Kd.V_below (Kd.V_elderB (by (with_reducible repeat (first | apply Kd.V_alloc | apply Kd.V_drewN | apply Kd.V_drew)); exact HO_626000.out) gb650 (Nat.le_of_eq hg.symm)) hb); have n1_ := Aside0.mk (Kd.V_below (Kd.V_elderB (by (with_reducible repeat (first | apply Kd.V_alloc | apply Kd.V_drewN | apply Kd.V_drew)); exact HO629.out) gb650 (Nat.le_of_eq hg.symm)) hb); have n2_ := Aside0.mk (Kd.R_below (by (with_reducible repeat (first | apply Kd.R_alloc | apply Kd.R_drewN | apply Kd.R_drew)); exact HO636.out) hb); have n3_ := Aside0.mk (Kd.V_below (Kd.V_elderB (by (with_reducible repeat (first | apply Kd.V_alloc | apply Kd.V_drewN | apply Kd.V_drew)); exact HO641.out) gb650 (Nat.le_of_eq hg.symm)) hb); have n4_ := Aside0.mk (Kd.R_below (by (with_reducible repeat (first | apply Kd.R_alloc | apply Kd.R_drewN | apply Kd.R_drew)); exact HO648.out) hb); have n5_ := Aside0.mk (blk_below (bk_ BK600) hb); have n6_ := Aside0.mk (blk_below (bk_ BK625) hb); have n7_ := Aside0.mk (blk_below (bk_ BK638) hb); have n8_ := Aside0.mk (below_step (hb_ HB) hb); have n9_ := Aside0.mk (hbox); have n10_ := Aside0.mk ((by rw [hg]; exact (below_size (hb_ HB)) : w.heap.size ≤ gb650)); have n11_ := Aside0.mk ((by rw [hg]; exact (below_size (hb_ HB)) : w.heap.size ≤ gb650)); have n12_ := Aside0.mk ((by rw [hg]; exact Nat.ne_of_lt (blk_lt (g := gb600) (o := .cells #[.slice A0_0 l0_0.length c0_0, .int .i64 a0_1, .string a0_2, .int .u32 a0_3, .bool a0_4] 27 (0, 0)) (bk_ BK600)) : gb600 ≠ gb650)); have n13_ := Aside0.mk ((by rw [hg]; exact Nat.ne_of_gt (blk_lt (g := gb600) (o := .cells #[.slice A0_0 l0_0.length c0_0, .int .i64 a0_1, .string a0_2, .int .u32 a0_3, .bool a0_4] 27 (0, 0)) (bk_ BK600)) : gb650 ≠ gb600)); have n14_ := Aside0.mk ((by rw [hg]; exact Nat.ne_of_lt (blk_lt (g := gb625) (o := .cells #[.slice Ao43 t614.length co43, .int .i64 t617, .string t618, .int .u32 t619, .bool t620] 27 (0, 0)) (bk_ BK625)) : gb625 ≠ gb650)); have n15_ := Aside0.mk ((by rw [hg]; exact Nat.ne_of_gt (blk_lt (g := gb625) (o := .cells #[.slice Ao43 t614.length co43, .int .i64 t617, .string t618, .int .u32 t619, .bool t620] 27 (0, 0)) (bk_ BK625)) : gb650 ≠ gb625)); have n16_ := Aside0.mk ((by rw [hg]; exact Nat.ne_of_lt (blk_lt (g := gb638) (o := .cells #[.slice Ao83 t627.length co83, .int .i64 t630, .string t631, .int .u32 t632, .bool t633] 27 (0, 0)) (bk_ BK638)) : gb638 ≠ gb650)); have n17_ := Aside0.mk ((by rw [hg]; exact Nat.ne_of_gt (blk_lt (g := gb638) (o := .cells #[.slice Ao83 t627.length co83, .int .i64 t630, .string t631, .int .u32 t632, .bool t633] 27 (0, 0)) (bk_ BK638)) : gb650 ≠ gb638)); clear HO_626000; clear HO629; clear HO636; clear HO641; clear HO648; clear BK600; clear BK625; clear BK638; clear HB; have HO_626000 := n0_; have HO629 := n1_; have HO636 := n2_; have HO641 := n3_; have HO648 := n4_; have BK600 := n5_; have BK625 := n6_; have BK638 := n7_; have HB := n8_; have BK650 := n9_; have GW650 := n10_; have GE650 := n11_; have NB600_650 := n12_; have NB650_600 := n13_; have NB625_650 := n14_; have NB650_625 := n15_; have NB638_650 := n16_; have NB650_638 := n17_; clear n0_ n1_ n2_ n3_ n4_ n5_ n6_ n7_ n8_ n9_ n10_ n11_ n12_ n13_ n14_ n15_ n16_ n17_; clear hb hbox hg; obtain ⟨Ao91, co91, eo91⟩ := Kd.V_slice HO641.out; subst eo91; have hnb92 := NB650_600.out; have hnc92 := NB600_650.out; have hnb93 := NB650_625.out; have hnc93 := NB625_650.out; have hnb94 := NB650_638.out; have hnc94 := NB638_650.out; have hcz95_0 : w90.cell? ⟨gb650, 0, none⟩ = some (.slice none 0 0) := (blk_cell BK650.out 0).trans rfl; have hcz95_1 : w90.cell? ⟨gb650, 1, none⟩ = some (.int .i64 0) := (blk_cell BK650.out 1).trans rfl; have hcz95_2 : w90.cell? ⟨gb650, 2, none⟩ = some (.string (⟨#[]⟩ : ByteArray)) := (blk_cell BK650.out 2).trans rfl; have hcz95_3 : w90.cell? ⟨gb650, 3, none⟩ = some (.int .u32 0) := (blk_cell BK650.out 3).trans rfl; have hcz95_4 : w90.cell? ⟨gb650, 4, none⟩ = some (.bool false) := (blk_cell BK650.out 4).trans rfl; have hfz95_0 := blk_frozen BK650.out 0; have hfz95_1 := blk_frozen BK650.out 1; have hfz95_2 := blk_frozen BK650.out 2; have hfz95_3 := blk_frozen BK650.out 3; have hfz95_4 := blk_frozen BK650.out 4) | (go_at_call 29; (with_reducible refine (access_Holds.calls kj34 _ _ t639 t642 t643 t644 t645 a1 true _ ?side1 ?side2 ?side3 A73.out).mono ?_); (case side1 => refine (Kd.V_reads' (e := 53) (base := w.heap.size) (ok := fun k_ => ((some k_ ≠ (v647 : Value).ownBlock ∧ (some k_ ≠ (v635 : Value).ownBlock ∧ (k_ ≠ gb600 ∧ (k_ ≠ gb625 ∧ k_ ≠ gb638)))) ∧ k_ ≠ gb650)) (n := t639.length) (c := co91) ?_).2.2; exact (by (with_reducible repeat (first | apply Kd.V_alloc | apply Kd.V_drewN | apply Kd.V_drew)); exact (Kd.V_mono (Kd.V_far (p := ⟨gb650, 4, none⟩) (Kd.V_far (p := ⟨gb650, 3, none⟩) (Kd.V_far (p := ⟨gb650, 2, none⟩) (Kd.V_far (p := ⟨gb650, 1, none⟩) (Kd.V_far (p := ⟨gb650, 0, none⟩) (Kd.V_mono HO641.out (fun k_ hk => (⟨hk, hk.2⟩ : _ ∧ k_ ≠ gb650))) (fun _ hk => hk.2) (.slice Ao91 t639.length co91)) (fun _ hk => hk.2) (.int .i64 t642)) (fun _ hk => hk.2) (.string t643)) (fun _ hk => hk.2) (.int .u32 t644)) (fun _ hk => hk.2) (.bool t645)) (fun _ h_ => h_.1)))); (case side2 => exact (Kd.V_reads' HO641.out).2.1); (case side3 => first | ((refine Glob.keep HG.out ?_); (repeat (first | (with_reducible first | exact HB.out | apply below_alloc | apply pw_below_drewN | apply below_drew1 | refine below_set ?_ GE600.out | refine below_set ?_ GE625.out | refine below_set ?_ GE638.out | refine below_set ?_ GE650.out) | exact HB.out)); done) | exact HG.out); rintro e w96 ⟨rfl, hb⟩; have n0_ := Aside0.mk (Kd.V_below (by (with_reducible repeat (first | apply Kd.V_alloc | apply Kd.V_drewN | apply Kd.V_drew)); exact (Kd.V_mono (Kd.V_far (p := ⟨gb650, 4, none⟩) (Kd.V_far (p := ⟨gb650, 3, none⟩) (Kd.V_far (p := ⟨gb650, 2, none⟩) (Kd.V_far (p := ⟨gb650, 1, none⟩) (Kd.V_far (p := ⟨gb650, 0, none⟩) (Kd.V_mono HO_626000.out (fun k_ hk => (⟨hk, hk.2⟩ : _ ∧ k_ ≠ gb650))) (fun _ hk => hk.2) (.slice Ao91 t639.length co91)) (fun _ hk => hk.2) (.int .i64 t642)) (fun _ hk => hk.2) (.string t643)) (fun _ hk => hk.2) (.int .u32 t644)) (fun _ hk => hk.2) (.bool t645)) (fun _ h_ => h_.1))) hb); have n1_ := Aside0.mk (Kd.V_below (by (with_reducible repeat (first | apply Kd.V_alloc | apply Kd.V_drewN | apply Kd.V_drew)); exact (Kd.V_mono (Kd.V_far (p := ⟨gb650, 4, none⟩) (Kd.V_far (p := ⟨gb650, 3, none⟩) (Kd.V_far (p := ⟨gb650, 2, none⟩) (Kd.V_far (p := ⟨gb650, 1, none⟩) (Kd.V_far (p := ⟨gb650, 0, none⟩) (Kd.V_mono HO629.out (fun k_ hk => (⟨hk, hk.2⟩ : _ ∧ k_ ≠ gb650))) (fun _ hk => hk.2) (.slice Ao91 t639.length co91)) (fun _ hk => hk.2) (.int .i64 t642)) (fun _ hk => hk.2) (.string t643)) (fun _ hk => hk.2) (.int .u32 t644)) (fun _ hk => hk.2) (.bool t645)) (fun _ h_ => h_.1))) hb); have n2_ := Aside0.mk (Kd.R_below (by (with_reducible repeat (first | apply Kd.R_alloc | apply Kd.R_drewN | apply Kd.R_drew)); exact (Kd.R_mono (Kd.R_far (p := ⟨gb650, 4, none⟩) (Kd.R_far (p := ⟨gb650, 3, none⟩) (Kd.R_far (p := ⟨gb650, 2, none⟩) (Kd.R_far (p := ⟨gb650, 1, none⟩) (Kd.R_far (p := ⟨gb650, 0, none⟩) (Kd.R_types HO636.out BK650.out (by decide)) (fun _ hk => hk.2) (.slice Ao91 t639.length co91)) (fun _ hk => hk.2) (.int .i64 t642)) (fun _ hk => hk.2) (.string t643)) (fun _ hk => hk.2) (.int .u32 t644)) (fun _ hk => hk.2) (.bool t645)) (fun _ h_ => h_.1))) hb); have n3_ := Aside0.mk (Kd.V_below (by (with_reducible repeat (first | apply Kd.V_alloc | apply Kd.V_drewN | apply Kd.V_drew)); exact (Kd.V_mono (Kd.V_far (p := ⟨gb650, 4, none⟩) (Kd.V_far (p := ⟨gb650, 3, none⟩) (Kd.V_far (p := ⟨gb650, 2, none⟩) (Kd.V_far (p := ⟨gb650, 1, none⟩) (Kd.V_far (p := ⟨gb650, 0, none⟩) (Kd.V_mono HO641.out (fun k_ hk => (⟨hk, hk.2⟩ : _ ∧ k_ ≠ gb650))) (fun _ hk => hk.2) (.slice Ao91 t639.length co91)) (fun _ hk => hk.2) (.int .i64 t642)) (fun _ hk => hk.2) (.string t643)) (fun _ hk => hk.2) (.int .u32 t644)) (fun _ hk => hk.2) (.bool t645)) (fun _ h_ => h_.1))) hb); have n4_ := Aside0.mk (Kd.R_below (by (with_reducible repeat (first | apply Kd.R_alloc | apply Kd.R_drewN | apply Kd.R_drew)); exact (Kd.R_mono (Kd.R_far (p := ⟨gb650, 4, none⟩) (Kd.R_far (p := ⟨gb650, 3, none⟩) (Kd.R_far (p := ⟨gb650, 2, none⟩) (Kd.R_far (p := ⟨gb650, 1, none⟩) (Kd.R_far (p := ⟨gb650, 0, none⟩) (Kd.R_types HO648.out BK650.out (by decide)) (fun _ hk => hk.2) (.slice Ao91 t639.length co91)) (fun _ hk => hk.2) (.int .i64 t642)) (fun _ hk => hk.2) (.string t643)) (fun _ hk => hk.2) (.int .u32 t644)) (fun _ hk => hk.2) (.bool t645)) (fun _ h_ => h_.1))) hb); have n5_ := Aside0.mk (blk_below (g := gb600) (o := .cells #[.slice A0_0 l0_0.length c0_0, .int .i64 a0_1, .string a0_2, .int .u32 a0_3, .bool a0_4] 27 (0, 0)) (by (with_reducible repeat (first | refine blk_drewN ?_ _ | refine blk_drew ?_ | refine blk_alloc ?_ _ | refine blk_far ?_ NB600_650.out _)); exact BK600.out) hb); have n6_ := Aside0.mk (blk_below (g := gb625) (o := .cells #[.slice Ao43 t614.length co43, .int .i64 t617, .string t618, .int .u32 t619, .bool t620] 27 (0, 0)) (by (with_reducible repeat (first | refine blk_drewN ?_ _ | refine blk_drew ?_ | refine blk_alloc ?_ _ | refine blk_far ?_ NB625_650.out _)); exact BK625.out) hb); have n7_ := Aside0.mk (blk_below (g := gb638) (o := .cells #[.slice Ao83 t627.length co83, .int .i64 t630, .string t631, .int .u32 t632, .bool t633] 27 (0, 0)) (by (with_reducible repeat (first | refine blk_drewN ?_ _ | refine blk_drew ?_ | refine blk_alloc ?_ _ | refine blk_far ?_ NB638_650.out _)); exact BK638.out) hb); have n8_ := Aside0.mk (blk_below (g := gb650) (o := .cells #[.slice Ao91 t639.length co91, .int .i64 t642, .string t643, .int .u32 t644, .bool t645] 27 (0, 0)) (by (with_reducible repeat (first | refine blk_drewN ?_ _ | refine blk_drew ?_ | refine blk_alloc ?_ _)); refine blk_put (cs := #[.slice Ao91 t639.length co91, .int .i64 t642, .string t643, .int .u32 t644, .bool false]) ?_ 4 _ rfl; (with_reducible repeat (first | refine blk_drewN ?_ _ | refine blk_drew ?_ | refine blk_alloc ?_ _)); refine blk_put (cs := #[.slice Ao91 t639.length co91, .int .i64 t642, .string t643, .int .u32 0, .bool false]) ?_ 3 _ rfl; (with_reducible repeat (first | refine blk_drewN ?_ _ | refine blk_drew ?_ | refine blk_alloc ?_ _)); refine blk_put (cs := #[.slice Ao91 t639.length co91, .int .i64 t642, .string (⟨#[]⟩ : ByteArray), .int .u32 0, .bool false]) ?_ 2 _ rfl; (with_reducible repeat (first | refine blk_drewN ?_ _ | refine blk_drew ?_ | refine blk_alloc ?_ _)); refine blk_put (cs := #[.slice Ao91 t639.length co91, .int .i64 0, .string (⟨#[]⟩ : ByteArray), .int .u32 0, .bool false]) ?_ 1 _ rfl; (with_reducible repeat (first | refine blk_drewN ?_ _ | refine blk_drew ?_ | refine blk_alloc ?_ _)); refine blk_put (cs := #[.slice none 0 0, .int .i64 0, .string (⟨#[]⟩ : ByteArray), .int .u32 0, .bool false]) ?_ 0 _ rfl; (with_reducible repeat (first | refine blk_drewN ?_ _ | refine blk_drew ?_ | refine blk_alloc ?_ _)); exact BK650.out) hb); have n9_ := Aside0.mk (below_step (hb_ HB) hb); clear HO_626000; clear HO629; clear HO636; clear HO641; clear HO648; clear BK600; clear BK625; clear BK638; clear BK650; clear HB; have HO_626000 := n0_; have HO629 := n1_; have HO636 := n2_; have HO641 := n3_; have HO648 := n4_; have BK600 := n5_; have BK625 := n6_; have BK638 := n7_; have BK650 := n8_; have HB := n9_; clear n0_ n1_ n2_ n3_ n4_ n5_ n6_ n7_ n8_ n9_; (try clear hb); (try clear hb2); (try clear hk); (try clear hi); have hcz97_0 : w96.cell? ⟨gb650, 0, none⟩ = some (.slice Ao91 t639.length co91) := (blk_cell BK650.out 0).trans rfl; have hcz97_1 : w96.cell? ⟨gb650, 1, none⟩ = some (.int .i64 t642) := (blk_cell BK650.out 1).trans rfl; have hcz97_2 : w96.cell? ⟨gb650, 2, none⟩ = some (.string t643) := (blk_cell BK650.out 2).trans rfl; have hcz97_3 : w96.cell? ⟨gb650, 3, none⟩ = some (.int .u32 t644) := (blk_cell BK650.out 3).trans rfl; have hcz97_4 : w96.cell? ⟨gb650, 4, none⟩ = some (.bool t645) := (blk_cell BK650.out 4).trans rfl; have hfz97_0 := blk_frozen BK650.out 0; have hfz97_1 := blk_frozen BK650.out 1; have hfz97_2 := blk_frozen BK650.out 2; have hfz97_3 := blk_frozen BK650.out 3; have hfz97_4 := blk_frozen BK650.out 4) | (go_at_call 28; (with_reducible refine (access_May.calls kj34 _ _ t639 t642 t643 t644 t645 a1 3 true _ ?side1 ?side2 ?side3 A76.out).mono ?_); (case side1 => repeat (first | exact (Kd.V_reads' HO641.out).2.2 | (with_reducible refine Kd.C_alloc ?_ _) | (with_reducible refine Kd.C_drewN ?_ _) | (with_reducible refine Kd.C_drew ?_))); (case side2 => exact (Kd.V_reads' HO641.out).2.1); (case side3 => first | ((refine Glob.keep HG.out ?_); (repeat (first | (with_reducible first | exact HB.out | apply below_alloc | apply pw_below_drewN | apply below_drew1 | refine below_set ?_ GE600.out | refine below_set ?_ GE625.out | refine below_set ?_ GE638.out | refine below_set ?_ GE650.out) | exact HB.out)); done) | exact HG.out); rintro e w98 ⟨rfl, hb⟩; have n0_ := Aside0.mk (Kd.V_below (by (with_reducible repeat (first | apply Kd.V_alloc | apply Kd.V_drewN | apply Kd.V_drew)); exact HO_626000.out) hb); have n1_ := Aside0.mk (Kd.V_below (by (with_reducible repeat (first | apply Kd.V_alloc | apply Kd.V_drewN | apply Kd.V_drew)); exact HO629.out) hb); have n2_ := Aside0.mk (Kd.R_below (by (with_reducible repeat (first | apply Kd.R_alloc | apply Kd.R_drewN | apply Kd.R_drew)); exact HO636.out) hb); have n3_ := Aside0.mk (Kd.V_below (by (with_reducible repeat (first | apply Kd.V_alloc | apply Kd.V_drewN | apply Kd.V_drew)); exact HO641.out) hb); have n4_ := Aside0.mk (Kd.R_below (by (with_reducible repeat (first | apply Kd.R_alloc | apply Kd.R_drewN | apply Kd.R_drew)); exact HO648.out) hb); have n5_ := Aside0.mk (blk_below (bk_ BK600) hb); have n6_ := Aside0.mk (blk_below (bk_ BK625) hb); have n7_ := Aside0.mk (blk_below (bk_ BK638) hb); have n8_ := Aside0.mk (blk_below (bk_ BK650) hb); have n9_ := Aside0.mk (below_step (hb_ HB) hb); clear HO_626000; clear HO629; clear HO636; clear HO641; clear HO648; clear BK600; clear BK625; clear BK638; clear BK650; clear HB; have HO_626000 := n0_; have HO629 := n1_; have HO636 := n2_; have HO641 := n3_; have HO648 := n4_; have BK600 := n5_; have BK625 := n6_; have BK638 := n7_; have BK650 := n8_; have HB := n9_; clear n0_ n1_ n2_ n3_ n4_ n5_ n6_ n7_ n8_ n9_; (try clear hb); (try clear hb2); (try clear hk); (try clear hi)) | (go_at_call 13; (with_reducible refine (headgatelaw11_wakes.calls kj34  t653 _ ?side1 A78.out).mono ?_); (case side1 => first | ((refine Glob.keep HG.out ?_); (repeat (first | (with_reducible first | exact HB.out | apply below_alloc | apply pw_below_drewN | apply below_drew1 | refine below_set ?_ GE600.out | refine below_set ?_ GE625.out | refine below_set ?_ GE638.out | refine below_set ?_ GE650.out) | exact HB.out)); done) | exact HG.out); rintro e w99 ⟨rfl, hb⟩; have n0_ := Aside0.mk (Kd.V_below (by (with_reducible repeat (first | apply Kd.V_alloc | apply Kd.V_drewN | apply Kd.V_drew)); exact HO_626000.out) hb); have n1_ := Aside0.mk (Kd.V_below (by (with_reducible repeat (first | apply Kd.V_alloc | apply Kd.V_drewN | apply Kd.V_drew)); exact HO629.out) hb); have n2_ := Aside0.mk (Kd.R_below (by (with_reducible repeat (first | apply Kd.R_alloc | apply Kd.R_drewN | apply Kd.R_drew)); exact HO636.out) hb); have n3_ := Aside0.mk (Kd.V_below (by (with_reducible repeat (first | apply Kd.V_alloc | apply Kd.V_drewN | apply Kd.V_drew)); exact HO641.out) hb); have n4_ := Aside0.mk (Kd.R_below (by (with_reducible repeat (first | apply Kd.R_alloc | apply Kd.R_drewN | apply Kd.R_drew)); exact HO648.out) hb); have n5_ := Aside0.mk (blk_below (bk_ BK600) hb); have n6_ := Aside0.mk (blk_below (bk_ BK625) hb); have n7_ := Aside0.mk (blk_below (bk_ BK638) hb); have n8_ := Aside0.mk (blk_below (bk_ BK650) hb); have n9_ := Aside0.mk (below_step (hb_ HB) hb); clear HO_626000; clear HO629; clear HO636; clear HO641; clear HO648; clear BK600; clear BK625; clear BK638; clear BK650; clear HB; have HO_626000 := n0_; have HO629 := n1_; have HO636 := n2_; have HO641 := n3_; have HO648 := n4_; have BK600 := n5_; have BK625 := n6_; have BK638 := n7_; have BK650 := n8_; have HB := n9_; clear n0_ n1_ n2_ n3_ n4_ n5_ n6_ n7_ n8_ n9_; (try clear hb); (try clear hb2); (try clear hk); (try clear hi)))
     go_ret
     exact ⟨by first | rfl | (simp [errW_none, errW_some] <;> rfl) | (simp [*, errW_none, errW_some] <;> rfl) | (simp [bt, *]; done) | (unfold bt; simp [*]; done), by repeat (first | (with_reducible first | exact HB.out | apply below_alloc | apply pw_below_drewN | apply below_drew1 | refine below_set ?_ GE600.out | refine below_set ?_ GE625.out | refine below_set ?_ GE638.out | refine below_set ?_ GE650.out) | exact HB.out)⟩
end Go.Proofs.YtjogkfcjlljjcaaDoor.P
