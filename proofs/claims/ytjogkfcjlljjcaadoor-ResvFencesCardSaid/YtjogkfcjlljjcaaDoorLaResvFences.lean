-- written by this session's patched copy of the printer (wip/tools/patch_print.py); Lean checks it
import Derived.Test.YtjogkfcjlljjcaaDoorXaResvFences
namespace Go.Proofs.YtjogkfcjlljjcaaDoor.P
open Go.RowKit Go.Proofs.YtjogkfcjlljjcaaDoorW.PrintWords Go.Proofs.YtjogkfcjlljjcaaDoorW.PrintLast Go.Proofs.YtjogkfcjlljjcaaDoorW.PrintMore
attribute [local go_sem] max2_int min2_int max_two min_two max_three min_three max_four min_four   -- for this text's walks alone
set_option linter.unusedVariables false
set_option linter.unusedSimpArgs false
set_option linter.unnecessarySimpa false

/-! ### headgatelaw11_ResvFences: function 9 -/
mutual
def headgatelaw11_ResvFences.j0 : Nat → ByteArray → List (S31) → Bool → List (S53) → Int → ByteArray → Int → Bool → Option (Bool)
 | 0, _, _, _, _, _, _, _, _ => none
 | k + 1, x1, x2, x30, x569000, x569001, x569002, x569003, x569004 => if x30 = true then ((headgatelaw11_wakes.f k).bind fun t573 => (some t573)) else ((headgatekeep_CopyTable.f x569000 x569001 x569002 x569003 x569004).bind fun bt574 => (headgatelaw11_ResvFences.l0 k x1 x2 0 x569000 x569001 x569002 x569003 x569004 bt574.1 bt574.2.1 bt574.2.2.1 bt574.2.2.2.1 bt574.2.2.2.2))
def headgatelaw11_ResvFences.l0 : Nat → ByteArray → List (S31) → Int → List (S53) → Int → ByteArray → Int → Bool → List (S53) → Int → ByteArray → Int → Bool → Option (Bool)
 | 0, _, _, _, _, _, _, _, _, _, _, _, _, _ => none
 | k + 1, x1, x2, x8, x569000, x569001, x569002, x569003, x569004, x582000, x582001, x582002, x582003, x582004 => if x8 < (x2.length : Int) then (headgatelaw11_ResvFences.j2 k x1 x2 x8 (decide (x8 < 30)) x569000 x569001 x569002 x569003 x569004 x582000 x582001 x582002 x582003 x582004) else (headgatelaw11_ResvFences.j2 k x1 x2 x8 false x569000 x569001 x569002 x569003 x569004 x582000 x582001 x582002 x582003 x582004)
def headgatelaw11_ResvFences.j2 : Nat → ByteArray → List (S31) → Int → Bool → List (S53) → Int → ByteArray → Int → Bool → List (S53) → Int → ByteArray → Int → Bool → Option (Bool)
 | 0, _, _, _, _, _, _, _, _, _, _, _, _, _, _ => none
 | k + 1, x1, x2, x8, x41, x569000, x569001, x569002, x569003, x569004, x582000, x582001, x582002, x582003, x582004 => if x41 = true then (if 0 ≤ x8 then (if x8 < (x2.length : Int) then (if ((rd_T31 x2 x8).f0) = 8 then (headgatelaw11_ResvFences.l0 k x1 x2 (wrap64 (x8 + 1)) x569000 x569001 x569002 x569003 x569004 x582000 x582001 x582002 x582003 x582004) else ((resv_Do.f k x582000 x582001 x582002 x582003 x582004 ((rd_T31 x2 x8).f0) ((rd_T31 x2 x8).f1) x1 ((rd_T31 x2 x8).f3) ((rd_T31 x2 x8).f4) ((rd_T31 x2 x8).f5) ((rd_T31 x2 x8).f6) ((rd_T31 x2 x8).f7) ((rd_T31 x2 x8).f8) ((rd_T31 x2 x8).f9) ((rd_T31 x2 x8).f10) ((rd_T31 x2 x8).f11) ((rd_T31 x2 x8).f12) ((rd_T31 x2 x8).f13)).bind fun bt587 => (if bt587.2.2.2.2.2.2 = 1 then (some false) else (if (bt587.2.2.2.2.2.1.length : Int) > 0 then (some false) else ((headgatekeep_Tables.f k bt587.1 bt587.2.1 bt587.2.2.1 bt587.2.2.2.1 bt587.2.2.2.2.1 x569000 x569001 x569002 x569003 x569004).bind fun t599 => (if t599 = true then (headgatelaw11_ResvFences.l0 k x1 x2 (wrap64 (x8 + 1)) x569000 x569001 x569002 x569003 x569004 bt587.1 bt587.2.1 bt587.2.2.1 bt587.2.2.2.1 bt587.2.2.2.2.1) else (some false))))))) else (none)) else (none)) else ((access_May.f k x582000 x582001 x582002 x582003 x582004 x1 3).bind fun t582 => ((access_May.f k x569000 x569001 x569002 x569003 x569004 x1 3).bind fun t583 => (if (t582 == t583) = true then ((headgatelaw11_wakes.f k).bind fun t584 => (some t584)) else (some false))))
end
def headgatelaw11_ResvFences.f (k : Nat) (l0_0 : List (S53)) (a0_1 : Int) (a0_2 : ByteArray) (a0_3 : Int) (a0_4 : Bool) (a1 : ByteArray) (l2 : List (S31)) : Option (Bool) := (headgatelaw10_Large.f k l0_0 a0_1 a0_2 a0_3 a0_4).bind fun t569 => (if t569 = true then (headgatelaw11_ResvFences.j0 k a1 l2 true l0_0 a0_1 a0_2 a0_3 a0_4) else ((headgateref11_Good.f k l0_0 a0_1 a0_2 a0_3 a0_4).bind fun t570 => (if t570 = true then ((headgateref03_Name.f k a1).bind fun t571 => (if t571 = true then ((headgateref11_Key.f k l0_0 a0_1 a0_2 a0_3 a0_4 a1).bind fun t572 => (headgatelaw11_ResvFences.j0 k a1 l2 (t572 != 0) l0_0 a0_1 a0_2 a0_3 a0_4)) else (headgatelaw11_ResvFences.j0 k a1 l2 true l0_0 a0_1 a0_2 a0_3 a0_4))) else (headgatelaw11_ResvFences.j0 k a1 l2 true l0_0 a0_1 a0_2 a0_3 a0_4))))
theorem headgatelaw11_ResvFences.mono_l : ∀ k, (∀ y0 y1 y2 y3 y4 y5 y6 y7, LeO (headgatelaw11_ResvFences.j0 k y0 y1 y2 y3 y4 y5 y6 y7) (headgatelaw11_ResvFences.j0 (k + 1) y0 y1 y2 y3 y4 y5 y6 y7)) ∧ (∀ y0 y1 y2 y3 y4 y5 y6 y7 y8 y9 y10 y11 y12, LeO (headgatelaw11_ResvFences.l0 k y0 y1 y2 y3 y4 y5 y6 y7 y8 y9 y10 y11 y12) (headgatelaw11_ResvFences.l0 (k + 1) y0 y1 y2 y3 y4 y5 y6 y7 y8 y9 y10 y11 y12)) ∧ (∀ y0 y1 y2 y3 y4 y5 y6 y7 y8 y9 y10 y11 y12 y13, LeO (headgatelaw11_ResvFences.j2 k y0 y1 y2 y3 y4 y5 y6 y7 y8 y9 y10 y11 y12 y13) (headgatelaw11_ResvFences.j2 (k + 1) y0 y1 y2 y3 y4 y5 y6 y7 y8 y9 y10 y11 y12 y13))
 | 0 => ⟨fun _ _ _ _ _ _ _ _ r h => by simp [headgatelaw11_ResvFences.j0] at h, fun _ _ _ _ _ _ _ _ _ _ _ _ _ r h => by simp [headgatelaw11_ResvFences.l0] at h, fun _ _ _ _ _ _ _ _ _ _ _ _ _ _ r h => by simp [headgatelaw11_ResvFences.j2] at h⟩
 | k + 1 => by
  obtain ⟨ih0, ih1, ih2⟩ := headgatelaw11_ResvFences.mono_l k
  refine ⟨?_, ?_, ?_⟩
  ·intro y0 y1 y2 y3 y4 y5 y6 y7
   unfold headgatelaw11_ResvFences.j0
   repeat' first
   | (with_reducible exact ih0 _ _ _ _ _ _ _ _)
   | (with_reducible exact ih1 _ _ _ _ _ _ _ _ _ _ _ _ _)
   | (with_reducible exact ih2 _ _ _ _ _ _ _ _ _ _ _ _ _ _)
   | (with_reducible exact access_May.mono _ _ _ _ _ _ _ _)
   | (with_reducible exact headgatekeep_Tables.mono _ _ _ _ _ _ _ _ _ _ _)
   | (with_reducible exact headgatelaw10_Large.mono _ _ _ _ _ _)
   | (with_reducible exact headgatelaw11_wakes.mono _)
   | (with_reducible exact headgateref03_Name.mono _ _)
   | (with_reducible exact headgateref11_Good.mono _ _ _ _ _ _)
   | (with_reducible exact headgateref11_Key.mono _ _ _ _ _ _ _)
   | (with_reducible exact resv_Do.mono _ _ _ _ _ _ _ _ _ _ _ _ _ _ _ _ _ _ _ _)
   | (with_reducible exact LeO.refl _)
   | (with_reducible exact LeO.none _)
   | (with_reducible refine LeO.ite ?_ ?_)
   | (with_reducible refine LeO.bind ?_ (fun _ => ?_))
   | exact ih0 _ _ _ _ _ _ _ _
   | exact ih1 _ _ _ _ _ _ _ _ _ _ _ _ _
   | exact ih2 _ _ _ _ _ _ _ _ _ _ _ _ _ _
   | exact access_May.mono _ _ _ _ _ _ _ _
   | exact headgatekeep_Tables.mono _ _ _ _ _ _ _ _ _ _ _
   | exact headgatelaw10_Large.mono _ _ _ _ _ _
   | exact headgatelaw11_wakes.mono _
   | exact headgateref03_Name.mono _ _
   | exact headgateref11_Good.mono _ _ _ _ _ _
   | exact headgateref11_Key.mono _ _ _ _ _ _ _
   | exact resv_Do.mono _ _ _ _ _ _ _ _ _ _ _ _ _ _ _ _ _ _ _ _
   | exact LeO.none _
   | refine LeO.ite ?_ ?_
   | refine LeO.bind ?_ (fun _ => ?_)
  ·intro y0 y1 y2 y3 y4 y5 y6 y7 y8 y9 y10 y11 y12
   unfold headgatelaw11_ResvFences.l0
   repeat' first
   | (with_reducible exact ih0 _ _ _ _ _ _ _ _)
   | (with_reducible exact ih1 _ _ _ _ _ _ _ _ _ _ _ _ _)
   | (with_reducible exact ih2 _ _ _ _ _ _ _ _ _ _ _ _ _ _)
   | (with_reducible exact access_May.mono _ _ _ _ _ _ _ _)
   | (with_reducible exact headgatekeep_Tables.mono _ _ _ _ _ _ _ _ _ _ _)
   | (with_reducible exact headgatelaw10_Large.mono _ _ _ _ _ _)
   | (with_reducible exact headgatelaw11_wakes.mono _)
   | (with_reducible exact headgateref03_Name.mono _ _)
   | (with_reducible exact headgateref11_Good.mono _ _ _ _ _ _)
   | (with_reducible exact headgateref11_Key.mono _ _ _ _ _ _ _)
   | (with_reducible exact resv_Do.mono _ _ _ _ _ _ _ _ _ _ _ _ _ _ _ _ _ _ _ _)
   | (with_reducible exact LeO.refl _)
   | (with_reducible exact LeO.none _)
   | (with_reducible refine LeO.ite ?_ ?_)
   | (with_reducible refine LeO.bind ?_ (fun _ => ?_))
   | exact ih0 _ _ _ _ _ _ _ _
   | exact ih1 _ _ _ _ _ _ _ _ _ _ _ _ _
   | exact ih2 _ _ _ _ _ _ _ _ _ _ _ _ _ _
   | exact access_May.mono _ _ _ _ _ _ _ _
   | exact headgatekeep_Tables.mono _ _ _ _ _ _ _ _ _ _ _
   | exact headgatelaw10_Large.mono _ _ _ _ _ _
   | exact headgatelaw11_wakes.mono _
   | exact headgateref03_Name.mono _ _
   | exact headgateref11_Good.mono _ _ _ _ _ _
   | exact headgateref11_Key.mono _ _ _ _ _ _ _
   | exact resv_Do.mono _ _ _ _ _ _ _ _ _ _ _ _ _ _ _ _ _ _ _ _
   | exact LeO.none _
   | refine LeO.ite ?_ ?_
   | refine LeO.bind ?_ (fun _ => ?_)
  ·intro y0 y1 y2 y3 y4 y5 y6 y7 y8 y9 y10 y11 y12 y13
   unfold headgatelaw11_ResvFences.j2
   repeat' first
   | (with_reducible exact ih0 _ _ _ _ _ _ _ _)
   | (with_reducible exact ih1 _ _ _ _ _ _ _ _ _ _ _ _ _)
   | (with_reducible exact ih2 _ _ _ _ _ _ _ _ _ _ _ _ _ _)
   | (with_reducible exact access_May.mono _ _ _ _ _ _ _ _)
   | (with_reducible exact headgatekeep_Tables.mono _ _ _ _ _ _ _ _ _ _ _)
   | (with_reducible exact headgatelaw10_Large.mono _ _ _ _ _ _)
   | (with_reducible exact headgatelaw11_wakes.mono _)
   | (with_reducible exact headgateref03_Name.mono _ _)
   | (with_reducible exact headgateref11_Good.mono _ _ _ _ _ _)
   | (with_reducible exact headgateref11_Key.mono _ _ _ _ _ _ _)
   | (with_reducible exact resv_Do.mono _ _ _ _ _ _ _ _ _ _ _ _ _ _ _ _ _ _ _ _)
   | (with_reducible exact LeO.refl _)
   | (with_reducible exact LeO.none _)
   | (with_reducible refine LeO.ite ?_ ?_)
   | (with_reducible refine LeO.bind ?_ (fun _ => ?_))
   | exact ih0 _ _ _ _ _ _ _ _
   | exact ih1 _ _ _ _ _ _ _ _ _ _ _ _ _
   | exact ih2 _ _ _ _ _ _ _ _ _ _ _ _ _ _
   | exact access_May.mono _ _ _ _ _ _ _ _
   | exact headgatekeep_Tables.mono _ _ _ _ _ _ _ _ _ _ _
   | exact headgatelaw10_Large.mono _ _ _ _ _ _
   | exact headgatelaw11_wakes.mono _
   | exact headgateref03_Name.mono _ _
   | exact headgateref11_Good.mono _ _ _ _ _ _
   | exact headgateref11_Key.mono _ _ _ _ _ _ _
   | exact resv_Do.mono _ _ _ _ _ _ _ _ _ _ _ _ _ _ _ _ _ _ _ _
   | exact LeO.none _
   | refine LeO.ite ?_ ?_
   | refine LeO.bind ?_ (fun _ => ?_)
theorem headgatelaw11_ResvFences.mono : ∀ a0 a1 a2 a3 a4 a5 a6 k, LeO (headgatelaw11_ResvFences.f k a0 a1 a2 a3 a4 a5 a6) (headgatelaw11_ResvFences.f (k + 1) a0 a1 a2 a3 a4 a5 a6) := by
 intro a0 a1 a2 a3 a4 a5 a6 k
 obtain ⟨ih0, ih1, ih2⟩ := headgatelaw11_ResvFences.mono_l k
 unfold headgatelaw11_ResvFences.f
 repeat' first
   | (with_reducible exact ih0 _ _ _ _ _ _ _ _)
   | (with_reducible exact ih1 _ _ _ _ _ _ _ _ _ _ _ _ _)
   | (with_reducible exact ih2 _ _ _ _ _ _ _ _ _ _ _ _ _ _)
   | (with_reducible exact access_May.mono _ _ _ _ _ _ _ _)
   | (with_reducible exact headgatekeep_Tables.mono _ _ _ _ _ _ _ _ _ _ _)
   | (with_reducible exact headgatelaw10_Large.mono _ _ _ _ _ _)
   | (with_reducible exact headgatelaw11_wakes.mono _)
   | (with_reducible exact headgateref03_Name.mono _ _)
   | (with_reducible exact headgateref11_Good.mono _ _ _ _ _ _)
   | (with_reducible exact headgateref11_Key.mono _ _ _ _ _ _ _)
   | (with_reducible exact resv_Do.mono _ _ _ _ _ _ _ _ _ _ _ _ _ _ _ _ _ _ _ _)
   | (with_reducible exact LeO.refl _)
   | (with_reducible exact LeO.none _)
   | (with_reducible refine LeO.ite ?_ ?_)
   | (with_reducible refine LeO.bind ?_ (fun _ => ?_))
   | exact ih0 _ _ _ _ _ _ _ _
   | exact ih1 _ _ _ _ _ _ _ _ _ _ _ _ _
   | exact ih2 _ _ _ _ _ _ _ _ _ _ _ _ _ _
   | exact access_May.mono _ _ _ _ _ _ _ _
   | exact headgatekeep_Tables.mono _ _ _ _ _ _ _ _ _ _ _
   | exact headgatelaw10_Large.mono _ _ _ _ _ _
   | exact headgatelaw11_wakes.mono _
   | exact headgateref03_Name.mono _ _
   | exact headgateref11_Good.mono _ _ _ _ _ _
   | exact headgateref11_Key.mono _ _ _ _ _ _ _
   | exact resv_Do.mono _ _ _ _ _ _ _ _ _ _ _ _ _ _ _ _ _ _ _ _
   | exact LeO.none _
   | refine LeO.ite ?_ ?_
   | refine LeO.bind ?_ (fun _ => ?_)
def headgatelaw11_ResvFences.T14 : Bool × List (List Nat × List Nat) := (true, [([], []), ([], []), ([0, 1], [0, 1]), ([], []), ([], []), ([3, 4, 2], [3, 4]), ([2, 5], [2, 5]), ([6, 5], [6]), ([7, 7], [7]), ([7, 8], [7, 8]), ([9, 8, 0, 1, 2, 3, 4, 5, 6, 7, 8, 9], [9])])
def headgatelaw11_ResvFences.B14 : List Nat := [0, 0, 3, 0, 0, 31, 63, 127, 255, 511, 1023]
theorem headgatelaw11_ResvFences.tab14 : rtab .any (opsOf Tryd.f9 14) = headgatelaw11_ResvFences.T14 := by kernel_rfl
theorem headgatelaw11_ResvFences.bits14 : waitsOk headgatelaw11_ResvFences.T14.2 headgatelaw11_ResvFences.B14 = true := by kernel_rfl
abbrev d9x0 : Array Bool := #[false, false, false, false, false, false, false, false, false, false, false]
abbrev d9x1 : Array Bool := dB 11 2
abbrev d9x2 : Array Bool := dB 11 18
abbrev d9x3 : Array Bool := dB 11 19
abbrev d9x4 : Array Bool := dB 11 27
abbrev d9x5 : Array Bool := dB 11 31
abbrev d9x6 : Array Bool := dB 11 63
abbrev d9x7 : Array Bool := dB 11 127
abbrev d9x8 : Array Bool := dB 11 255
abbrev d9x9 : Array Bool := dB 11 511
abbrev d9x10 : Array Bool := dB 11 1023
abbrev d9x11 : Array Bool := dB 11 2047
set_option maxHeartbeats 8000000 in
set_option maxRecDepth 100000 in
theorem headgatelaw11_ResvFences.calls (k : Nat) (A0_0 : Option Addr) (c0_0 : Nat) (l0_0 : List (S53)) (a0_1 : Int) (a0_2 : ByteArray) (a0_3 : Int) (a0_4 : Bool) (a1 : ByteArray) (A2 : Option Addr) (c2 : Nat) (l2 : List (S31)) (r : Bool) (w : World) (hr0_0 : Kd.C k53 w A0_0 l0_0.length l0_0) (hc0_0 : l0_0.length ≤ c0_0) (hr2 : Kd.C k31 w A2 l2.length l2) (hc2 : l2.length ≤ c2) (hG : Glob w) (hT : r = true) (h : headgatelaw11_ResvFences.f k l0_0 a0_1 a0_2 a0_3 a0_4 a1 l2 = some r) :
  Calls Tryd.prog 9 #[.agg #[.slice A0_0 l0_0.length c0_0, .int .i64 a0_1, .string a0_2, .int .u32 a0_3, .bool a0_4], .string a1, .slice A2 l2.length c2] w fun e w' => e = .returned (.bool r) ∧ Below w.heap.size w w' := by
 have hu27 := Tryd.underlying27
 have hu31 := Tryd.underlying31
 have HT0 := Aside0.mk hT
 clear hT
 have HG := Aside0.mk hG
 clear hG
 have HR0_0 := Aside0.mk hr0_0
 have HC0_0 := Aside0.mk hc0_0
 clear hr0_0 hc0_0
 have HR2 := Aside0.mk hr2
 have HC2 := Aside0.mk hc2
 clear hr2 hc2
 have HB := Aside0.mk (Below.refl w.heap.size w)
 have H : ((headgatelaw10_Large.f k l0_0 a0_1 a0_2 a0_3 a0_4).bind fun t569 => (if t569 = true then (headgatelaw11_ResvFences.j0 k a1 l2 true l0_0 a0_1 a0_2 a0_3 a0_4) else ((headgateref11_Good.f k l0_0 a0_1 a0_2 a0_3 a0_4).bind fun t570 => (if t570 = true then ((headgateref03_Name.f k a1).bind fun t571 => (if t571 = true then ((headgateref11_Key.f k l0_0 a0_1 a0_2 a0_3 a0_4 a1).bind fun t572 => (headgatelaw11_ResvFences.j0 k a1 l2 (t572 != 0) l0_0 a0_1 a0_2 a0_3 a0_4)) else (headgatelaw11_ResvFences.j0 k a1 l2 true l0_0 a0_1 a0_2 a0_3 a0_4))) else (headgatelaw11_ResvFences.j0 k a1 l2 true l0_0 a0_1 a0_2 a0_3 a0_4))))) = some r := h
 clear h
 have HC4 := Aside0.mk H
 clear H
 go_enter Tryd.func9, Tryd.ntmps9
 go_upto_region 1 with (first | ((with_reducible refine gate_dst (N := 3) rfl ?_); refine box_event ?hg (N := 3) ?hd (cs := #[.slice A0_0 l0_0.length c0_0, .int .i64 a0_1, .string a0_2, .int .u32 a0_3, .bool a0_4]) (t := 27) ?hr ?_; (case hd => rfl); (case hg => rfl); (case hr => first | (go_simp; done) | (go_simp; rfl)); intro gb568 hg w5 hbox hb; have n0_ := Aside0.mk (below_step (hb_ HB) hb); have n1_ := Aside0.mk (hbox); have n2_ := Aside0.mk ((by rw [hg]; exact (below_size (hb_ HB)) : w.heap.size ≤ gb568)); have n3_ := Aside0.mk ((by rw [hg]; exact (below_size (hb_ HB)) : w.heap.size ≤ gb568)); clear HB; have HB := n0_; have BK568 := n1_; have GW568 := n2_; have GE568 := n3_; clear n0_ n1_ n2_ n3_; clear hb hbox hg))
 (try simp only [Act.put, la_, lb_, lc_])
 go_cut [30] (fun v30 wc => ∃ (kq : Nat) (x30_3 : Bool), v30 = .bool x30_3 ∧ Aside0 (headgatelaw11_ResvFences.j0 kq a1 l2 x30_3 l0_0 a0_1 a0_2 a0_3 a0_4 = some r) ∧ Aside0 (kq ≤ k) ∧ Aside0 (wc.heap[gb568]? = some (.cells #[(.slice A0_0 l0_0.length c0_0), .int .i64 a0_1, .string a0_2, .int .u32 a0_3, .bool a0_4] 27 (0, 0))) ∧ Aside0 (Below w.heap.size w wc))
 case first =>
  have H := HC4.out
  clear HC4
  replace H := Option.bind_eq_some_iff.mp H
  obtain ⟨t569, A60, H⟩ := H
  try dsimp only at H
  have A6 := Aside0.mk A60
  clear A60
  by_cases c7 : t569 = true
  ·subst c7
   have H1 := H
   rw [if_pos rfl] at H1
   clear H
   have H := H1
   clear H1
   have H' := Aside0.mk H
   clear H
   have hcz8_0 : w5.cell? ⟨gb568, 0, none⟩ = some (.slice A0_0 l0_0.length c0_0) := (blk_cell BK568.out 0).trans rfl
   have hcz8_1 : w5.cell? ⟨gb568, 1, none⟩ = some (.int .i64 a0_1) := (blk_cell BK568.out 1).trans rfl
   have hcz8_2 : w5.cell? ⟨gb568, 2, none⟩ = some (.string a0_2) := (blk_cell BK568.out 2).trans rfl
   have hcz8_3 : w5.cell? ⟨gb568, 3, none⟩ = some (.int .u32 a0_3) := (blk_cell BK568.out 3).trans rfl
   have hcz8_4 : w5.cell? ⟨gb568, 4, none⟩ = some (.bool a0_4) := (blk_cell BK568.out 4).trans rfl
   have hfz8_0 := blk_frozen BK568.out 0
   have hfz8_1 := blk_frozen BK568.out 1
   have hfz8_2 := blk_frozen BK568.out 2
   have hfz8_3 := blk_frozen BK568.out 3
   have hfz8_4 := blk_frozen BK568.out 4
   go_wp2_with (first | ((with_reducible refine gate_callee (f := 11) rfl ?_); refine goesL_ (some 14) rfl rfl Tryd.func11 (by kernel_rfl) rfl #[.agg #[.slice A0_0 l0_0.length c0_0, .int .i64 a0_1, .string a0_2, .int .u32 a0_3, .bool a0_4]] rfl (by (try simp only [List.map_toArray, List.map_cons, List.map_nil]); first | done | rfl | (simp only [List.length_drop, List.length_take]; rfl)) ?_; (with_reducible refine (headgatelaw10_Large.calls k _ _ l0_0 a0_1 a0_2 a0_3 a0_4 true _ ?side1 ?side2 A6.out).mono ?_); (case side1 => repeat (first | exact (Kd.C_below HR0_0.out HB.out) | (with_reducible refine Kd.C_alloc ?_ _) | (with_reducible refine Kd.C_drewN ?_ _) | (with_reducible refine Kd.C_drew ?_))); (case side2 => exact HC0_0.out); rintro e w9 ⟨rfl, hb⟩; refine ⟨_, rfl, ?_⟩; have n0_ := Aside0.mk (blk_below (bk_ BK568) hb); have n1_ := Aside0.mk (below_step (hb_ HB) hb); clear BK568; clear HB; have BK568 := n0_; have HB := n1_; clear n0_ n1_; (try clear hb); (try clear hb2); (try clear hk); (try clear hi)))
   go_meet
   case rel => exact ⟨_, (true), (by first | rfl | (simp; done) | (simp [*]; done)), H', ⟨by first | omega | exact Nat.le_refl _⟩, ⟨bk_ BK568⟩, ⟨hb_ HB⟩⟩
  replace c7 := Bool.eq_false_iff.mpr c7
  subst c7
  have H1 := H
  rw [if_neg (show ¬ (false = true) by decide)] at H1
  clear H
  have H := H1
  clear H1
  replace H := Option.bind_eq_some_iff.mp H
  obtain ⟨t570, A100, H⟩ := H
  try dsimp only at H
  have A10 := Aside0.mk A100
  clear A100
  refine neg_first (p := (t570 = true)) (fun c11 => ?_) (fun c11 => ?_)
  ·replace c11 := Bool.eq_false_iff.mpr c11
   subst c11
   have H1 := H
   rw [if_neg (show ¬ (false = true) by decide)] at H1
   clear H
   have H := H1
   clear H1
   have H' := Aside0.mk H
   clear H
   have hcz25_0 : w5.cell? ⟨gb568, 0, none⟩ = some (.slice A0_0 l0_0.length c0_0) := (blk_cell BK568.out 0).trans rfl
   have hcz25_1 : w5.cell? ⟨gb568, 1, none⟩ = some (.int .i64 a0_1) := (blk_cell BK568.out 1).trans rfl
   have hcz25_2 : w5.cell? ⟨gb568, 2, none⟩ = some (.string a0_2) := (blk_cell BK568.out 2).trans rfl
   have hcz25_3 : w5.cell? ⟨gb568, 3, none⟩ = some (.int .u32 a0_3) := (blk_cell BK568.out 3).trans rfl
   have hcz25_4 : w5.cell? ⟨gb568, 4, none⟩ = some (.bool a0_4) := (blk_cell BK568.out 4).trans rfl
   have hfz25_0 := blk_frozen BK568.out 0
   have hfz25_1 := blk_frozen BK568.out 1
   have hfz25_2 := blk_frozen BK568.out 2
   have hfz25_3 := blk_frozen BK568.out 3
   have hfz25_4 := blk_frozen BK568.out 4
   go_wp2_with (first | ((with_reducible refine gate_callee (f := 11) rfl ?_); refine goesL_ (some 14) rfl rfl Tryd.func11 (by kernel_rfl) rfl #[.agg #[.slice A0_0 l0_0.length c0_0, .int .i64 a0_1, .string a0_2, .int .u32 a0_3, .bool a0_4]] rfl (by (try simp only [List.map_toArray, List.map_cons, List.map_nil]); first | done | rfl | (simp only [List.length_drop, List.length_take]; rfl)) ?_; (with_reducible refine (headgatelaw10_Large.calls k _ _ l0_0 a0_1 a0_2 a0_3 a0_4 false _ ?side1 ?side2 A6.out).mono ?_); (case side1 => repeat (first | exact (Kd.C_below HR0_0.out HB.out) | (with_reducible refine Kd.C_alloc ?_ _) | (with_reducible refine Kd.C_drewN ?_ _) | (with_reducible refine Kd.C_drew ?_))); (case side2 => exact HC0_0.out); rintro e w26 ⟨rfl, hb⟩; refine ⟨_, rfl, ?_⟩; have n0_ := Aside0.mk (blk_below (bk_ BK568) hb); have n1_ := Aside0.mk (below_step (hb_ HB) hb); clear BK568; clear HB; have BK568 := n0_; have HB := n1_; clear n0_ n1_; (try clear hb); (try clear hb2); (try clear hk); (try clear hi); have hcz27_0 : w26.cell? ⟨gb568, 0, none⟩ = some (.slice A0_0 l0_0.length c0_0) := (blk_cell BK568.out 0).trans rfl; have hcz27_1 : w26.cell? ⟨gb568, 1, none⟩ = some (.int .i64 a0_1) := (blk_cell BK568.out 1).trans rfl; have hcz27_2 : w26.cell? ⟨gb568, 2, none⟩ = some (.string a0_2) := (blk_cell BK568.out 2).trans rfl; have hcz27_3 : w26.cell? ⟨gb568, 3, none⟩ = some (.int .u32 a0_3) := (blk_cell BK568.out 3).trans rfl; have hcz27_4 : w26.cell? ⟨gb568, 4, none⟩ = some (.bool a0_4) := (blk_cell BK568.out 4).trans rfl; have hfz27_0 := blk_frozen BK568.out 0; have hfz27_1 := blk_frozen BK568.out 1; have hfz27_2 := blk_frozen BK568.out 2; have hfz27_3 := blk_frozen BK568.out 3; have hfz27_4 := blk_frozen BK568.out 4) | (go_at_call 20; (with_reducible refine (headgateref11_Good.calls k _ _ l0_0 a0_1 a0_2 a0_3 a0_4 false _ ?side1 ?side2 A10.out).mono ?_); (case side1 => repeat (first | exact (Kd.C_below HR0_0.out HB.out) | (with_reducible refine Kd.C_alloc ?_ _) | (with_reducible refine Kd.C_drewN ?_ _) | (with_reducible refine Kd.C_drew ?_))); (case side2 => exact HC0_0.out); rintro e w28 ⟨rfl, hb⟩; have n0_ := Aside0.mk (blk_below (bk_ BK568) hb); have n1_ := Aside0.mk (below_step (hb_ HB) hb); clear BK568; clear HB; have BK568 := n0_; have HB := n1_; clear n0_ n1_; (try clear hb); (try clear hb2); (try clear hk); (try clear hi)))
   go_meet
   case rel => exact ⟨_, (true), (by first | rfl | (simp; done) | (simp [*]; done)), H', ⟨by first | omega | exact Nat.le_refl _⟩, ⟨bk_ BK568⟩, ⟨hb_ HB⟩⟩
  subst c11
  have H1 := H
  rw [if_pos rfl] at H1
  clear H
  have H := H1
  clear H1
  replace H := Option.bind_eq_some_iff.mp H
  obtain ⟨t571, A120, H⟩ := H
  try dsimp only at H
  have A12 := Aside0.mk A120
  clear A120
  refine neg_first (p := (t571 = true)) (fun c13 => ?_) (fun c13 => ?_)
  ·replace c13 := Bool.eq_false_iff.mpr c13
   subst c13
   have H1 := H
   rw [if_neg (show ¬ (false = true) by decide)] at H1
   clear H
   have H := H1
   clear H1
   have H' := Aside0.mk H
   clear H
   have hcz21_0 : w5.cell? ⟨gb568, 0, none⟩ = some (.slice A0_0 l0_0.length c0_0) := (blk_cell BK568.out 0).trans rfl
   have hcz21_1 : w5.cell? ⟨gb568, 1, none⟩ = some (.int .i64 a0_1) := (blk_cell BK568.out 1).trans rfl
   have hcz21_2 : w5.cell? ⟨gb568, 2, none⟩ = some (.string a0_2) := (blk_cell BK568.out 2).trans rfl
   have hcz21_3 : w5.cell? ⟨gb568, 3, none⟩ = some (.int .u32 a0_3) := (blk_cell BK568.out 3).trans rfl
   have hcz21_4 : w5.cell? ⟨gb568, 4, none⟩ = some (.bool a0_4) := (blk_cell BK568.out 4).trans rfl
   have hfz21_0 := blk_frozen BK568.out 0
   have hfz21_1 := blk_frozen BK568.out 1
   have hfz21_2 := blk_frozen BK568.out 2
   have hfz21_3 := blk_frozen BK568.out 3
   have hfz21_4 := blk_frozen BK568.out 4
   go_wp2_with (first | ((with_reducible refine gate_callee (f := 11) rfl ?_); refine goesL_ (some 14) rfl rfl Tryd.func11 (by kernel_rfl) rfl #[.agg #[.slice A0_0 l0_0.length c0_0, .int .i64 a0_1, .string a0_2, .int .u32 a0_3, .bool a0_4]] rfl (by (try simp only [List.map_toArray, List.map_cons, List.map_nil]); first | done | rfl | (simp only [List.length_drop, List.length_take]; rfl)) ?_; (with_reducible refine (headgatelaw10_Large.calls k _ _ l0_0 a0_1 a0_2 a0_3 a0_4 false _ ?side1 ?side2 A6.out).mono ?_); (case side1 => repeat (first | exact (Kd.C_below HR0_0.out HB.out) | (with_reducible refine Kd.C_alloc ?_ _) | (with_reducible refine Kd.C_drewN ?_ _) | (with_reducible refine Kd.C_drew ?_))); (case side2 => exact HC0_0.out); rintro e w22 ⟨rfl, hb⟩; refine ⟨_, rfl, ?_⟩; have n0_ := Aside0.mk (blk_below (bk_ BK568) hb); have n1_ := Aside0.mk (below_step (hb_ HB) hb); clear BK568; clear HB; have BK568 := n0_; have HB := n1_; clear n0_ n1_; (try clear hb); (try clear hb2); (try clear hk); (try clear hi); have hcz23_0 : w22.cell? ⟨gb568, 0, none⟩ = some (.slice A0_0 l0_0.length c0_0) := (blk_cell BK568.out 0).trans rfl; have hcz23_1 : w22.cell? ⟨gb568, 1, none⟩ = some (.int .i64 a0_1) := (blk_cell BK568.out 1).trans rfl; have hcz23_2 : w22.cell? ⟨gb568, 2, none⟩ = some (.string a0_2) := (blk_cell BK568.out 2).trans rfl; have hcz23_3 : w22.cell? ⟨gb568, 3, none⟩ = some (.int .u32 a0_3) := (blk_cell BK568.out 3).trans rfl; have hcz23_4 : w22.cell? ⟨gb568, 4, none⟩ = some (.bool a0_4) := (blk_cell BK568.out 4).trans rfl; have hfz23_0 := blk_frozen BK568.out 0; have hfz23_1 := blk_frozen BK568.out 1; have hfz23_2 := blk_frozen BK568.out 2; have hfz23_3 := blk_frozen BK568.out 3; have hfz23_4 := blk_frozen BK568.out 4) | (go_at_call 20; (with_reducible refine (headgateref11_Good.calls k _ _ l0_0 a0_1 a0_2 a0_3 a0_4 true _ ?side1 ?side2 A10.out).mono ?_); (case side1 => repeat (first | exact (Kd.C_below HR0_0.out HB.out) | (with_reducible refine Kd.C_alloc ?_ _) | (with_reducible refine Kd.C_drewN ?_ _) | (with_reducible refine Kd.C_drew ?_))); (case side2 => exact HC0_0.out); rintro e w24 ⟨rfl, hb⟩; have n0_ := Aside0.mk (blk_below (bk_ BK568) hb); have n1_ := Aside0.mk (below_step (hb_ HB) hb); clear BK568; clear HB; have BK568 := n0_; have HB := n1_; clear n0_ n1_; (try clear hb); (try clear hb2); (try clear hk); (try clear hi)) | (go_at_call 27; (with_reducible refine (headgateref03_Name.calls k a1 false _ A12.out).mono ?_); rintro e w' ⟨rfl, ⟨nd, rfl⟩⟩))
   go_meet
   case rel => exact ⟨_, (true), (by first | rfl | (simp; done) | (simp [*]; done)), H', ⟨by first | omega | exact Nat.le_refl _⟩, ⟨bk_ BK568⟩, ⟨hb_ HB⟩⟩
  subst c13
  have H1 := H
  rw [if_pos rfl] at H1
  clear H
  have H := H1
  clear H1
  replace H := Option.bind_eq_some_iff.mp H
  obtain ⟨t572, A140, H⟩ := H
  try dsimp only at H
  have A14 := Aside0.mk A140
  clear A140
  have H' := Aside0.mk H
  clear H
  have hcz15_0 : w5.cell? ⟨gb568, 0, none⟩ = some (.slice A0_0 l0_0.length c0_0) := (blk_cell BK568.out 0).trans rfl
  have hcz15_1 : w5.cell? ⟨gb568, 1, none⟩ = some (.int .i64 a0_1) := (blk_cell BK568.out 1).trans rfl
  have hcz15_2 : w5.cell? ⟨gb568, 2, none⟩ = some (.string a0_2) := (blk_cell BK568.out 2).trans rfl
  have hcz15_3 : w5.cell? ⟨gb568, 3, none⟩ = some (.int .u32 a0_3) := (blk_cell BK568.out 3).trans rfl
  have hcz15_4 : w5.cell? ⟨gb568, 4, none⟩ = some (.bool a0_4) := (blk_cell BK568.out 4).trans rfl
  have hfz15_0 := blk_frozen BK568.out 0
  have hfz15_1 := blk_frozen BK568.out 1
  have hfz15_2 := blk_frozen BK568.out 2
  have hfz15_3 := blk_frozen BK568.out 3
  have hfz15_4 := blk_frozen BK568.out 4
  go_wp2_with (first | ((with_reducible refine gate_callee (f := 11) rfl ?_); refine goesL_ (some 14) rfl rfl Tryd.func11 (by kernel_rfl) rfl #[.agg #[.slice A0_0 l0_0.length c0_0, .int .i64 a0_1, .string a0_2, .int .u32 a0_3, .bool a0_4]] rfl (by (try simp only [List.map_toArray, List.map_cons, List.map_nil]); first | done | rfl | (simp only [List.length_drop, List.length_take]; rfl)) ?_; (with_reducible refine (headgatelaw10_Large.calls k _ _ l0_0 a0_1 a0_2 a0_3 a0_4 false _ ?side1 ?side2 A6.out).mono ?_); (case side1 => repeat (first | exact (Kd.C_below HR0_0.out HB.out) | (with_reducible refine Kd.C_alloc ?_ _) | (with_reducible refine Kd.C_drewN ?_ _) | (with_reducible refine Kd.C_drew ?_))); (case side2 => exact HC0_0.out); rintro e w16 ⟨rfl, hb⟩; refine ⟨_, rfl, ?_⟩; have n0_ := Aside0.mk (blk_below (bk_ BK568) hb); have n1_ := Aside0.mk (below_step (hb_ HB) hb); clear BK568; clear HB; have BK568 := n0_; have HB := n1_; clear n0_ n1_; (try clear hb); (try clear hb2); (try clear hk); (try clear hi); have hcz17_0 : w16.cell? ⟨gb568, 0, none⟩ = some (.slice A0_0 l0_0.length c0_0) := (blk_cell BK568.out 0).trans rfl; have hcz17_1 : w16.cell? ⟨gb568, 1, none⟩ = some (.int .i64 a0_1) := (blk_cell BK568.out 1).trans rfl; have hcz17_2 : w16.cell? ⟨gb568, 2, none⟩ = some (.string a0_2) := (blk_cell BK568.out 2).trans rfl; have hcz17_3 : w16.cell? ⟨gb568, 3, none⟩ = some (.int .u32 a0_3) := (blk_cell BK568.out 3).trans rfl; have hcz17_4 : w16.cell? ⟨gb568, 4, none⟩ = some (.bool a0_4) := (blk_cell BK568.out 4).trans rfl; have hfz17_0 := blk_frozen BK568.out 0; have hfz17_1 := blk_frozen BK568.out 1; have hfz17_2 := blk_frozen BK568.out 2; have hfz17_3 := blk_frozen BK568.out 3; have hfz17_4 := blk_frozen BK568.out 4) | (go_at_call 20; (with_reducible refine (headgateref11_Good.calls k _ _ l0_0 a0_1 a0_2 a0_3 a0_4 true _ ?side1 ?side2 A10.out).mono ?_); (case side1 => repeat (first | exact (Kd.C_below HR0_0.out HB.out) | (with_reducible refine Kd.C_alloc ?_ _) | (with_reducible refine Kd.C_drewN ?_ _) | (with_reducible refine Kd.C_drew ?_))); (case side2 => exact HC0_0.out); rintro e w18 ⟨rfl, hb⟩; have n0_ := Aside0.mk (blk_below (bk_ BK568) hb); have n1_ := Aside0.mk (below_step (hb_ HB) hb); clear BK568; clear HB; have BK568 := n0_; have HB := n1_; clear n0_ n1_; (try clear hb); (try clear hb2); (try clear hk); (try clear hi)) | (go_at_call 27; (with_reducible refine (headgateref03_Name.calls k a1 true _ A12.out).mono ?_); rintro e w' ⟨rfl, ⟨nd, rfl⟩⟩; have hcz19_0 : w18.cell? ⟨gb568, 0, none⟩ = some (.slice A0_0 l0_0.length c0_0) := (blk_cell BK568.out 0).trans rfl; have hcz19_1 : w18.cell? ⟨gb568, 1, none⟩ = some (.int .i64 a0_1) := (blk_cell BK568.out 1).trans rfl; have hcz19_2 : w18.cell? ⟨gb568, 2, none⟩ = some (.string a0_2) := (blk_cell BK568.out 2).trans rfl; have hcz19_3 : w18.cell? ⟨gb568, 3, none⟩ = some (.int .u32 a0_3) := (blk_cell BK568.out 3).trans rfl; have hcz19_4 : w18.cell? ⟨gb568, 4, none⟩ = some (.bool a0_4) := (blk_cell BK568.out 4).trans rfl; have hfz19_0 := blk_frozen BK568.out 0; have hfz19_1 := blk_frozen BK568.out 1; have hfz19_2 := blk_frozen BK568.out 2; have hfz19_3 := blk_frozen BK568.out 3; have hfz19_4 := blk_frozen BK568.out 4) | (go_at_call 19; (with_reducible refine (headgateref11_Key.calls k _ _ l0_0 a0_1 a0_2 a0_3 a0_4 a1 t572 _ ?side1 ?side2 A14.out).mono ?_); (case side1 => repeat (first | exact (Kd.C_below HR0_0.out (hb_ HB)) | (with_reducible refine Kd.C_alloc ?_ _) | (with_reducible refine Kd.C_drewN ?_ _) | (with_reducible refine Kd.C_drew ?_))); (case side2 => exact HC0_0.out); rintro e w20 ⟨rfl, hb⟩; have n0_ := Aside0.mk (blk_below (bk_ BK568) hb); have n1_ := Aside0.mk (below_step (hb_ HB) hb); clear BK568; clear HB; have BK568 := n0_; have HB := n1_; clear n0_ n1_; (try clear hb); (try clear hb2); (try clear hk); (try clear hi)))
  go_meet
  case rel => exact ⟨_, ((t572 != 0)), (by first | rfl | (simp; done) | (simp [*]; done)), H', ⟨by first | omega | exact Nat.le_refl _⟩, ⟨bk_ BK568⟩, ⟨hb_ HB⟩⟩
 case rest =>
  clear HC4
  try clear c1
  try clear c2
  try clear p2
  try clear c7
  try clear c9
  try clear c11
  try clear c13
  try clear hcz15_0
  try clear hcz15_1
  try clear hcz15_2
  try clear hcz15_3
  try clear hcz15_4
  try clear hcz17_0
  try clear hcz17_1
  try clear hcz17_2
  try clear hcz17_3
  try clear hcz17_4
  try clear hcz19_0
  try clear hcz19_1
  try clear hcz19_2
  try clear hcz19_3
  try clear hcz19_4
  try clear hcz21_0
  try clear hcz21_1
  try clear hcz21_2
  try clear hcz21_3
  try clear hcz21_4
  try clear hcz23_0
  try clear hcz23_1
  try clear hcz23_2
  try clear hcz23_3
  try clear hcz23_4
  try clear hcz25_0
  try clear hcz25_1
  try clear hcz25_2
  try clear hcz25_3
  try clear hcz25_4
  try clear hcz27_0
  try clear hcz27_1
  try clear hcz27_2
  try clear hcz27_3
  try clear hcz27_4
  try clear hcz8_0
  try clear hcz8_1
  try clear hcz8_2
  try clear hcz8_3
  try clear hcz8_4
  try clear hfz15_0
  try clear hfz15_1
  try clear hfz15_2
  try clear hfz15_3
  try clear hfz15_4
  try clear hfz17_0
  try clear hfz17_1
  try clear hfz17_2
  try clear hfz17_3
  try clear hfz17_4
  try clear hfz19_0
  try clear hfz19_1
  try clear hfz19_2
  try clear hfz19_3
  try clear hfz19_4
  try clear hfz21_0
  try clear hfz21_1
  try clear hfz21_2
  try clear hfz21_3
  try clear hfz21_4
  try clear hfz23_0
  try clear hfz23_1
  try clear hfz23_2
  try clear hfz23_3
  try clear hfz23_4
  try clear hfz25_0
  try clear hfz25_1
  try clear hfz25_2
  try clear hfz25_3
  try clear hfz25_4
  try clear hfz27_0
  try clear hfz27_1
  try clear hfz27_2
  try clear hfz27_3
  try clear hfz27_4
  try clear hfz8_0
  try clear hfz8_1
  try clear hfz8_2
  try clear hfz8_3
  try clear hfz8_4
  obtain ⟨kq, x30_3, rfl, HA, HJ3, BK568, HB⟩ := hcut
  cases kq with
  | zero => exact absurd HA.out (by simp [headgatelaw11_ResvFences.j0])
  | succ kj3 =>
   have H := HA.out
   clear HA
   simp only [headgatelaw11_ResvFences.j0] at H
   by_cases c29 : x30_3 = true
   ·subst c29
    have H1 := H
    rw [if_pos rfl] at H1
    clear H
    have H := H1
    clear H1
    replace H := Option.bind_eq_some_iff.mp H
    obtain ⟨t573, A300, H⟩ := H
    try dsimp only at H
    have A30 := Aside0.mk A300
    clear A300
    obtain rfl := Option.some.inj H
    go_wp2_with (first | ((with_reducible refine gate_callee (f := 13) rfl ?_); refine goesL_ (some 31) rfl rfl Tryd.func13 (by kernel_rfl) rfl #[] rfl (by (try simp only [List.map_toArray, List.map_cons, List.map_nil]); first | done | rfl | (simp only [List.length_drop, List.length_take]; rfl)) ?_; (with_reducible refine (headgatelaw11_wakes.calls kj3  t573 _ ?side1 A30.out).mono ?_); (case side1 => first | ((refine Glob.keep HG.out ?_); (repeat (first | (with_reducible first | exact HB.out | apply below_alloc | apply pw_below_drewN | apply below_drew1 | refine below_set ?_ GE568.out) | exact HB.out)); done) | exact HG.out); rintro e w31 ⟨rfl, hb⟩; refine ⟨_, rfl, ?_⟩; have n0_ := Aside0.mk (blk_below (bk_ BK568) hb); have n1_ := Aside0.mk (below_step (hb_ HB) hb); clear BK568; clear HB; have BK568 := n0_; have HB := n1_; clear n0_ n1_; (try clear hb); (try clear hb2); (try clear hk); (try clear hi)))
    go_ret
    exact ⟨by first | rfl | (simp [errW_none, errW_some] <;> rfl) | (simp [*, errW_none, errW_some] <;> rfl) | (simp [bt, *]; done) | (unfold bt; simp [*]; done), by repeat (first | (with_reducible first | exact HB.out | apply below_alloc | apply pw_below_drewN | apply below_drew1 | refine below_set ?_ GE568.out) | exact HB.out)⟩
   replace c29 := Bool.eq_false_iff.mpr c29
   subst c29
   have H1 := H
   rw [if_neg (show ¬ (false = true) by decide)] at H1
   clear H
   have H := H1
   clear H1
   replace H := Option.bind_eq_some_iff.mp H
   obtain ⟨⟨t574, t577, t578, t579, t580⟩, A320, H⟩ := H
   try dsimp only at H
   have A32 := Aside0.mk A320
   clear A320
   have H' := Aside0.mk H
   clear H
   have hcz33_0 : wc.cell? ⟨gb568, 0, none⟩ = some (.slice A0_0 l0_0.length c0_0) := (blk_cell BK568.out 0).trans rfl
   have hcz33_1 : wc.cell? ⟨gb568, 1, none⟩ = some (.int .i64 a0_1) := (blk_cell BK568.out 1).trans rfl
   have hcz33_2 : wc.cell? ⟨gb568, 2, none⟩ = some (.string a0_2) := (blk_cell BK568.out 2).trans rfl
   have hcz33_3 : wc.cell? ⟨gb568, 3, none⟩ = some (.int .u32 a0_3) := (blk_cell BK568.out 3).trans rfl
   have hcz33_4 : wc.cell? ⟨gb568, 4, none⟩ = some (.bool a0_4) := (blk_cell BK568.out 4).trans rfl
   have hfz33_0 := blk_frozen BK568.out 0
   have hfz33_1 := blk_frozen BK568.out 1
   have hfz33_2 := blk_frozen BK568.out 2
   have hfz33_3 := blk_frozen BK568.out 3
   have hfz33_4 := blk_frozen BK568.out 4
   go_wp2_with (first | ((with_reducible refine gate_callee (f := 14) rfl ?_); refine goesL_ (some 33) rfl rfl Tryd.func14 (by kernel_rfl) rfl #[.agg #[.slice A0_0 l0_0.length c0_0, .int .i64 a0_1, .string a0_2, .int .u32 a0_3, .bool a0_4]] rfl (by (try simp only [List.map_toArray, List.map_cons, List.map_nil]); first | done | rfl | (simp only [List.length_drop, List.length_take]; rfl)) ?_; (with_reducible refine (headgatekeep_CopyTable.calls _ _ l0_0 a0_1 a0_2 a0_3 a0_4 t574 t577 t578 t579 t580 _ ?side1 ?side2 A32.out).mono ?_); (case side1 => repeat (first | exact (Kd.C_below HR0_0.out HB.out) | (with_reducible refine Kd.C_alloc ?_ _) | (with_reducible refine Kd.C_drewN ?_ _) | (with_reducible refine Kd.C_drew ?_))); (case side2 => exact HC0_0.out); rintro e w34 ⟨v575, rfl, ho0, hb⟩; refine ⟨_, rfl, ?_⟩; have n0_ := Aside0.mk (Kd.R_lower ho0 (below_size (hb_ HB))); have n1_ := Aside0.mk (blk_below (bk_ BK568) hb); have n2_ := Aside0.mk (below_step (hb_ HB) hb); clear BK568; clear HB; have HO576 := n0_; have BK568 := n1_; have HB := n2_; clear n0_ n1_ n2_; (try clear hb); (try clear hb2); (try clear hk); (try clear hi); (try clear ho0)) | ((with_reducible refine gate_dst (N := 7) rfl ?_); refine box_event ?hg (N := 7) ?hd (cs := #[.slice none 0 0, .int .i64 0, .string (⟨#[]⟩ : ByteArray), .int .u32 0, .bool false]) (t := 27) ?hr ?_; (case hd => rfl); (case hg => rfl); (case hr => first | (go_simp; done) | (go_simp; rfl)); intro gb581 hg w35 hbox hb; have n0_ := Aside0.mk (Kd.R_below (by (with_reducible repeat (first | apply Kd.R_alloc | apply Kd.R_drewN | apply Kd.R_drew)); exact HO576.out) hb); have n1_ := Aside0.mk (blk_below (bk_ BK568) hb); have n2_ := Aside0.mk (below_step (hb_ HB) hb); have n3_ := Aside0.mk (hbox); have n4_ := Aside0.mk ((by rw [hg]; exact (below_size (hb_ HB)) : w.heap.size ≤ gb581)); have n5_ := Aside0.mk ((by rw [hg]; exact (below_size (hb_ HB)) : w.heap.size ≤ gb581)); have n6_ := Aside0.mk ((by rw [hg]; exact Nat.ne_of_lt (blk_lt (g := gb568) (o := .cells #[.slice A0_0 l0_0.length c0_0, .int .i64 a0_1, .string a0_2, .int .u32 a0_3, .bool a0_4] 27 (0, 0)) (bk_ BK568)) : gb568 ≠ gb581)); have n7_ := Aside0.mk ((by rw [hg]; exact Nat.ne_of_gt (blk_lt (g := gb568) (o := .cells #[.slice A0_0 l0_0.length c0_0, .int .i64 a0_1, .string a0_2, .int .u32 a0_3, .bool a0_4] 27 (0, 0)) (bk_ BK568)) : gb581 ≠ gb568)); clear HO576; clear BK568; clear HB; have HO576 := n0_; have BK568 := n1_; have HB := n2_; have BK581 := n3_; have GW581 := n4_; have GE581 := n5_; have NB568_581 := n6_; have NB581_568 := n7_; clear n0_ n1_ n2_ n3_ n4_ n5_ n6_ n7_; clear hb hbox hg; obtain ⟨Ao36, co36, eo36⟩ := Kd.R_slice HO576.out; subst eo36; have hnb37 := NB581_568.out; have hnc37 := NB568_581.out; have hcz38_0 : w35.cell? ⟨gb581, 0, none⟩ = some (.slice none 0 0) := (blk_cell BK581.out 0).trans rfl; have hcz38_1 : w35.cell? ⟨gb581, 1, none⟩ = some (.int .i64 0) := (blk_cell BK581.out 1).trans rfl; have hcz38_2 : w35.cell? ⟨gb581, 2, none⟩ = some (.string (⟨#[]⟩ : ByteArray)) := (blk_cell BK581.out 2).trans rfl; have hcz38_3 : w35.cell? ⟨gb581, 3, none⟩ = some (.int .u32 0) := (blk_cell BK581.out 3).trans rfl; have hcz38_4 : w35.cell? ⟨gb581, 4, none⟩ = some (.bool false) := (blk_cell BK581.out 4).trans rfl; have hfz38_0 := blk_frozen BK581.out 0; have hfz38_1 := blk_frozen BK581.out 1; have hfz38_2 := blk_frozen BK581.out 2; have hfz38_3 := blk_frozen BK581.out 3; have hfz38_4 := blk_frozen BK581.out 4))
   go_loopg [8] kj3 (fun kq v8 w' => ∃ (x8_2 : Int) (x582000_2 : List (S53)) (x582001_2 : Int) (x582002_2 : ByteArray) (x582003_2 : Int) (x582004_2 : Bool) (u582000 : Value), v8 = .int .i64 x8_2 ∧ Aside0 (headgatelaw11_ResvFences.l0 kq a1 l2 x8_2 l0_0 a0_1 a0_2 a0_3 a0_4 x582000_2 x582001_2 x582002_2 x582003_2 x582004_2 = some r) ∧ Aside0 (kq ≤ kj3) ∧ Aside0 (Kd.V k53 53 w' w.heap.size (fun k_ => k_ ≠ gb568 ∧ k_ ≠ gb581) u582000 x582000_2) ∧ Aside0 (w'.heap[gb568]? = some (.cells #[(.slice A0_0 l0_0.length c0_0), .int .i64 a0_1, .string a0_2, .int .u32 a0_3, .bool a0_4] 27 (0, 0))) ∧ Aside0 (w'.heap[gb581]? = some (.cells #[u582000, .int .i64 x582001_2, .string x582002_2, .int .u32 x582003_2, .bool x582004_2] 27 (0, 0))) ∧ Aside0 (Below w.heap.size w w'))
   case atStart => exact ⟨(0), (t574), (t577), (t578), (t579), (t580), (.slice Ao36 t574.length co36), (by first | rfl | (simp; done) | (simp [*]; done)), H', ⟨Nat.le_refl _⟩, ⟨Kd.R_V (by (with_reducible repeat (first | apply Kd.R_alloc | apply Kd.R_drewN | apply Kd.R_drew)); exact Kd.R_mono (Kd.R_far (p := ⟨gb581, 4, none⟩) (Kd.R_far (p := ⟨gb581, 3, none⟩) (Kd.R_far (p := ⟨gb581, 2, none⟩) (Kd.R_far (p := ⟨gb581, 1, none⟩) (Kd.R_far (p := ⟨gb581, 0, none⟩) (Kd.R_types (Kd.R_types (Kd.R_types HO576.out BK568.out (by decide)) BK581.out (by decide)) BK581.out (by decide)) (fun _ hk => hk.2) (.slice Ao36 t574.length co36)) (fun _ hk => hk.2) (.int .i64 t577)) (fun _ hk => hk.2) (.string t578)) (fun _ hk => hk.2) (.int .u32 t579)) (fun _ hk => hk.2) (.bool t580)) (fun _ hk => ⟨hk.1.1.2, hk.1.2⟩))⟩, ⟨by (with_reducible repeat (first | refine blk_drewN ?_ _ | refine blk_drew ?_ | refine blk_alloc ?_ _ | refine blk_far ?_ NB568_581.out _)); exact BK568.out⟩, ⟨by (with_reducible repeat (first | refine blk_drewN ?_ _ | refine blk_drew ?_ | refine blk_alloc ?_ _)); refine blk_put (cs := #[.slice Ao36 t574.length co36, .int .i64 t577, .string t578, .int .u32 t579, .bool false]) ?_ 4 _ rfl; (with_reducible repeat (first | refine blk_drewN ?_ _ | refine blk_drew ?_ | refine blk_alloc ?_ _)); refine blk_put (cs := #[.slice Ao36 t574.length co36, .int .i64 t577, .string t578, .int .u32 0, .bool false]) ?_ 3 _ rfl; (with_reducible repeat (first | refine blk_drewN ?_ _ | refine blk_drew ?_ | refine blk_alloc ?_ _)); refine blk_put (cs := #[.slice Ao36 t574.length co36, .int .i64 t577, .string (⟨#[]⟩ : ByteArray), .int .u32 0, .bool false]) ?_ 2 _ rfl; (with_reducible repeat (first | refine blk_drewN ?_ _ | refine blk_drew ?_ | refine blk_alloc ?_ _)); refine blk_put (cs := #[.slice Ao36 t574.length co36, .int .i64 0, .string (⟨#[]⟩ : ByteArray), .int .u32 0, .bool false]) ?_ 1 _ rfl; (with_reducible repeat (first | refine blk_drewN ?_ _ | refine blk_drew ?_ | refine blk_alloc ?_ _)); refine blk_put (cs := #[.slice none 0 0, .int .i64 0, .string (⟨#[]⟩ : ByteArray), .int .u32 0, .bool false]) ?_ 0 _ rfl; (with_reducible repeat (first | refine blk_drewN ?_ _ | refine blk_drew ?_ | refine blk_alloc ?_ _)); exact BK581.out⟩, ⟨hb_ HB⟩⟩
   case round =>
    clear H'
    try clear c1
    try clear c2
    try clear p2
    try clear c3
    try clear c7
    try clear c9
    try clear c11
    try clear c13
    try clear c14
    try clear c29
    try clear c37
    try clear hcz15_0
    try clear hcz15_1
    try clear hcz15_2
    try clear hcz15_3
    try clear hcz15_4
    try clear hcz17_0
    try clear hcz17_1
    try clear hcz17_2
    try clear hcz17_3
    try clear hcz17_4
    try clear hcz19_0
    try clear hcz19_1
    try clear hcz19_2
    try clear hcz19_3
    try clear hcz19_4
    try clear hcz21_0
    try clear hcz21_1
    try clear hcz21_2
    try clear hcz21_3
    try clear hcz21_4
    try clear hcz23_0
    try clear hcz23_1
    try clear hcz23_2
    try clear hcz23_3
    try clear hcz23_4
    try clear hcz25_0
    try clear hcz25_1
    try clear hcz25_2
    try clear hcz25_3
    try clear hcz25_4
    try clear hcz27_0
    try clear hcz27_1
    try clear hcz27_2
    try clear hcz27_3
    try clear hcz27_4
    try clear hcz33_0
    try clear hcz33_1
    try clear hcz33_2
    try clear hcz33_3
    try clear hcz33_4
    try clear hcz38_0
    try clear hcz38_1
    try clear hcz38_2
    try clear hcz38_3
    try clear hcz38_4
    try clear hcz8_0
    try clear hcz8_1
    try clear hcz8_2
    try clear hcz8_3
    try clear hcz8_4
    try clear hfz15_0
    try clear hfz15_1
    try clear hfz15_2
    try clear hfz15_3
    try clear hfz15_4
    try clear hfz17_0
    try clear hfz17_1
    try clear hfz17_2
    try clear hfz17_3
    try clear hfz17_4
    try clear hfz19_0
    try clear hfz19_1
    try clear hfz19_2
    try clear hfz19_3
    try clear hfz19_4
    try clear hfz21_0
    try clear hfz21_1
    try clear hfz21_2
    try clear hfz21_3
    try clear hfz21_4
    try clear hfz23_0
    try clear hfz23_1
    try clear hfz23_2
    try clear hfz23_3
    try clear hfz23_4
    try clear hfz25_0
    try clear hfz25_1
    try clear hfz25_2
    try clear hfz25_3
    try clear hfz25_4
    try clear hfz27_0
    try clear hfz27_1
    try clear hfz27_2
    try clear hfz27_3
    try clear hfz27_4
    try clear hfz33_0
    try clear hfz33_1
    try clear hfz33_2
    try clear hfz33_3
    try clear hfz33_4
    try clear hfz38_0
    try clear hfz38_1
    try clear hfz38_2
    try clear hfz38_3
    try clear hfz38_4
    try clear hfz8_0
    try clear hfz8_1
    try clear hfz8_2
    try clear hfz8_3
    try clear hfz8_4
    try clear p2
    obtain ⟨x8_2, x582000_2, x582001_2, x582002_2, x582003_2, x582004_2, u582000, rfl, HA, HK2, HO_582000, BK568, BK581, HB⟩ := hrel
    cases gk with
    | zero => exact absurd HA.out (by simp [headgatelaw11_ResvFences.l0])
    | succ k2 =>
     have H := HA.out
     clear HA
     simp only [headgatelaw11_ResvFences.l0] at H
     have HC39 := Aside0.mk H
     clear H
     go_upto_region 5 with (fail)
     go_cut [41] (fun v41 wc => ∃ (kq : Nat) (x41_38 : Bool), v41 = .bool x41_38 ∧ Aside0 (headgatelaw11_ResvFences.j2 kq a1 l2 x8_2 x41_38 l0_0 a0_1 a0_2 a0_3 a0_4 x582000_2 x582001_2 x582002_2 x582003_2 x582004_2 = some r) ∧ Aside0 (kq ≤ k2) ∧ Aside0 (Kd.V k53 53 wc w.heap.size (fun k_ => k_ ≠ gb568 ∧ k_ ≠ gb581) u582000 x582000_2) ∧ Aside0 (wc.heap[gb568]? = some (.cells #[(.slice A0_0 l0_0.length c0_0), .int .i64 a0_1, .string a0_2, .int .u32 a0_3, .bool a0_4] 27 (0, 0))) ∧ Aside0 (wc.heap[gb581]? = some (.cells #[u582000, .int .i64 x582001_2, .string x582002_2, .int .u32 x582003_2, .bool x582004_2] 27 (0, 0))) ∧ Aside0 (Below w.heap.size w wc))
     case first =>
      have H := HC39.out
      clear HC39
      refine neg_first (p := (x8_2 < (l2.length : Int))) (fun c40 => ?_) (fun c40 => ?_)
      ·rw [if_neg c40] at H
       have c40b0 : decide (x8_2 < (l2.length : Int)) = false := decide_eq_false c40
       clear c40
       (first | rw [c40b0] | (simp only [i64_w, i32_w]; rw [c40b0]) | skip)
       have H' := Aside0.mk H
       clear H
       go_wp2
       go_meet
       case rel => exact ⟨_, (false), (by first | rfl | (simp; done) | (simp [*]; done)), H', ⟨by have := HJ3.out; have := HK2.out; first | omega | exact Nat.le_refl _⟩, ⟨by (with_reducible repeat (first | apply Kd.V_alloc | apply Kd.V_drewN | apply Kd.V_drew)); exact HO_582000.out⟩, ⟨bk_ BK568⟩, ⟨bk_ BK581⟩, ⟨hb_ HB⟩⟩
      rw [if_pos c40] at H
      have c40b0 : decide (x8_2 < (l2.length : Int)) = true := decide_eq_true c40
      clear c40
      (first | rw [c40b0] | (simp only [i64_w, i32_w]; rw [c40b0]) | skip)
      have H' := Aside0.mk H
      clear H
      go_wp2
      go_meet
      case rel => exact ⟨_, (decide (x8_2 < 30)), (by first | rfl | (simp; done) | (simp [*]; done)), H', ⟨by have := HJ3.out; have := HK2.out; first | omega | exact Nat.le_refl _⟩, ⟨by (with_reducible repeat (first | apply Kd.V_alloc | apply Kd.V_drewN | apply Kd.V_drew)); exact HO_582000.out⟩, ⟨bk_ BK568⟩, ⟨bk_ BK581⟩, ⟨hb_ HB⟩⟩
     case rest =>
      clear HC39
      try clear c1
      try clear c2
      try clear p2
      try clear c3
      try clear c4
      try clear c7
      try clear c9
      try clear c11
      try clear c13
      try clear c14
      try clear c29
      try clear c37
      try clear c40
      try clear c40b0
      try clear hcz15_0
      try clear hcz15_1
      try clear hcz15_2
      try clear hcz15_3
      try clear hcz15_4
      try clear hcz17_0
      try clear hcz17_1
      try clear hcz17_2
      try clear hcz17_3
      try clear hcz17_4
      try clear hcz19_0
      try clear hcz19_1
      try clear hcz19_2
      try clear hcz19_3
      try clear hcz19_4
      try clear hcz21_0
      try clear hcz21_1
      try clear hcz21_2
      try clear hcz21_3
      try clear hcz21_4
      try clear hcz23_0
      try clear hcz23_1
      try clear hcz23_2
      try clear hcz23_3
      try clear hcz23_4
      try clear hcz25_0
      try clear hcz25_1
      try clear hcz25_2
      try clear hcz25_3
      try clear hcz25_4
      try clear hcz27_0
      try clear hcz27_1
      try clear hcz27_2
      try clear hcz27_3
      try clear hcz27_4
      try clear hcz33_0
      try clear hcz33_1
      try clear hcz33_2
      try clear hcz33_3
      try clear hcz33_4
      try clear hcz38_0
      try clear hcz38_1
      try clear hcz38_2
      try clear hcz38_3
      try clear hcz38_4
      try clear hcz8_0
      try clear hcz8_1
      try clear hcz8_2
      try clear hcz8_3
      try clear hcz8_4
      try clear hfz15_0
      try clear hfz15_1
      try clear hfz15_2
      try clear hfz15_3
      try clear hfz15_4
      try clear hfz17_0
      try clear hfz17_1
      try clear hfz17_2
      try clear hfz17_3
      try clear hfz17_4
      try clear hfz19_0
      try clear hfz19_1
      try clear hfz19_2
      try clear hfz19_3
      try clear hfz19_4
      try clear hfz21_0
      try clear hfz21_1
      try clear hfz21_2
      try clear hfz21_3
      try clear hfz21_4
      try clear hfz23_0
      try clear hfz23_1
      try clear hfz23_2
      try clear hfz23_3
      try clear hfz23_4
      try clear hfz25_0
      try clear hfz25_1
      try clear hfz25_2
      try clear hfz25_3
      try clear hfz25_4
      try clear hfz27_0
      try clear hfz27_1
      try clear hfz27_2
      try clear hfz27_3
      try clear hfz27_4
      try clear hfz33_0
      try clear hfz33_1
      try clear hfz33_2
      try clear hfz33_3
      try clear hfz33_4
      try clear hfz38_0
      try clear hfz38_1
      try clear hfz38_2
      try clear hfz38_3
      try clear hfz38_4
      try clear hfz8_0
      try clear hfz8_1
      try clear hfz8_2
      try clear hfz8_3
      try clear hfz8_4
      try clear p2
      obtain ⟨kq, x41_38, rfl, HA, HJ38, HO_582000, BK568, BK581, HB⟩ := hcut
      cases kq with
      | zero => exact absurd HA.out (by simp [headgatelaw11_ResvFences.j2])
      | succ kj38 =>
       have H := HA.out
       clear HA
       simp only [headgatelaw11_ResvFences.j2] at H
       refine neg_first (p := (x41_38 = true)) (fun c41 => ?_) (fun c41 => ?_)
       ·replace c41 := Bool.eq_false_iff.mpr c41
        subst c41
        have H1 := H
        rw [if_neg (show ¬ (false = true) by decide)] at H1
        clear H
        have H := H1
        clear H1
        replace H := Option.bind_eq_some_iff.mp H
        obtain ⟨t582, A770, H⟩ := H
        try dsimp only at H
        have A77 := Aside0.mk A770
        clear A770
        replace H := Option.bind_eq_some_iff.mp H
        obtain ⟨t583, A780, H⟩ := H
        try dsimp only at H
        have A78 := Aside0.mk A780
        clear A780
        refine neg_first (p := ((t582 == t583) = true)) (fun c79 => ?_) (fun c79 => ?_)
        ·rw [if_neg c79] at H
         have c79b0 : (t582 == t583) = false := by simpa using c79
         (try (have c79b1 : decide (t582 = t583) = false := by simpa using c79))
         (try (have c79b2 : (t582 == t583) = false := by simpa using c79))
         (try (have c79b3 : ¬ (t582 = t583) := by simpa using c79))
         clear c79
         exact absurd ((Option.some.inj H).trans HT0.out) (by decide)

        rw [if_pos c79] at H
        have c79b0 : (t582 == t583) = true := c79
        (try (have c79b1 : decide (t582 = t583) = true := by simpa using c79))
        (try (have c79b2 : (t582 == t583) = true := by simpa using c79))
        clear c79
        replace H := Option.bind_eq_some_iff.mp H
        obtain ⟨t584, A800, H⟩ := H
        try dsimp only at H
        have A80 := Aside0.mk A800
        clear A800
        obtain rfl := Option.some.inj H
        try go_wp2
        have n0_ := Aside0.mk (Kd.V_drew HO_582000.out)
        have n1_ := Aside0.mk (blk_drew BK568.out)
        have n2_ := Aside0.mk (blk_drew BK581.out)
        have n3_ := Aside0.mk (below_drew1 HB.out)
        clear HO_582000
        clear BK568
        clear BK581
        clear HB
        have HO_582000 := n0_
        have BK568 := n1_
        have BK581 := n2_
        have HB := n3_
        clear n0_ n1_ n2_ n3_
        obtain ⟨Ao82, co82, eo82⟩ := Kd.V_slice HO_582000.out
        (first | subst eo82 | (injection eo82 with f1_ f2_ f3_; have f4_ := f1_.symm; have f5_ := f3_.symm; clear f1_ f2_ f3_; subst f4_; subst f5_))
        refine start_ (n := 11) (S := fun w' => w'.cell? ⟨gb581, 0, none⟩ = some (.slice Ao82 x582000_2.length co82) ∧ w'.cell? ⟨gb581, 1, none⟩ = some (.int .i64 x582001_2) ∧ w'.cell? ⟨gb581, 2, none⟩ = some (.string x582002_2) ∧ w'.cell? ⟨gb581, 3, none⟩ = some (.int .u32 x582003_2) ∧ w'.cell? ⟨gb581, 4, none⟩ = some (.bool x582004_2) ∧ w'.cell? ⟨gb568, 0, none⟩ = some (.slice A0_0 l0_0.length c0_0) ∧ w'.cell? ⟨gb568, 1, none⟩ = some (.int .i64 a0_1) ∧ w'.cell? ⟨gb568, 2, none⟩ = some (.string a0_2) ∧ w'.cell? ⟨gb568, 3, none⟩ = some (.int .u32 a0_3) ∧ w'.cell? ⟨gb568, 4, none⟩ = some (.bool a0_4)) (ds := []) d9x0 (by kernel_rfl) rfl rfl ⟨(blk_cell BK581.out 0).trans rfl, (blk_cell BK581.out 1).trans rfl, (blk_cell BK581.out 2).trans rfl, (blk_cell BK581.out 3).trans rfl, (blk_cell BK581.out 4).trans rfl, (blk_cell BK568.out 0).trans rfl, (blk_cell BK568.out 1).trans rfl, (blk_cell BK568.out 2).trans rfl, (blk_cell BK568.out 3).trans rfl, (blk_cell BK568.out 4).trans rfl⟩ (fun hHeld => ?_); refine with_tabW headgatelaw11_ResvFences.tab14 headgatelaw11_ResvFences.bits14 (fun HT_ HW_ => ?_)
        generalize wc.drew = w81 at HO_582000 BK568 BK581 HB hHeld ⊢
        refine pon_ 1 (some 75) d9x1 HT_.out ?_
        refine pon_ 4 (some 78) d9x2 HT_.out ?_
        refine ptk_ 0 (some 74) d9x3 HT_.out HW_.out hHeld ?_
        refine ptk_ 3 (some 77) d9x4 HT_.out HW_.out hHeld ?_
        refine one_ (i := 2) (N := some 76) d9x5 rfl rfl (one_of HT_.out (by kernel_rfl)) (by decide) (fun K hK => ?_)
        refine goes_ Tryd.func28 (by kernel_rfl) rfl #[.agg #[.slice Ao82 x582000_2.length co82, .int .i64 x582001_2, .string x582002_2, .int .u32 x582003_2, .bool x582004_2], .string a1, .int .i64 3] (by rfl) rfl rfl (by (try simp only [List.map_toArray, List.map_cons, List.map_nil]); first | done | rfl | (simp only [List.length_drop, List.length_take]; rfl)) ?_
        with_reducible refine (access_May.calls kj38 _ _ x582000_2 x582001_2 x582002_2 x582003_2 x582004_2 a1 3 t582 _ ?side1 ?side2 ?side3 A77.out).mono ?_
        (case side1 => repeat (first | exact (Kd.V_reads' HO_582000.out).2.2 | (with_reducible refine Kd.C_alloc ?_ _) | (with_reducible refine Kd.C_drewN ?_ _) | (with_reducible refine Kd.C_drew ?_)))
        (case side2 => exact (Kd.V_reads' HO_582000.out).2.1)
        (case side3 => first | ((refine Glob.keep HG.out ?_); (repeat (first | (with_reducible first | exact HB.out | apply below_alloc | apply pw_below_drewN | apply below_drew1 | refine below_set ?_ GE568.out | refine below_set ?_ GE581.out) | exact HB.out)); done) | exact HG.out)
        rintro e w83 ⟨rfl, hb⟩
        refine ⟨_, rfl, ?_⟩
        have n0_ := Aside0.mk (Kd.V_below (by (with_reducible repeat (first | apply Kd.V_alloc | apply Kd.V_drewN | apply Kd.V_drew)); exact HO_582000.out) hb)
        have n1_ := Aside0.mk (blk_below (bk_ BK568) hb)
        have n2_ := Aside0.mk (blk_below (bk_ BK581) hb)
        have n3_ := Aside0.mk (below_step (hb_ HB) hb)
        clear HO_582000
        clear BK568
        clear BK581
        clear HB
        have HO_582000 := n0_
        have BK568 := n1_
        have BK581 := n2_
        have HB := n3_
        clear n0_ n1_ n2_ n3_
        (try clear hb)
        (try clear hb2)
        (try clear hk)
        (try clear hi)
        refine hK.out _ _ ⟨(blk_cell BK581.out 0).trans rfl, (blk_cell BK581.out 1).trans rfl, (blk_cell BK581.out 2).trans rfl, (blk_cell BK581.out 3).trans rfl, (blk_cell BK581.out 4).trans rfl, (blk_cell BK568.out 0).trans rfl, (blk_cell BK568.out 1).trans rfl, (blk_cell BK568.out 2).trans rfl, (blk_cell BK568.out 3).trans rfl, (blk_cell BK568.out 4).trans rfl⟩ (fun hHeld => ?_)
        clear hK K
        refine norm_ (a' := ?_) ?_ ?_
        rotate_left
        ·show Act.put _ (some 76) _ = _
         simp only [Act.put, la_, lb_, lc_, i64_w, i32_w]
         rfl
        refine one_ (i := 5) (N := some 79) d9x6 rfl rfl (one_of HT_.out (by kernel_rfl)) (by decide) (fun K hK => ?_)
        refine goes_ Tryd.func28 (by kernel_rfl) rfl #[.agg #[.slice A0_0 l0_0.length c0_0, .int .i64 a0_1, .string a0_2, .int .u32 a0_3, .bool a0_4], .string a1, .int .i64 3] (by rfl) rfl rfl (by (try simp only [List.map_toArray, List.map_cons, List.map_nil]); first | done | rfl | (simp only [List.length_drop, List.length_take]; rfl)) ?_
        with_reducible refine (access_May.calls kj38 _ _ l0_0 a0_1 a0_2 a0_3 a0_4 a1 3 t583 _ ?side1 ?side2 ?side3 A78.out).mono ?_
        (case side1 => repeat (first | exact (Kd.C_below HR0_0.out HB.out) | (with_reducible refine Kd.C_alloc ?_ _) | (with_reducible refine Kd.C_drewN ?_ _) | (with_reducible refine Kd.C_drew ?_)))
        (case side2 => exact HC0_0.out)
        (case side3 => first | ((refine Glob.keep HG.out ?_); (repeat (first | (with_reducible first | exact HB.out | apply below_alloc | apply pw_below_drewN | apply below_drew1 | refine below_set ?_ GE568.out | refine below_set ?_ GE581.out) | exact HB.out)); done) | exact HG.out)
        rintro e w84 ⟨rfl, hb⟩
        refine ⟨_, rfl, ?_⟩
        have n0_ := Aside0.mk (Kd.V_below (by (with_reducible repeat (first | apply Kd.V_alloc | apply Kd.V_drewN | apply Kd.V_drew)); exact HO_582000.out) hb)
        have n1_ := Aside0.mk (blk_below (bk_ BK568) hb)
        have n2_ := Aside0.mk (blk_below (bk_ BK581) hb)
        have n3_ := Aside0.mk (below_step (hb_ HB) hb)
        clear HO_582000
        clear BK568
        clear BK581
        clear HB
        have HO_582000 := n0_
        have BK568 := n1_
        have BK581 := n2_
        have HB := n3_
        clear n0_ n1_ n2_ n3_
        (try clear hb)
        (try clear hb2)
        (try clear hk)
        (try clear hi)
        refine hK.out _ _ ⟨(blk_cell BK581.out 0).trans rfl, (blk_cell BK581.out 1).trans rfl, (blk_cell BK581.out 2).trans rfl, (blk_cell BK581.out 3).trans rfl, (blk_cell BK581.out 4).trans rfl, (blk_cell BK568.out 0).trans rfl, (blk_cell BK568.out 1).trans rfl, (blk_cell BK568.out 2).trans rfl, (blk_cell BK568.out 3).trans rfl, (blk_cell BK568.out 4).trans rfl⟩ (fun hHeld => ?_)
        clear hK K
        refine norm_ (a' := ?_) ?_ ?_
        rotate_left
        ·show Act.put _ (some 79) _ = _
         simp only [Act.put, la_, lb_, lc_, i64_w, i32_w]
         rfl
        refine pon_ 6 (some 80) d9x7 HT_.out ?_
        refine pon_ 7 (some 81) d9x8 HT_.out ?_
        refine one_ (i := 8) (N := some 82) d9x9 rfl rfl (one_of HT_.out (by kernel_rfl)) (by decide) (fun K hK => ?_)
        refine goes_ Tryd.func13 (by kernel_rfl) rfl #[] (by rfl) rfl rfl (by (try simp only [List.map_toArray, List.map_cons, List.map_nil]); first | done | rfl | (simp only [List.length_drop, List.length_take]; rfl)) ?_
        with_reducible refine (headgatelaw11_wakes.calls kj38  t584 _ ?side1 A80.out).mono ?_
        (case side1 => first | ((refine Glob.keep HG.out ?_); (repeat (first | (with_reducible first | exact HB.out | apply below_alloc | apply pw_below_drewN | apply below_drew1 | refine below_set ?_ GE568.out | refine below_set ?_ GE581.out) | exact HB.out)); done) | exact HG.out)
        rintro e w85 ⟨rfl, hb⟩
        refine ⟨_, rfl, ?_⟩
        have n0_ := Aside0.mk (Kd.V_below (by (with_reducible repeat (first | apply Kd.V_alloc | apply Kd.V_drewN | apply Kd.V_drew)); exact HO_582000.out) hb)
        have n1_ := Aside0.mk (blk_below (bk_ BK568) hb)
        have n2_ := Aside0.mk (blk_below (bk_ BK581) hb)
        have n3_ := Aside0.mk (below_step (hb_ HB) hb)
        clear HO_582000
        clear BK568
        clear BK581
        clear HB
        have HO_582000 := n0_
        have BK568 := n1_
        have BK581 := n2_
        have HB := n3_
        clear n0_ n1_ n2_ n3_
        (try clear hb)
        (try clear hb2)
        (try clear hk)
        (try clear hi)
        refine hK.out _ _ ⟨(blk_cell BK581.out 0).trans rfl, (blk_cell BK581.out 1).trans rfl, (blk_cell BK581.out 2).trans rfl, (blk_cell BK581.out 3).trans rfl, (blk_cell BK581.out 4).trans rfl, (blk_cell BK568.out 0).trans rfl, (blk_cell BK568.out 1).trans rfl, (blk_cell BK568.out 2).trans rfl, (blk_cell BK568.out 3).trans rfl, (blk_cell BK568.out 4).trans rfl⟩ (fun hHeld => ?_)
        clear hK K
        refine norm_ (a' := ?_) ?_ ?_
        rotate_left
        ·show Act.put _ (some 82) _ = _
         simp only [Act.put, la_, lb_, lc_, i64_w, i32_w]
         rfl
        refine pon_ 9 (some 83) d9x10 HT_.out ?_
        refine pon_ 10 (some 6) d9x11 HT_.out ?_
        refine done_ (done_of HT_.out (by kernel_rfl)) ?_
        try go_wp2
        go_ret
        exact ⟨by first | rfl | (simp [errW_none, errW_some] <;> rfl) | (simp [*, errW_none, errW_some] <;> rfl) | (simp [bt, *]; done) | (unfold bt; simp [*]; done), by repeat (first | (with_reducible first | exact HB.out | apply below_alloc | apply pw_below_drewN | apply below_drew1 | refine below_set ?_ GE568.out | refine below_set ?_ GE581.out) | exact HB.out)⟩
       subst c41
       have H1 := H
       rw [if_pos rfl] at H1
       clear H
       have H := H1
       clear H1
       refine neg_first (p := (0 ≤ x8_2)) (fun c42 => ?_) (fun c42 => ?_)
       ·rw [if_neg c42] at H
        exact absurd H (by simp)
       rw [if_pos c42] at H
       have c42b0 : decide (0 ≤ x8_2) = true := decide_eq_true c42
       clear c42
       refine neg_first (p := (x8_2 < (l2.length : Int))) (fun c43 => ?_) (fun c43 => ?_)
       ·rw [if_neg c43] at H
        exact absurd H (by simp)
       rw [if_pos c43] at H
       have c43b0 : decide (x8_2 < (l2.length : Int)) = true := decide_eq_true c43
       clear c43
       by_cases c44 : ((rd_T31 l2 x8_2).f0) = 8
       ·rw [if_pos c44] at H
        have c44b0 : (((rd_T31 l2 x8_2).f0) == 8) = true := beq_iff_eq.mpr c44
        have c44b1 : (((rd_T31 l2 x8_2).f0) != 8) = false := bne_eq_false_iff_eq.mpr c44
        clear c44
        have H' := Aside0.mk H
        clear H
        have p585 : 0 ≤ (x8_2 : Int) := of_decide_eq_true (by first | (with_reducible assumption) | assumption)
        have q585 : x8_2 < (l2.length : Int) := of_decide_eq_true (by first | (with_reducible assumption) | assumption)
        obtain ⟨ad585, A585_7, c585_7, e585, hx585_0, hx585_1, hx585_2, hx585_3, hx585_4, hx585_5, hx585_6, hx585_7, hx585_8, hx585_9, hx585_10, hx585_11, hx585_12, hx585_13, hl585_7, hi585_7⟩ := at_T31 HR2.out x8_2 p585 q585
        cases e585
        replace hx585_0 := (HB.out.cell (World.block_lt_of_cell? w _ hx585_0)).trans hx585_0
        replace hx585_1 := (HB.out.cell (World.block_lt_of_cell? w _ hx585_1)).trans hx585_1
        replace hx585_2 := (HB.out.cell (World.block_lt_of_cell? w _ hx585_2)).trans hx585_2
        replace hx585_3 := (HB.out.cell (World.block_lt_of_cell? w _ hx585_3)).trans hx585_3
        replace hx585_4 := (HB.out.cell (World.block_lt_of_cell? w _ hx585_4)).trans hx585_4
        replace hx585_5 := (HB.out.cell (World.block_lt_of_cell? w _ hx585_5)).trans hx585_5
        replace hx585_6 := (HB.out.cell (World.block_lt_of_cell? w _ hx585_6)).trans hx585_6
        replace hx585_7 := (HB.out.cell (World.block_lt_of_cell? w _ hx585_7)).trans hx585_7
        replace hx585_8 := (HB.out.cell (World.block_lt_of_cell? w _ hx585_8)).trans hx585_8
        replace hx585_9 := (HB.out.cell (World.block_lt_of_cell? w _ hx585_9)).trans hx585_9
        replace hx585_10 := (HB.out.cell (World.block_lt_of_cell? w _ hx585_10)).trans hx585_10
        replace hx585_11 := (HB.out.cell (World.block_lt_of_cell? w _ hx585_11)).trans hx585_11
        replace hx585_12 := (HB.out.cell (World.block_lt_of_cell? w _ hx585_12)).trans hx585_12
        replace hx585_13 := (HB.out.cell (World.block_lt_of_cell? w _ hx585_13)).trans hx585_13
        have HR585_7 := Aside0.mk hi585_7
        have HC585_7 := Aside0.mk hl585_7
        clear hi585_7 hl585_7
        replace p585 := eq_true p585
        replace q585 := eq_true q585
        go_wp2_with (first | ((with_reducible refine gate_dst (N := 9) rfl ?_); refine box_event ?hg (N := 9) ?hd (cs := #[.int .i64 0, .int .i64 0, .string (⟨#[]⟩ : ByteArray), .int .i64 0, .int .i64 0, .string (⟨#[]⟩ : ByteArray), .bool false, .slice none 0 0, .int .u64 0, .int .u64 0, .int .u64 0, .int .i64 0, .bool false, .int .i64 0]) (t := 31) ?hr ?_; (case hd => rfl); (case hg => rfl); (case hr => first | (go_simp; done) | (go_simp; rfl)); intro gb586 hg w45 hbox hb; have n0_ := Aside0.mk (Kd.V_below (Kd.V_elderB (by (with_reducible repeat (first | apply Kd.V_alloc | apply Kd.V_drewN | apply Kd.V_drew)); exact HO_582000.out) gb586 (Nat.le_of_eq hg.symm)) hb); have n1_ := Aside0.mk (blk_below (bk_ BK568) hb); have n2_ := Aside0.mk (blk_below (bk_ BK581) hb); have n3_ := Aside0.mk (below_step (hb_ HB) hb); have n4_ := Aside0.mk (hbox); have n5_ := Aside0.mk ((by rw [hg]; exact (below_size (hb_ HB)) : w.heap.size ≤ gb586)); have n6_ := Aside0.mk ((by rw [hg]; exact (below_size (hb_ HB)) : w.heap.size ≤ gb586)); have n7_ := Aside0.mk ((by rw [hg]; exact Nat.ne_of_lt (blk_lt (g := gb568) (o := .cells #[.slice A0_0 l0_0.length c0_0, .int .i64 a0_1, .string a0_2, .int .u32 a0_3, .bool a0_4] 27 (0, 0)) (bk_ BK568)) : gb568 ≠ gb586)); have n8_ := Aside0.mk ((by rw [hg]; exact Nat.ne_of_gt (blk_lt (g := gb568) (o := .cells #[.slice A0_0 l0_0.length c0_0, .int .i64 a0_1, .string a0_2, .int .u32 a0_3, .bool a0_4] 27 (0, 0)) (bk_ BK568)) : gb586 ≠ gb568)); have n9_ := Aside0.mk ((by rw [hg]; exact Nat.ne_of_lt (blk_lt (g := gb581) (o := .cells #[u582000, .int .i64 x582001_2, .string x582002_2, .int .u32 x582003_2, .bool x582004_2] 27 (0, 0)) (bk_ BK581)) : gb581 ≠ gb586)); have n10_ := Aside0.mk ((by rw [hg]; exact Nat.ne_of_gt (blk_lt (g := gb581) (o := .cells #[u582000, .int .i64 x582001_2, .string x582002_2, .int .u32 x582003_2, .bool x582004_2] 27 (0, 0)) (bk_ BK581)) : gb586 ≠ gb581)); clear HO_582000; clear BK568; clear BK581; clear HB; have HO_582000 := n0_; have BK568 := n1_; have BK581 := n2_; have HB := n3_; have BK586 := n4_; have GW586 := n5_; have GE586 := n6_; have NB568_586 := n7_; have NB586_568 := n8_; have NB581_586 := n9_; have NB586_581 := n10_; clear n0_ n1_ n2_ n3_ n4_ n5_ n6_ n7_ n8_ n9_ n10_; clear hb hbox hg; have hnb46 := NB586_568.out; have hnc46 := NB568_586.out; have hnb47 := NB586_581.out; have hnc47 := NB581_586.out; have hcz48_0 : w45.cell? ⟨gb586, 0, none⟩ = some (.int .i64 0) := (blk_cell BK586.out 0).trans rfl; have hcz48_1 : w45.cell? ⟨gb586, 1, none⟩ = some (.int .i64 0) := (blk_cell BK586.out 1).trans rfl; have hcz48_2 : w45.cell? ⟨gb586, 2, none⟩ = some (.string (⟨#[]⟩ : ByteArray)) := (blk_cell BK586.out 2).trans rfl; have hcz48_3 : w45.cell? ⟨gb586, 3, none⟩ = some (.int .i64 0) := (blk_cell BK586.out 3).trans rfl; have hcz48_4 : w45.cell? ⟨gb586, 4, none⟩ = some (.int .i64 0) := (blk_cell BK586.out 4).trans rfl; have hcz48_5 : w45.cell? ⟨gb586, 5, none⟩ = some (.string (⟨#[]⟩ : ByteArray)) := (blk_cell BK586.out 5).trans rfl; have hcz48_6 : w45.cell? ⟨gb586, 6, none⟩ = some (.bool false) := (blk_cell BK586.out 6).trans rfl; have hcz48_7 : w45.cell? ⟨gb586, 7, none⟩ = some (.slice none 0 0) := (blk_cell BK586.out 7).trans rfl; have hcz48_8 : w45.cell? ⟨gb586, 8, none⟩ = some (.int .u64 0) := (blk_cell BK586.out 8).trans rfl; have hcz48_9 : w45.cell? ⟨gb586, 9, none⟩ = some (.int .u64 0) := (blk_cell BK586.out 9).trans rfl; have hcz48_10 : w45.cell? ⟨gb586, 10, none⟩ = some (.int .u64 0) := (blk_cell BK586.out 10).trans rfl; have hcz48_11 : w45.cell? ⟨gb586, 11, none⟩ = some (.int .i64 0) := (blk_cell BK586.out 11).trans rfl; have hcz48_12 : w45.cell? ⟨gb586, 12, none⟩ = some (.bool false) := (blk_cell BK586.out 12).trans rfl; have hcz48_13 : w45.cell? ⟨gb586, 13, none⟩ = some (.int .i64 0) := (blk_cell BK586.out 13).trans rfl; have hfz48_0 := blk_frozen BK586.out 0; have hfz48_1 := blk_frozen BK586.out 1; have hfz48_2 := blk_frozen BK586.out 2; have hfz48_3 := blk_frozen BK586.out 3; have hfz48_4 := blk_frozen BK586.out 4; have hfz48_5 := blk_frozen BK586.out 5; have hfz48_6 := blk_frozen BK586.out 6; have hfz48_7 := blk_frozen BK586.out 7; have hfz48_8 := blk_frozen BK586.out 8; have hfz48_9 := blk_frozen BK586.out 9; have hfz48_10 := blk_frozen BK586.out 10; have hfz48_11 := blk_frozen BK586.out 11; have hfz48_12 := blk_frozen BK586.out 12; have hfz48_13 := blk_frozen BK586.out 13))
        go_roundg kj38
        case measure => have := HJ3.out; have := HK2.out; have := HJ38.out; omega
        case rel => exact ⟨(wrap64 (x8_2 + 1)), (x582000_2), (x582001_2), (x582002_2), (x582003_2), (x582004_2), (u582000), (by first | rfl | (simp; done) | (simp [*]; done)), H', ⟨by have := HJ3.out; have := HK2.out; have := HJ38.out; omega⟩, ⟨by (with_reducible repeat (first | apply Kd.V_alloc | apply Kd.V_drewN | apply Kd.V_drew)); exact Kd.V_mono (Kd.V_far (p := ⟨gb586, 2, none⟩) (Kd.V_far (p := ⟨gb586, 13, none⟩) (Kd.V_far (p := ⟨gb586, 12, none⟩) (Kd.V_far (p := ⟨gb586, 11, none⟩) (Kd.V_far (p := ⟨gb586, 10, none⟩) (Kd.V_far (p := ⟨gb586, 9, none⟩) (Kd.V_far (p := ⟨gb586, 8, none⟩) (Kd.V_far (p := ⟨gb586, 7, none⟩) (Kd.V_far (p := ⟨gb586, 6, none⟩) (Kd.V_far (p := ⟨gb586, 5, none⟩) (Kd.V_far (p := ⟨gb586, 4, none⟩) (Kd.V_far (p := ⟨gb586, 3, none⟩) (Kd.V_far (p := ⟨gb586, 2, none⟩) (Kd.V_far (p := ⟨gb586, 1, none⟩) (Kd.V_far (p := ⟨gb586, 0, none⟩) (Kd.V_mono HO_582000.out (fun k_ hk => (⟨hk, hk.2⟩ : _ ∧ k_ ≠ gb586))) (fun _ hk => hk.2) (.int .i64 ((rd_T31 l2 x8_2).f0))) (fun _ hk => hk.2) (.int .i64 ((rd_T31 l2 x8_2).f1))) (fun _ hk => hk.2) (.string ((rd_T31 l2 x8_2).f2))) (fun _ hk => hk.2) (.int .i64 ((rd_T31 l2 x8_2).f3))) (fun _ hk => hk.2) (.int .i64 ((rd_T31 l2 x8_2).f4))) (fun _ hk => hk.2) (.string ((rd_T31 l2 x8_2).f5))) (fun _ hk => hk.2) (.bool ((rd_T31 l2 x8_2).f6))) (fun _ hk => hk.2) (.slice A585_7 ((rd_T31 l2 x8_2).f7).length c585_7)) (fun _ hk => hk.2) (.int .u64 ((rd_T31 l2 x8_2).f8))) (fun _ hk => hk.2) (.int .u64 ((rd_T31 l2 x8_2).f9))) (fun _ hk => hk.2) (.int .u64 ((rd_T31 l2 x8_2).f10))) (fun _ hk => hk.2) (.int .i64 ((rd_T31 l2 x8_2).f11))) (fun _ hk => hk.2) (.bool ((rd_T31 l2 x8_2).f12))) (fun _ hk => hk.2) (.int .i64 ((rd_T31 l2 x8_2).f13))) (fun _ hk => hk.2) (.string a1)) (fun _ hk => ⟨hk.1.1.1, hk.1.1.2⟩)⟩, ⟨by (with_reducible repeat (first | refine blk_drewN ?_ _ | refine blk_drew ?_ | refine blk_alloc ?_ _ | refine blk_far ?_ NB568_586.out _)); exact BK568.out⟩, ⟨by (with_reducible repeat (first | refine blk_drewN ?_ _ | refine blk_drew ?_ | refine blk_alloc ?_ _ | refine blk_far ?_ NB581_586.out _)); exact BK581.out⟩, ⟨hb_ HB⟩⟩
       rw [if_neg c44] at H
       have c44b0 : (((rd_T31 l2 x8_2).f0) == 8) = false := beq_eq_false_iff_ne.mpr c44
       have c44b1 : (((rd_T31 l2 x8_2).f0) != 8) = true := bne_iff_ne.mpr c44
       replace H := Option.bind_eq_some_iff.mp H
       obtain ⟨⟨t587, t590, t591, t592, t593, t594, t597⟩, A490, H⟩ := H
       try dsimp only at H
       have A49 := Aside0.mk A490
       clear A490
       by_cases c50 : t597 = 1
       ·rw [if_pos c50] at H
        have c50b0 : (t597 == 1) = true := beq_iff_eq.mpr c50
        have c50b1 : (t597 != 1) = false := bne_eq_false_iff_eq.mpr c50
        clear c50
        exact absurd ((Option.some.inj H).trans HT0.out) (by decide)
       rw [if_neg c50] at H
       have c50b0 : (t597 == 1) = false := beq_eq_false_iff_ne.mpr c50
       have c50b1 : (t597 != 1) = true := bne_iff_ne.mpr c50
       by_cases c51 : (t594.length : Int) > 0
       ·rw [if_pos c51] at H
        have c51b0 : decide (0 < (t594.length : Int)) = true := decide_eq_true c51
        have c51b1 : decide (0 < t594.length) = true := decide_eq_true (by omega)
        clear c51
        exact absurd ((Option.some.inj H).trans HT0.out) (by decide)
       rw [if_neg c51] at H
       have c51b0 : decide (0 < (t594.length : Int)) = false := decide_eq_false c51
       have c51b1 : decide (0 < t594.length) = false := decide_eq_false (by omega)
       clear c51
       replace H := Option.bind_eq_some_iff.mp H
       obtain ⟨t599, A520, H⟩ := H
       try dsimp only at H
       have A52 := Aside0.mk A520
       clear A520
       refine neg_first (p := (t599 = true)) (fun c53 => ?_) (fun c53 => ?_)
       ·replace c53 := Bool.eq_false_iff.mpr c53
        subst c53
        have H1 := H
        rw [if_neg (show ¬ (false = true) by decide)] at H1
        clear H
        have H := H1
        clear H1
        exact absurd ((Option.some.inj H).trans HT0.out) (by decide)
       subst c53
       have H1 := H
       rw [if_pos rfl] at H1
       clear H
       have H := H1
       clear H1
       have H' := Aside0.mk H
       clear H
       have p585 : 0 ≤ (x8_2 : Int) := of_decide_eq_true (by first | (with_reducible assumption) | assumption)
       have q585 : x8_2 < (l2.length : Int) := of_decide_eq_true (by first | (with_reducible assumption) | assumption)
       obtain ⟨ad585, A585_7, c585_7, e585, hx585_0, hx585_1, hx585_2, hx585_3, hx585_4, hx585_5, hx585_6, hx585_7, hx585_8, hx585_9, hx585_10, hx585_11, hx585_12, hx585_13, hl585_7, hi585_7⟩ := at_T31 HR2.out x8_2 p585 q585
       cases e585
       replace hx585_0 := (HB.out.cell (World.block_lt_of_cell? w _ hx585_0)).trans hx585_0
       replace hx585_1 := (HB.out.cell (World.block_lt_of_cell? w _ hx585_1)).trans hx585_1
       replace hx585_2 := (HB.out.cell (World.block_lt_of_cell? w _ hx585_2)).trans hx585_2
       replace hx585_3 := (HB.out.cell (World.block_lt_of_cell? w _ hx585_3)).trans hx585_3
       replace hx585_4 := (HB.out.cell (World.block_lt_of_cell? w _ hx585_4)).trans hx585_4
       replace hx585_5 := (HB.out.cell (World.block_lt_of_cell? w _ hx585_5)).trans hx585_5
       replace hx585_6 := (HB.out.cell (World.block_lt_of_cell? w _ hx585_6)).trans hx585_6
       replace hx585_7 := (HB.out.cell (World.block_lt_of_cell? w _ hx585_7)).trans hx585_7
       replace hx585_8 := (HB.out.cell (World.block_lt_of_cell? w _ hx585_8)).trans hx585_8
       replace hx585_9 := (HB.out.cell (World.block_lt_of_cell? w _ hx585_9)).trans hx585_9
       replace hx585_10 := (HB.out.cell (World.block_lt_of_cell? w _ hx585_10)).trans hx585_10
       replace hx585_11 := (HB.out.cell (World.block_lt_of_cell? w _ hx585_11)).trans hx585_11
       replace hx585_12 := (HB.out.cell (World.block_lt_of_cell? w _ hx585_12)).trans hx585_12
       replace hx585_13 := (HB.out.cell (World.block_lt_of_cell? w _ hx585_13)).trans hx585_13
       have HR585_7 := Aside0.mk hi585_7
       have HC585_7 := Aside0.mk hl585_7
       clear hi585_7 hl585_7
       replace p585 := eq_true p585
       replace q585 := eq_true q585
       go_wp2_with (first | ((with_reducible refine gate_dst (N := 9) rfl ?_); refine box_event ?hg (N := 9) ?hd (cs := #[.int .i64 0, .int .i64 0, .string (⟨#[]⟩ : ByteArray), .int .i64 0, .int .i64 0, .string (⟨#[]⟩ : ByteArray), .bool false, .slice none 0 0, .int .u64 0, .int .u64 0, .int .u64 0, .int .i64 0, .bool false, .int .i64 0]) (t := 31) ?hr ?_; (case hd => rfl); (case hg => rfl); (case hr => first | (go_simp; done) | (go_simp; rfl)); intro gb586 hg w54 hbox hb; have n0_ := Aside0.mk (Kd.V_below (Kd.V_elderB (by (with_reducible repeat (first | apply Kd.V_alloc | apply Kd.V_drewN | apply Kd.V_drew)); exact HO_582000.out) gb586 (Nat.le_of_eq hg.symm)) hb); have n1_ := Aside0.mk (blk_below (bk_ BK568) hb); have n2_ := Aside0.mk (blk_below (bk_ BK581) hb); have n3_ := Aside0.mk (below_step (hb_ HB) hb); have n4_ := Aside0.mk (hbox); have n5_ := Aside0.mk ((by rw [hg]; exact (below_size (hb_ HB)) : w.heap.size ≤ gb586)); have n6_ := Aside0.mk ((by rw [hg]; exact (below_size (hb_ HB)) : w.heap.size ≤ gb586)); have n7_ := Aside0.mk ((by rw [hg]; exact Nat.ne_of_lt (blk_lt (g := gb568) (o := .cells #[.slice A0_0 l0_0.length c0_0, .int .i64 a0_1, .string a0_2, .int .u32 a0_3, .bool a0_4] 27 (0, 0)) (bk_ BK568)) : gb568 ≠ gb586)); have n8_ := Aside0.mk ((by rw [hg]; exact Nat.ne_of_gt (blk_lt (g := gb568) (o := .cells #[.slice A0_0 l0_0.length c0_0, .int .i64 a0_1, .string a0_2, .int .u32 a0_3, .bool a0_4] 27 (0, 0)) (bk_ BK568)) : gb586 ≠ gb568)); have n9_ := Aside0.mk ((by rw [hg]; exact Nat.ne_of_lt (blk_lt (g := gb581) (o := .cells #[u582000, .int .i64 x582001_2, .string x582002_2, .int .u32 x582003_2, .bool x582004_2] 27 (0, 0)) (bk_ BK581)) : gb581 ≠ gb586)); have n10_ := Aside0.mk ((by rw [hg]; exact Nat.ne_of_gt (blk_lt (g := gb581) (o := .cells #[u582000, .int .i64 x582001_2, .string x582002_2, .int .u32 x582003_2, .bool x582004_2] 27 (0, 0)) (bk_ BK581)) : gb586 ≠ gb581)); clear HO_582000; clear BK568; clear BK581; clear HB; have HO_582000 := n0_; have BK568 := n1_; have BK581 := n2_; have HB := n3_; have BK586 := n4_; have GW586 := n5_; have GE586 := n6_; have NB568_586 := n7_; have NB586_568 := n8_; have NB581_586 := n9_; have NB586_581 := n10_; clear n0_ n1_ n2_ n3_ n4_ n5_ n6_ n7_ n8_ n9_ n10_; clear hb hbox hg; have hnb55 := NB586_568.out; have hnc55 := NB568_586.out; have hnb56 := NB586_581.out; have hnc56 := NB581_586.out; have hcz57_0 : w54.cell? ⟨gb586, 0, none⟩ = some (.int .i64 0) := (blk_cell BK586.out 0).trans rfl; have hcz57_1 : w54.cell? ⟨gb586, 1, none⟩ = some (.int .i64 0) := (blk_cell BK586.out 1).trans rfl; have hcz57_2 : w54.cell? ⟨gb586, 2, none⟩ = some (.string (⟨#[]⟩ : ByteArray)) := (blk_cell BK586.out 2).trans rfl; have hcz57_3 : w54.cell? ⟨gb586, 3, none⟩ = some (.int .i64 0) := (blk_cell BK586.out 3).trans rfl; have hcz57_4 : w54.cell? ⟨gb586, 4, none⟩ = some (.int .i64 0) := (blk_cell BK586.out 4).trans rfl; have hcz57_5 : w54.cell? ⟨gb586, 5, none⟩ = some (.string (⟨#[]⟩ : ByteArray)) := (blk_cell BK586.out 5).trans rfl; have hcz57_6 : w54.cell? ⟨gb586, 6, none⟩ = some (.bool false) := (blk_cell BK586.out 6).trans rfl; have hcz57_7 : w54.cell? ⟨gb586, 7, none⟩ = some (.slice none 0 0) := (blk_cell BK586.out 7).trans rfl; have hcz57_8 : w54.cell? ⟨gb586, 8, none⟩ = some (.int .u64 0) := (blk_cell BK586.out 8).trans rfl; have hcz57_9 : w54.cell? ⟨gb586, 9, none⟩ = some (.int .u64 0) := (blk_cell BK586.out 9).trans rfl; have hcz57_10 : w54.cell? ⟨gb586, 10, none⟩ = some (.int .u64 0) := (blk_cell BK586.out 10).trans rfl; have hcz57_11 : w54.cell? ⟨gb586, 11, none⟩ = some (.int .i64 0) := (blk_cell BK586.out 11).trans rfl; have hcz57_12 : w54.cell? ⟨gb586, 12, none⟩ = some (.bool false) := (blk_cell BK586.out 12).trans rfl; have hcz57_13 : w54.cell? ⟨gb586, 13, none⟩ = some (.int .i64 0) := (blk_cell BK586.out 13).trans rfl; have hfz57_0 := blk_frozen BK586.out 0; have hfz57_1 := blk_frozen BK586.out 1; have hfz57_2 := blk_frozen BK586.out 2; have hfz57_3 := blk_frozen BK586.out 3; have hfz57_4 := blk_frozen BK586.out 4; have hfz57_5 := blk_frozen BK586.out 5; have hfz57_6 := blk_frozen BK586.out 6; have hfz57_7 := blk_frozen BK586.out 7; have hfz57_8 := blk_frozen BK586.out 8; have hfz57_9 := blk_frozen BK586.out 9; have hfz57_10 := blk_frozen BK586.out 10; have hfz57_11 := blk_frozen BK586.out 11; have hfz57_12 := blk_frozen BK586.out 12; have hfz57_13 := blk_frozen BK586.out 13) | ((with_reducible refine gate_store (t := 31) (p := 9) rfl ?_); refine store_event (t := 31) (p := 9) (v := ?vo_w58) (w1 := ((((((((((((((w54.setCell ⟨gb586, 0, none⟩ (.int .i64 ((rd_T31 l2 x8_2).f0))).setCell ⟨gb586, 1, none⟩ (.int .i64 ((rd_T31 l2 x8_2).f1))).setCell ⟨gb586, 2, none⟩ (.string ((rd_T31 l2 x8_2).f2))).setCell ⟨gb586, 3, none⟩ (.int .i64 ((rd_T31 l2 x8_2).f3))).setCell ⟨gb586, 4, none⟩ (.int .i64 ((rd_T31 l2 x8_2).f4))).setCell ⟨gb586, 5, none⟩ (.string ((rd_T31 l2 x8_2).f5))).setCell ⟨gb586, 6, none⟩ (.bool ((rd_T31 l2 x8_2).f6))).setCell ⟨gb586, 7, none⟩ (.slice A585_7 ((rd_T31 l2 x8_2).f7).length c585_7)).setCell ⟨gb586, 8, none⟩ (.int .u64 ((rd_T31 l2 x8_2).f8))).setCell ⟨gb586, 9, none⟩ (.int .u64 ((rd_T31 l2 x8_2).f9))).setCell ⟨gb586, 10, none⟩ (.int .u64 ((rd_T31 l2 x8_2).f10))).setCell ⟨gb586, 11, none⟩ (.int .i64 ((rd_T31 l2 x8_2).f11))).setCell ⟨gb586, 12, none⟩ (.bool ((rd_T31 l2 x8_2).f12))).setCell ⟨gb586, 13, none⟩ (.int .i64 ((rd_T31 l2 x8_2).f13)))) ?hg ?ho ?hn ?hr ?_; (case ho => rfl); (case hg => rfl); (case hn => rfl); (case hr => first | (go_simp; done) | (go_simp; rfl)); intro w58 hw; have n0_ : Aside0 (Kd.V k53 53 w58 w.heap.size (fun k_ => k_ ≠ gb568 ∧ k_ ≠ gb581 ∧ k_ ≠ gb586) u582000 x582000_2) := ⟨(by rw [hw]; exact (by (with_reducible repeat (first | apply Kd.V_alloc | apply Kd.V_drewN | apply Kd.V_drew)); exact Kd.V_mono (Kd.V_far (p := ⟨gb586, 13, none⟩) (Kd.V_far (p := ⟨gb586, 12, none⟩) (Kd.V_far (p := ⟨gb586, 11, none⟩) (Kd.V_far (p := ⟨gb586, 10, none⟩) (Kd.V_far (p := ⟨gb586, 9, none⟩) (Kd.V_far (p := ⟨gb586, 8, none⟩) (Kd.V_far (p := ⟨gb586, 7, none⟩) (Kd.V_far (p := ⟨gb586, 6, none⟩) (Kd.V_far (p := ⟨gb586, 5, none⟩) (Kd.V_far (p := ⟨gb586, 4, none⟩) (Kd.V_far (p := ⟨gb586, 3, none⟩) (Kd.V_far (p := ⟨gb586, 2, none⟩) (Kd.V_far (p := ⟨gb586, 1, none⟩) (Kd.V_far (p := ⟨gb586, 0, none⟩) (Kd.V_mono HO_582000.out (fun k_ hk => (⟨hk, hk.2⟩ : _ ∧ k_ ≠ gb586))) (fun _ hk => hk.2) (.int .i64 ((rd_T31 l2 x8_2).f0))) (fun _ hk => hk.2) (.int .i64 ((rd_T31 l2 x8_2).f1))) (fun _ hk => hk.2) (.string ((rd_T31 l2 x8_2).f2))) (fun _ hk => hk.2) (.int .i64 ((rd_T31 l2 x8_2).f3))) (fun _ hk => hk.2) (.int .i64 ((rd_T31 l2 x8_2).f4))) (fun _ hk => hk.2) (.string ((rd_T31 l2 x8_2).f5))) (fun _ hk => hk.2) (.bool ((rd_T31 l2 x8_2).f6))) (fun _ hk => hk.2) (.slice A585_7 ((rd_T31 l2 x8_2).f7).length c585_7)) (fun _ hk => hk.2) (.int .u64 ((rd_T31 l2 x8_2).f8))) (fun _ hk => hk.2) (.int .u64 ((rd_T31 l2 x8_2).f9))) (fun _ hk => hk.2) (.int .u64 ((rd_T31 l2 x8_2).f10))) (fun _ hk => hk.2) (.int .i64 ((rd_T31 l2 x8_2).f11))) (fun _ hk => hk.2) (.bool ((rd_T31 l2 x8_2).f12))) (fun _ hk => hk.2) (.int .i64 ((rd_T31 l2 x8_2).f13))) (fun _ hk => ⟨hk.1.1.1, ⟨hk.1.1.2, hk.1.2⟩⟩)))⟩; have n1_ : Aside0 (w58.heap[gb568]? = some (.cells #[.slice A0_0 l0_0.length c0_0, .int .i64 a0_1, .string a0_2, .int .u32 a0_3, .bool a0_4] 27 (0, 0))) := ⟨(by rw [hw]; exact (by (with_reducible repeat (first | refine blk_drewN ?_ _ | refine blk_drew ?_ | refine blk_alloc ?_ _ | refine blk_far ?_ NB568_586.out _)); exact BK568.out))⟩; have n2_ : Aside0 (w58.heap[gb581]? = some (.cells #[u582000, .int .i64 x582001_2, .string x582002_2, .int .u32 x582003_2, .bool x582004_2] 27 (0, 0))) := ⟨(by rw [hw]; exact (by (with_reducible repeat (first | refine blk_drewN ?_ _ | refine blk_drew ?_ | refine blk_alloc ?_ _ | refine blk_far ?_ NB581_586.out _)); exact BK581.out))⟩; have n3_ : Aside0 (w58.heap[gb586]? = some (.cells #[.int .i64 ((rd_T31 l2 x8_2).f0), .int .i64 ((rd_T31 l2 x8_2).f1), .string ((rd_T31 l2 x8_2).f2), .int .i64 ((rd_T31 l2 x8_2).f3), .int .i64 ((rd_T31 l2 x8_2).f4), .string ((rd_T31 l2 x8_2).f5), .bool ((rd_T31 l2 x8_2).f6), .slice A585_7 ((rd_T31 l2 x8_2).f7).length c585_7, .int .u64 ((rd_T31 l2 x8_2).f8), .int .u64 ((rd_T31 l2 x8_2).f9), .int .u64 ((rd_T31 l2 x8_2).f10), .int .i64 ((rd_T31 l2 x8_2).f11), .bool ((rd_T31 l2 x8_2).f12), .int .i64 ((rd_T31 l2 x8_2).f13)] 31 (0, 0))) := ⟨(by rw [hw]; exact (by (with_reducible repeat (first | refine blk_drewN ?_ _ | refine blk_drew ?_ | refine blk_alloc ?_ _)); refine blk_put (cs := #[.int .i64 ((rd_T31 l2 x8_2).f0), .int .i64 ((rd_T31 l2 x8_2).f1), .string ((rd_T31 l2 x8_2).f2), .int .i64 ((rd_T31 l2 x8_2).f3), .int .i64 ((rd_T31 l2 x8_2).f4), .string ((rd_T31 l2 x8_2).f5), .bool ((rd_T31 l2 x8_2).f6), .slice A585_7 ((rd_T31 l2 x8_2).f7).length c585_7, .int .u64 ((rd_T31 l2 x8_2).f8), .int .u64 ((rd_T31 l2 x8_2).f9), .int .u64 ((rd_T31 l2 x8_2).f10), .int .i64 ((rd_T31 l2 x8_2).f11), .bool ((rd_T31 l2 x8_2).f12), .int .i64 0]) ?_ 13 _ rfl; (with_reducible repeat (first | refine blk_drewN ?_ _ | refine blk_drew ?_ | refine blk_alloc ?_ _)); refine blk_put (cs := #[.int .i64 ((rd_T31 l2 x8_2).f0), .int .i64 ((rd_T31 l2 x8_2).f1), .string ((rd_T31 l2 x8_2).f2), .int .i64 ((rd_T31 l2 x8_2).f3), .int .i64 ((rd_T31 l2 x8_2).f4), .string ((rd_T31 l2 x8_2).f5), .bool ((rd_T31 l2 x8_2).f6), .slice A585_7 ((rd_T31 l2 x8_2).f7).length c585_7, .int .u64 ((rd_T31 l2 x8_2).f8), .int .u64 ((rd_T31 l2 x8_2).f9), .int .u64 ((rd_T31 l2 x8_2).f10), .int .i64 ((rd_T31 l2 x8_2).f11), .bool false, .int .i64 0]) ?_ 12 _ rfl; (with_reducible repeat (first | refine blk_drewN ?_ _ | refine blk_drew ?_ | refine blk_alloc ?_ _)); refine blk_put (cs := #[.int .i64 ((rd_T31 l2 x8_2).f0), .int .i64 ((rd_T31 l2 x8_2).f1), .string ((rd_T31 l2 x8_2).f2), .int .i64 ((rd_T31 l2 x8_2).f3), .int .i64 ((rd_T31 l2 x8_2).f4), .string ((rd_T31 l2 x8_2).f5), .bool ((rd_T31 l2 x8_2).f6), .slice A585_7 ((rd_T31 l2 x8_2).f7).length c585_7, .int .u64 ((rd_T31 l2 x8_2).f8), .int .u64 ((rd_T31 l2 x8_2).f9), .int .u64 ((rd_T31 l2 x8_2).f10), .int .i64 0, .bool false, .int .i64 0]) ?_ 11 _ rfl; (with_reducible repeat (first | refine blk_drewN ?_ _ | refine blk_drew ?_ | refine blk_alloc ?_ _)); refine blk_put (cs := #[.int .i64 ((rd_T31 l2 x8_2).f0), .int .i64 ((rd_T31 l2 x8_2).f1), .string ((rd_T31 l2 x8_2).f2), .int .i64 ((rd_T31 l2 x8_2).f3), .int .i64 ((rd_T31 l2 x8_2).f4), .string ((rd_T31 l2 x8_2).f5), .bool ((rd_T31 l2 x8_2).f6), .slice A585_7 ((rd_T31 l2 x8_2).f7).length c585_7, .int .u64 ((rd_T31 l2 x8_2).f8), .int .u64 ((rd_T31 l2 x8_2).f9), .int .u64 0, .int .i64 0, .bool false, .int .i64 0]) ?_ 10 _ rfl; (with_reducible repeat (first | refine blk_drewN ?_ _ | refine blk_drew ?_ | refine blk_alloc ?_ _)); refine blk_put (cs := #[.int .i64 ((rd_T31 l2 x8_2).f0), .int .i64 ((rd_T31 l2 x8_2).f1), .string ((rd_T31 l2 x8_2).f2), .int .i64 ((rd_T31 l2 x8_2).f3), .int .i64 ((rd_T31 l2 x8_2).f4), .string ((rd_T31 l2 x8_2).f5), .bool ((rd_T31 l2 x8_2).f6), .slice A585_7 ((rd_T31 l2 x8_2).f7).length c585_7, .int .u64 ((rd_T31 l2 x8_2).f8), .int .u64 0, .int .u64 0, .int .i64 0, .bool false, .int .i64 0]) ?_ 9 _ rfl; (with_reducible repeat (first | refine blk_drewN ?_ _ | refine blk_drew ?_ | refine blk_alloc ?_ _)); refine blk_put (cs := #[.int .i64 ((rd_T31 l2 x8_2).f0), .int .i64 ((rd_T31 l2 x8_2).f1), .string ((rd_T31 l2 x8_2).f2), .int .i64 ((rd_T31 l2 x8_2).f3), .int .i64 ((rd_T31 l2 x8_2).f4), .string ((rd_T31 l2 x8_2).f5), .bool ((rd_T31 l2 x8_2).f6), .slice A585_7 ((rd_T31 l2 x8_2).f7).length c585_7, .int .u64 0, .int .u64 0, .int .u64 0, .int .i64 0, .bool false, .int .i64 0]) ?_ 8 _ rfl; (with_reducible repeat (first | refine blk_drewN ?_ _ | refine blk_drew ?_ | refine blk_alloc ?_ _)); refine blk_put (cs := #[.int .i64 ((rd_T31 l2 x8_2).f0), .int .i64 ((rd_T31 l2 x8_2).f1), .string ((rd_T31 l2 x8_2).f2), .int .i64 ((rd_T31 l2 x8_2).f3), .int .i64 ((rd_T31 l2 x8_2).f4), .string ((rd_T31 l2 x8_2).f5), .bool ((rd_T31 l2 x8_2).f6), .slice none 0 0, .int .u64 0, .int .u64 0, .int .u64 0, .int .i64 0, .bool false, .int .i64 0]) ?_ 7 _ rfl; (with_reducible repeat (first | refine blk_drewN ?_ _ | refine blk_drew ?_ | refine blk_alloc ?_ _)); refine blk_put (cs := #[.int .i64 ((rd_T31 l2 x8_2).f0), .int .i64 ((rd_T31 l2 x8_2).f1), .string ((rd_T31 l2 x8_2).f2), .int .i64 ((rd_T31 l2 x8_2).f3), .int .i64 ((rd_T31 l2 x8_2).f4), .string ((rd_T31 l2 x8_2).f5), .bool false, .slice none 0 0, .int .u64 0, .int .u64 0, .int .u64 0, .int .i64 0, .bool false, .int .i64 0]) ?_ 6 _ rfl; (with_reducible repeat (first | refine blk_drewN ?_ _ | refine blk_drew ?_ | refine blk_alloc ?_ _)); refine blk_put (cs := #[.int .i64 ((rd_T31 l2 x8_2).f0), .int .i64 ((rd_T31 l2 x8_2).f1), .string ((rd_T31 l2 x8_2).f2), .int .i64 ((rd_T31 l2 x8_2).f3), .int .i64 ((rd_T31 l2 x8_2).f4), .string (⟨#[]⟩ : ByteArray), .bool false, .slice none 0 0, .int .u64 0, .int .u64 0, .int .u64 0, .int .i64 0, .bool false, .int .i64 0]) ?_ 5 _ rfl; (with_reducible repeat (first | refine blk_drewN ?_ _ | refine blk_drew ?_ | refine blk_alloc ?_ _)); refine blk_put (cs := #[.int .i64 ((rd_T31 l2 x8_2).f0), .int .i64 ((rd_T31 l2 x8_2).f1), .string ((rd_T31 l2 x8_2).f2), .int .i64 ((rd_T31 l2 x8_2).f3), .int .i64 0, .string (⟨#[]⟩ : ByteArray), .bool false, .slice none 0 0, .int .u64 0, .int .u64 0, .int .u64 0, .int .i64 0, .bool false, .int .i64 0]) ?_ 4 _ rfl; (with_reducible repeat (first | refine blk_drewN ?_ _ | refine blk_drew ?_ | refine blk_alloc ?_ _)); refine blk_put (cs := #[.int .i64 ((rd_T31 l2 x8_2).f0), .int .i64 ((rd_T31 l2 x8_2).f1), .string ((rd_T31 l2 x8_2).f2), .int .i64 0, .int .i64 0, .string (⟨#[]⟩ : ByteArray), .bool false, .slice none 0 0, .int .u64 0, .int .u64 0, .int .u64 0, .int .i64 0, .bool false, .int .i64 0]) ?_ 3 _ rfl; (with_reducible repeat (first | refine blk_drewN ?_ _ | refine blk_drew ?_ | refine blk_alloc ?_ _)); refine blk_put (cs := #[.int .i64 ((rd_T31 l2 x8_2).f0), .int .i64 ((rd_T31 l2 x8_2).f1), .string (⟨#[]⟩ : ByteArray), .int .i64 0, .int .i64 0, .string (⟨#[]⟩ : ByteArray), .bool false, .slice none 0 0, .int .u64 0, .int .u64 0, .int .u64 0, .int .i64 0, .bool false, .int .i64 0]) ?_ 2 _ rfl; (with_reducible repeat (first | refine blk_drewN ?_ _ | refine blk_drew ?_ | refine blk_alloc ?_ _)); refine blk_put (cs := #[.int .i64 ((rd_T31 l2 x8_2).f0), .int .i64 0, .string (⟨#[]⟩ : ByteArray), .int .i64 0, .int .i64 0, .string (⟨#[]⟩ : ByteArray), .bool false, .slice none 0 0, .int .u64 0, .int .u64 0, .int .u64 0, .int .i64 0, .bool false, .int .i64 0]) ?_ 1 _ rfl; (with_reducible repeat (first | refine blk_drewN ?_ _ | refine blk_drew ?_ | refine blk_alloc ?_ _)); refine blk_put (cs := #[.int .i64 0, .int .i64 0, .string (⟨#[]⟩ : ByteArray), .int .i64 0, .int .i64 0, .string (⟨#[]⟩ : ByteArray), .bool false, .slice none 0 0, .int .u64 0, .int .u64 0, .int .u64 0, .int .i64 0, .bool false, .int .i64 0]) ?_ 0 _ rfl; (with_reducible repeat (first | refine blk_drewN ?_ _ | refine blk_drew ?_ | refine blk_alloc ?_ _)); exact BK586.out))⟩; have n4_ : Aside0 (Below w.heap.size w w58) := ⟨(by rw [hw]; exact (hb_ HB))⟩; clear hw; clear HO_582000; clear BK568; clear BK581; clear BK586; clear HB; have HO_582000 := n0_; have BK568 := n1_; have BK581 := n2_; have BK586 := n3_; have HB := n4_; clear n0_ n1_ n2_ n3_ n4_; have hcz59_0 : w58.cell? ⟨gb586, 0, none⟩ = some (.int .i64 ((rd_T31 l2 x8_2).f0)) := (blk_cell BK586.out 0).trans rfl; have hcz59_1 : w58.cell? ⟨gb586, 1, none⟩ = some (.int .i64 ((rd_T31 l2 x8_2).f1)) := (blk_cell BK586.out 1).trans rfl; have hcz59_2 : w58.cell? ⟨gb586, 2, none⟩ = some (.string ((rd_T31 l2 x8_2).f2)) := (blk_cell BK586.out 2).trans rfl; have hcz59_3 : w58.cell? ⟨gb586, 3, none⟩ = some (.int .i64 ((rd_T31 l2 x8_2).f3)) := (blk_cell BK586.out 3).trans rfl; have hcz59_4 : w58.cell? ⟨gb586, 4, none⟩ = some (.int .i64 ((rd_T31 l2 x8_2).f4)) := (blk_cell BK586.out 4).trans rfl; have hcz59_5 : w58.cell? ⟨gb586, 5, none⟩ = some (.string ((rd_T31 l2 x8_2).f5)) := (blk_cell BK586.out 5).trans rfl; have hcz59_6 : w58.cell? ⟨gb586, 6, none⟩ = some (.bool ((rd_T31 l2 x8_2).f6)) := (blk_cell BK586.out 6).trans rfl; have hcz59_7 : w58.cell? ⟨gb586, 7, none⟩ = some (.slice A585_7 ((rd_T31 l2 x8_2).f7).length c585_7) := (blk_cell BK586.out 7).trans rfl; have hcz59_8 : w58.cell? ⟨gb586, 8, none⟩ = some (.int .u64 ((rd_T31 l2 x8_2).f8)) := (blk_cell BK586.out 8).trans rfl; have hcz59_9 : w58.cell? ⟨gb586, 9, none⟩ = some (.int .u64 ((rd_T31 l2 x8_2).f9)) := (blk_cell BK586.out 9).trans rfl; have hcz59_10 : w58.cell? ⟨gb586, 10, none⟩ = some (.int .u64 ((rd_T31 l2 x8_2).f10)) := (blk_cell BK586.out 10).trans rfl; have hcz59_11 : w58.cell? ⟨gb586, 11, none⟩ = some (.int .i64 ((rd_T31 l2 x8_2).f11)) := (blk_cell BK586.out 11).trans rfl; have hcz59_12 : w58.cell? ⟨gb586, 12, none⟩ = some (.bool ((rd_T31 l2 x8_2).f12)) := (blk_cell BK586.out 12).trans rfl; have hcz59_13 : w58.cell? ⟨gb586, 13, none⟩ = some (.int .i64 ((rd_T31 l2 x8_2).f13)) := (blk_cell BK586.out 13).trans rfl; have hfz59_0 := blk_frozen BK586.out 0; have hfz59_1 := blk_frozen BK586.out 1; have hfz59_2 := blk_frozen BK586.out 2; have hfz59_3 := blk_frozen BK586.out 3; have hfz59_4 := blk_frozen BK586.out 4; have hfz59_5 := blk_frozen BK586.out 5; have hfz59_6 := blk_frozen BK586.out 6; have hfz59_7 := blk_frozen BK586.out 7; have hfz59_8 := blk_frozen BK586.out 8; have hfz59_9 := blk_frozen BK586.out 9; have hfz59_10 := blk_frozen BK586.out 10; have hfz59_11 := blk_frozen BK586.out 11; have hfz59_12 := blk_frozen BK586.out 12; have hfz59_13 := blk_frozen BK586.out 13) | ((with_reducible refine gate_store (t := 9) (p := 49) rfl ?_); refine store_event (t := 9) (p := 49) (v := ?vo_w60) (w1 := (w58.setCell ⟨gb586, 2, none⟩ (.string a1))) ?hg ?ho ?hn ?hr ?_; (case ho => rfl); (case hg => rfl); (case hn => rfl); (case hr => first | (go_simp; done) | (go_simp; rfl)); intro w60 hw; have n0_ : Aside0 (Kd.V k53 53 w60 w.heap.size (fun k_ => k_ ≠ gb568 ∧ k_ ≠ gb581 ∧ k_ ≠ gb586) u582000 x582000_2) := ⟨(by rw [hw]; exact (by (with_reducible repeat (first | apply Kd.V_alloc | apply Kd.V_drewN | apply Kd.V_drew)); exact Kd.V_mono (Kd.V_far (p := ⟨gb586, 2, none⟩) (Kd.V_mono HO_582000.out (fun k_ hk => (⟨hk, hk.2.2⟩ : _ ∧ k_ ≠ gb586))) (fun _ hk => hk.2) (.string a1)) (fun _ hk => ⟨hk.1.1, ⟨hk.1.2.1, hk.1.2.2⟩⟩)))⟩; have n1_ : Aside0 (w60.heap[gb568]? = some (.cells #[.slice A0_0 l0_0.length c0_0, .int .i64 a0_1, .string a0_2, .int .u32 a0_3, .bool a0_4] 27 (0, 0))) := ⟨(by rw [hw]; exact (by (with_reducible repeat (first | refine blk_drewN ?_ _ | refine blk_drew ?_ | refine blk_alloc ?_ _ | refine blk_far ?_ NB568_586.out _)); exact BK568.out))⟩; have n2_ : Aside0 (w60.heap[gb581]? = some (.cells #[u582000, .int .i64 x582001_2, .string x582002_2, .int .u32 x582003_2, .bool x582004_2] 27 (0, 0))) := ⟨(by rw [hw]; exact (by (with_reducible repeat (first | refine blk_drewN ?_ _ | refine blk_drew ?_ | refine blk_alloc ?_ _ | refine blk_far ?_ NB581_586.out _)); exact BK581.out))⟩; have n3_ : Aside0 (w60.heap[gb586]? = some (.cells #[.int .i64 ((rd_T31 l2 x8_2).f0), .int .i64 ((rd_T31 l2 x8_2).f1), .string a1, .int .i64 ((rd_T31 l2 x8_2).f3), .int .i64 ((rd_T31 l2 x8_2).f4), .string ((rd_T31 l2 x8_2).f5), .bool ((rd_T31 l2 x8_2).f6), .slice A585_7 ((rd_T31 l2 x8_2).f7).length c585_7, .int .u64 ((rd_T31 l2 x8_2).f8), .int .u64 ((rd_T31 l2 x8_2).f9), .int .u64 ((rd_T31 l2 x8_2).f10), .int .i64 ((rd_T31 l2 x8_2).f11), .bool ((rd_T31 l2 x8_2).f12), .int .i64 ((rd_T31 l2 x8_2).f13)] 31 (0, 0))) := ⟨(by rw [hw]; exact (by (with_reducible repeat (first | refine blk_drewN ?_ _ | refine blk_drew ?_ | refine blk_alloc ?_ _)); refine blk_put (cs := #[.int .i64 ((rd_T31 l2 x8_2).f0), .int .i64 ((rd_T31 l2 x8_2).f1), .string ((rd_T31 l2 x8_2).f2), .int .i64 ((rd_T31 l2 x8_2).f3), .int .i64 ((rd_T31 l2 x8_2).f4), .string ((rd_T31 l2 x8_2).f5), .bool ((rd_T31 l2 x8_2).f6), .slice A585_7 ((rd_T31 l2 x8_2).f7).length c585_7, .int .u64 ((rd_T31 l2 x8_2).f8), .int .u64 ((rd_T31 l2 x8_2).f9), .int .u64 ((rd_T31 l2 x8_2).f10), .int .i64 ((rd_T31 l2 x8_2).f11), .bool ((rd_T31 l2 x8_2).f12), .int .i64 ((rd_T31 l2 x8_2).f13)]) ?_ 2 _ rfl; (with_reducible repeat (first | refine blk_drewN ?_ _ | refine blk_drew ?_ | refine blk_alloc ?_ _)); exact BK586.out))⟩; have n4_ : Aside0 (Below w.heap.size w w60) := ⟨(by rw [hw]; exact (hb_ HB))⟩; clear hw; clear HO_582000; clear BK568; clear BK581; clear BK586; clear HB; have HO_582000 := n0_; have BK568 := n1_; have BK581 := n2_; have BK586 := n3_; have HB := n4_; clear n0_ n1_ n2_ n3_ n4_; have hcz61_0 : w60.cell? ⟨gb586, 0, none⟩ = some (.int .i64 ((rd_T31 l2 x8_2).f0)) := (blk_cell BK586.out 0).trans rfl; have hcz61_1 : w60.cell? ⟨gb586, 1, none⟩ = some (.int .i64 ((rd_T31 l2 x8_2).f1)) := (blk_cell BK586.out 1).trans rfl; have hcz61_2 : w60.cell? ⟨gb586, 2, none⟩ = some (.string a1) := (blk_cell BK586.out 2).trans rfl; have hcz61_3 : w60.cell? ⟨gb586, 3, none⟩ = some (.int .i64 ((rd_T31 l2 x8_2).f3)) := (blk_cell BK586.out 3).trans rfl; have hcz61_4 : w60.cell? ⟨gb586, 4, none⟩ = some (.int .i64 ((rd_T31 l2 x8_2).f4)) := (blk_cell BK586.out 4).trans rfl; have hcz61_5 : w60.cell? ⟨gb586, 5, none⟩ = some (.string ((rd_T31 l2 x8_2).f5)) := (blk_cell BK586.out 5).trans rfl; have hcz61_6 : w60.cell? ⟨gb586, 6, none⟩ = some (.bool ((rd_T31 l2 x8_2).f6)) := (blk_cell BK586.out 6).trans rfl; have hcz61_7 : w60.cell? ⟨gb586, 7, none⟩ = some (.slice A585_7 ((rd_T31 l2 x8_2).f7).length c585_7) := (blk_cell BK586.out 7).trans rfl; have hcz61_8 : w60.cell? ⟨gb586, 8, none⟩ = some (.int .u64 ((rd_T31 l2 x8_2).f8)) := (blk_cell BK586.out 8).trans rfl; have hcz61_9 : w60.cell? ⟨gb586, 9, none⟩ = some (.int .u64 ((rd_T31 l2 x8_2).f9)) := (blk_cell BK586.out 9).trans rfl; have hcz61_10 : w60.cell? ⟨gb586, 10, none⟩ = some (.int .u64 ((rd_T31 l2 x8_2).f10)) := (blk_cell BK586.out 10).trans rfl; have hcz61_11 : w60.cell? ⟨gb586, 11, none⟩ = some (.int .i64 ((rd_T31 l2 x8_2).f11)) := (blk_cell BK586.out 11).trans rfl; have hcz61_12 : w60.cell? ⟨gb586, 12, none⟩ = some (.bool ((rd_T31 l2 x8_2).f12)) := (blk_cell BK586.out 12).trans rfl; have hcz61_13 : w60.cell? ⟨gb586, 13, none⟩ = some (.int .i64 ((rd_T31 l2 x8_2).f13)) := (blk_cell BK586.out 13).trans rfl; have hfz61_0 := blk_frozen BK586.out 0; have hfz61_1 := blk_frozen BK586.out 1; have hfz61_2 := blk_frozen BK586.out 2; have hfz61_3 := blk_frozen BK586.out 3; have hfz61_4 := blk_frozen BK586.out 4; have hfz61_5 := blk_frozen BK586.out 5; have hfz61_6 := blk_frozen BK586.out 6; have hfz61_7 := blk_frozen BK586.out 7; have hfz61_8 := blk_frozen BK586.out 8; have hfz61_9 := blk_frozen BK586.out 9; have hfz61_10 := blk_frozen BK586.out 10; have hfz61_11 := blk_frozen BK586.out 11; have hfz61_12 := blk_frozen BK586.out 12; have hfz61_13 := blk_frozen BK586.out 13; have hnb62 := NB581_568.out; have hnc62 := NB568_581.out; have hcz63_0 : w60.cell? ⟨gb581, 0, none⟩ = some (u582000) := (blk_cell BK581.out 0).trans rfl; have hcz63_1 : w60.cell? ⟨gb581, 1, none⟩ = some (.int .i64 x582001_2) := (blk_cell BK581.out 1).trans rfl; have hcz63_2 : w60.cell? ⟨gb581, 2, none⟩ = some (.string x582002_2) := (blk_cell BK581.out 2).trans rfl; have hcz63_3 : w60.cell? ⟨gb581, 3, none⟩ = some (.int .u32 x582003_2) := (blk_cell BK581.out 3).trans rfl; have hcz63_4 : w60.cell? ⟨gb581, 4, none⟩ = some (.bool x582004_2) := (blk_cell BK581.out 4).trans rfl; have hfz63_0 := blk_frozen BK581.out 0; have hfz63_1 := blk_frozen BK581.out 1; have hfz63_2 := blk_frozen BK581.out 2; have hfz63_3 := blk_frozen BK581.out 3; have hfz63_4 := blk_frozen BK581.out 4; obtain ⟨Ao64, co64, eo64⟩ := Kd.V_slice HO_582000.out; subst eo64) | ((with_reducible refine gate_callee (f := 15) rfl ?_); refine goesL_ (some 56) rfl rfl Tryd.func15 (by kernel_rfl) rfl #[.agg #[.slice Ao64 x582000_2.length co64, .int .i64 x582001_2, .string x582002_2, .int .u32 x582003_2, .bool x582004_2], .agg #[.int .i64 ((rd_T31 l2 x8_2).f0), .int .i64 ((rd_T31 l2 x8_2).f1), .string a1, .int .i64 ((rd_T31 l2 x8_2).f3), .int .i64 ((rd_T31 l2 x8_2).f4), .string ((rd_T31 l2 x8_2).f5), .bool ((rd_T31 l2 x8_2).f6), .slice A585_7 ((rd_T31 l2 x8_2).f7).length c585_7, .int .u64 ((rd_T31 l2 x8_2).f8), .int .u64 ((rd_T31 l2 x8_2).f9), .int .u64 ((rd_T31 l2 x8_2).f10), .int .i64 ((rd_T31 l2 x8_2).f11), .bool ((rd_T31 l2 x8_2).f12), .int .i64 ((rd_T31 l2 x8_2).f13)]] rfl (by (try simp only [List.map_toArray, List.map_cons, List.map_nil]); first | done | rfl | (simp only [List.length_drop, List.length_take]; rfl)) ?_; (with_reducible refine (resv_Do.calls kj38 (fun k_ => (k_ ≠ gb568 ∧ (k_ ≠ gb581 ∧ k_ ≠ gb586))) _ _ x582000_2 x582001_2 x582002_2 x582003_2 x582004_2 ((rd_T31 l2 x8_2).f0) ((rd_T31 l2 x8_2).f1) a1 ((rd_T31 l2 x8_2).f3) ((rd_T31 l2 x8_2).f4) ((rd_T31 l2 x8_2).f5) ((rd_T31 l2 x8_2).f6) _ _ ((rd_T31 l2 x8_2).f7) ((rd_T31 l2 x8_2).f8) ((rd_T31 l2 x8_2).f9) ((rd_T31 l2 x8_2).f10) ((rd_T31 l2 x8_2).f11) ((rd_T31 l2 x8_2).f12) ((rd_T31 l2 x8_2).f13) t587 t590 t591 t592 t593 t594 t597 _ ?side1 ?side2 ?side3 ?side4 A49.out).mono ?_); (case side1 => exact HO_582000.out); (case side2 => repeat (first | exact (Kd.C_below HR585_7.out HB.out) | (with_reducible refine Kd.C_alloc ?_ _) | (with_reducible refine Kd.C_drewN ?_ _) | (with_reducible refine Kd.C_drew ?_))); (case side3 => exact HC585_7.out); (case side4 => first | ((refine Glob.keep HG.out ?_); (repeat (first | (with_reducible first | exact HB.out | apply below_alloc | apply pw_below_drewN | apply below_drew1 | refine below_set ?_ GE568.out | refine below_set ?_ GE581.out | refine below_set ?_ GE586.out) | exact HB.out)); done) | exact HG.out); rintro e w65 ⟨v588, v595, rfl, ho0, ho1, hb⟩; refine ⟨_, rfl, ?_⟩; have n0_ := Aside0.mk (Kd.V_elder' (by (with_reducible repeat (first | apply Kd.V_alloc | apply Kd.V_drewN | apply Kd.V_drew)); exact HO_582000.out) (Kd.R_base ho1) hb); have n1_ := Aside0.mk (Kd.V_lower (Kd.V_mono (ok' := fun k_ => some k_ ≠ (v595 : Value).ownBlock ∧ k_ ≠ gb568 ∧ k_ ≠ gb581 ∧ k_ ≠ gb586) ho0 (fun k_ hk_ => ⟨hk_.2, Or.elim hk_.1 (fun hs_ => hs_.1) (fun hn_ => (Kd.freshB (g := gb568) (o := .cells #[.slice A0_0 l0_0.length c0_0, .int .i64 a0_1, .string a0_2, .int .u32 a0_3, .bool a0_4] 27 (0, 0)) (bk_ BK568) k_ hn_)), Or.elim hk_.1 (fun hs_ => hs_.2.1) (fun hn_ => (Kd.freshB (g := gb581) (o := .cells #[.slice Ao64 x582000_2.length co64, .int .i64 x582001_2, .string x582002_2, .int .u32 x582003_2, .bool x582004_2] 27 (0, 0)) (bk_ BK581) k_ hn_)), Or.elim hk_.1 (fun hs_ => hs_.2.2) (fun hn_ => (Kd.freshB (g := gb586) (o := .cells #[.int .i64 ((rd_T31 l2 x8_2).f0), .int .i64 ((rd_T31 l2 x8_2).f1), .string a1, .int .i64 ((rd_T31 l2 x8_2).f3), .int .i64 ((rd_T31 l2 x8_2).f4), .string ((rd_T31 l2 x8_2).f5), .bool ((rd_T31 l2 x8_2).f6), .slice A585_7 ((rd_T31 l2 x8_2).f7).length c585_7, .int .u64 ((rd_T31 l2 x8_2).f8), .int .u64 ((rd_T31 l2 x8_2).f9), .int .u64 ((rd_T31 l2 x8_2).f10), .int .i64 ((rd_T31 l2 x8_2).f11), .bool ((rd_T31 l2 x8_2).f12), .int .i64 ((rd_T31 l2 x8_2).f13)] 31 (0, 0)) (bk_ BK586) k_ hn_))⟩)) (below_size (hb_ HB))); have n2_ := Aside0.mk (Kd.R_lower (Kd.R_mono (ok' := fun k_ => True) ho1 (fun _ hk_ => trivial)) (below_size (hb_ HB))); have n3_ := Aside0.mk (blk_below (bk_ BK568) hb); have n4_ := Aside0.mk (blk_below (bk_ BK581) hb); have n5_ := Aside0.mk (blk_below (bk_ BK586) hb); have n6_ := Aside0.mk (below_step (hb_ HB) hb); clear HO_582000; clear BK568; clear BK581; clear BK586; clear HB; have HO_582000 := n0_; have HO589 := n1_; have HO596 := n2_; have BK568 := n3_; have BK581 := n4_; have BK586 := n5_; have HB := n6_; clear n0_ n1_ n2_ n3_ n4_ n5_ n6_; (try clear hb); (try clear hb2); (try clear hk); (try clear hi); (try clear ho0); (try clear ho1)) | ((with_reducible refine gate_dst (N := 10) rfl ?_); refine box_event ?hg (N := 10) ?hd (cs := #[.slice none 0 0, .int .i64 0, .string (⟨#[]⟩ : ByteArray), .int .u32 0, .bool false]) (t := 27) ?hr ?_; (case hd => rfl); (case hg => rfl); (case hr => first | (go_simp; done) | (go_simp; rfl)); intro gb598 hg w66 hbox hb; have n0_ := Aside0.mk (Kd.V_below (Kd.V_elderB (by (with_reducible repeat (first | apply Kd.V_alloc | apply Kd.V_drewN | apply Kd.V_drew)); exact HO_582000.out) gb598 (Nat.le_of_eq hg.symm)) hb); have n1_ := Aside0.mk (Kd.V_below (Kd.V_elderB (by (with_reducible repeat (first | apply Kd.V_alloc | apply Kd.V_drewN | apply Kd.V_drew)); exact HO589.out) gb598 (Nat.le_of_eq hg.symm)) hb); have n2_ := Aside0.mk (Kd.R_below (by (with_reducible repeat (first | apply Kd.R_alloc | apply Kd.R_drewN | apply Kd.R_drew)); exact HO596.out) hb); have n3_ := Aside0.mk (blk_below (bk_ BK568) hb); have n4_ := Aside0.mk (blk_below (bk_ BK581) hb); have n5_ := Aside0.mk (blk_below (bk_ BK586) hb); have n6_ := Aside0.mk (below_step (hb_ HB) hb); have n7_ := Aside0.mk (hbox); have n8_ := Aside0.mk ((by rw [hg]; exact (below_size (hb_ HB)) : w.heap.size ≤ gb598)); have n9_ := Aside0.mk ((by rw [hg]; exact (below_size (hb_ HB)) : w.heap.size ≤ gb598)); have n10_ := Aside0.mk ((by rw [hg]; exact Nat.ne_of_lt (blk_lt (g := gb568) (o := .cells #[.slice A0_0 l0_0.length c0_0, .int .i64 a0_1, .string a0_2, .int .u32 a0_3, .bool a0_4] 27 (0, 0)) (bk_ BK568)) : gb568 ≠ gb598)); have n11_ := Aside0.mk ((by rw [hg]; exact Nat.ne_of_gt (blk_lt (g := gb568) (o := .cells #[.slice A0_0 l0_0.length c0_0, .int .i64 a0_1, .string a0_2, .int .u32 a0_3, .bool a0_4] 27 (0, 0)) (bk_ BK568)) : gb598 ≠ gb568)); have n12_ := Aside0.mk ((by rw [hg]; exact Nat.ne_of_lt (blk_lt (g := gb581) (o := .cells #[.slice Ao64 x582000_2.length co64, .int .i64 x582001_2, .string x582002_2, .int .u32 x582003_2, .bool x582004_2] 27 (0, 0)) (bk_ BK581)) : gb581 ≠ gb598)); have n13_ := Aside0.mk ((by rw [hg]; exact Nat.ne_of_gt (blk_lt (g := gb581) (o := .cells #[.slice Ao64 x582000_2.length co64, .int .i64 x582001_2, .string x582002_2, .int .u32 x582003_2, .bool x582004_2] 27 (0, 0)) (bk_ BK581)) : gb598 ≠ gb581)); have n14_ := Aside0.mk ((by rw [hg]; exact Nat.ne_of_lt (blk_lt (g := gb586) (o := .cells #[.int .i64 ((rd_T31 l2 x8_2).f0), .int .i64 ((rd_T31 l2 x8_2).f1), .string a1, .int .i64 ((rd_T31 l2 x8_2).f3), .int .i64 ((rd_T31 l2 x8_2).f4), .string ((rd_T31 l2 x8_2).f5), .bool ((rd_T31 l2 x8_2).f6), .slice A585_7 ((rd_T31 l2 x8_2).f7).length c585_7, .int .u64 ((rd_T31 l2 x8_2).f8), .int .u64 ((rd_T31 l2 x8_2).f9), .int .u64 ((rd_T31 l2 x8_2).f10), .int .i64 ((rd_T31 l2 x8_2).f11), .bool ((rd_T31 l2 x8_2).f12), .int .i64 ((rd_T31 l2 x8_2).f13)] 31 (0, 0)) (bk_ BK586)) : gb586 ≠ gb598)); have n15_ := Aside0.mk ((by rw [hg]; exact Nat.ne_of_gt (blk_lt (g := gb586) (o := .cells #[.int .i64 ((rd_T31 l2 x8_2).f0), .int .i64 ((rd_T31 l2 x8_2).f1), .string a1, .int .i64 ((rd_T31 l2 x8_2).f3), .int .i64 ((rd_T31 l2 x8_2).f4), .string ((rd_T31 l2 x8_2).f5), .bool ((rd_T31 l2 x8_2).f6), .slice A585_7 ((rd_T31 l2 x8_2).f7).length c585_7, .int .u64 ((rd_T31 l2 x8_2).f8), .int .u64 ((rd_T31 l2 x8_2).f9), .int .u64 ((rd_T31 l2 x8_2).f10), .int .i64 ((rd_T31 l2 x8_2).f11), .bool ((rd_T31 l2 x8_2).f12), .int .i64 ((rd_T31 l2 x8_2).f13)] 31 (0, 0)) (bk_ BK586)) : gb598 ≠ gb586)); clear HO_582000; clear HO589; clear HO596; clear BK568; clear BK581; clear BK586; clear HB; have HO_582000 := n0_; have HO589 := n1_; have HO596 := n2_; have BK568 := n3_; have BK581 := n4_; have BK586 := n5_; have HB := n6_; have BK598 := n7_; have GW598 := n8_; have GE598 := n9_; have NB568_598 := n10_; have NB598_568 := n11_; have NB581_598 := n12_; have NB598_581 := n13_; have NB586_598 := n14_; have NB598_586 := n15_; clear n0_ n1_ n2_ n3_ n4_ n5_ n6_ n7_ n8_ n9_ n10_ n11_ n12_ n13_ n14_ n15_; clear hb hbox hg; obtain ⟨Ao67, co67, eo67⟩ := Kd.V_slice HO589.out; subst eo67; have hnb68 := NB598_568.out; have hnc68 := NB568_598.out; have hnb69 := NB598_581.out; have hnc69 := NB581_598.out; have hnb70 := NB598_586.out; have hnc70 := NB586_598.out; have hcz71_0 : w66.cell? ⟨gb598, 0, none⟩ = some (.slice none 0 0) := (blk_cell BK598.out 0).trans rfl; have hcz71_1 : w66.cell? ⟨gb598, 1, none⟩ = some (.int .i64 0) := (blk_cell BK598.out 1).trans rfl; have hcz71_2 : w66.cell? ⟨gb598, 2, none⟩ = some (.string (⟨#[]⟩ : ByteArray)) := (blk_cell BK598.out 2).trans rfl; have hcz71_3 : w66.cell? ⟨gb598, 3, none⟩ = some (.int .u32 0) := (blk_cell BK598.out 3).trans rfl; have hcz71_4 : w66.cell? ⟨gb598, 4, none⟩ = some (.bool false) := (blk_cell BK598.out 4).trans rfl; have hfz71_0 := blk_frozen BK598.out 0; have hfz71_1 := blk_frozen BK598.out 1; have hfz71_2 := blk_frozen BK598.out 2; have hfz71_3 := blk_frozen BK598.out 3; have hfz71_4 := blk_frozen BK598.out 4; obtain ⟨Ao72, co72, eo72⟩ := Kd.R_slice HO596.out; subst eo72; have hcz73_0 : w66.cell? ⟨gb568, 0, none⟩ = some (.slice A0_0 l0_0.length c0_0) := (blk_cell BK568.out 0).trans rfl; have hcz73_1 : w66.cell? ⟨gb568, 1, none⟩ = some (.int .i64 a0_1) := (blk_cell BK568.out 1).trans rfl; have hcz73_2 : w66.cell? ⟨gb568, 2, none⟩ = some (.string a0_2) := (blk_cell BK568.out 2).trans rfl; have hcz73_3 : w66.cell? ⟨gb568, 3, none⟩ = some (.int .u32 a0_3) := (blk_cell BK568.out 3).trans rfl; have hcz73_4 : w66.cell? ⟨gb568, 4, none⟩ = some (.bool a0_4) := (blk_cell BK568.out 4).trans rfl; have hfz73_0 := blk_frozen BK568.out 0; have hfz73_1 := blk_frozen BK568.out 1; have hfz73_2 := blk_frozen BK568.out 2; have hfz73_3 := blk_frozen BK568.out 3; have hfz73_4 := blk_frozen BK568.out 4) | (go_at_call 17; (with_reducible refine (headgatekeep_Tables.calls kj38 _ _ t587 t590 t591 t592 t593 _ _ l0_0 a0_1 a0_2 a0_3 a0_4 true _ ?side1 ?side2 ?side3 ?side4 A52.out).mono ?_); (case side1 => refine (Kd.V_reads' (e := 53) (base := w.heap.size) (ok := fun k_ => ((some k_ ≠ (.slice Ao72 t594.length co72 : Value).ownBlock ∧ (k_ ≠ gb568 ∧ (k_ ≠ gb581 ∧ k_ ≠ gb586))) ∧ k_ ≠ gb598)) (n := t587.length) (c := co67) ?_).2.2; exact (by (with_reducible repeat (first | apply Kd.V_alloc | apply Kd.V_drewN | apply Kd.V_drew)); exact (Kd.V_mono (Kd.V_far (p := ⟨gb598, 4, none⟩) (Kd.V_far (p := ⟨gb598, 3, none⟩) (Kd.V_far (p := ⟨gb598, 2, none⟩) (Kd.V_far (p := ⟨gb598, 1, none⟩) (Kd.V_far (p := ⟨gb598, 0, none⟩) (Kd.V_mono HO589.out (fun k_ hk => (⟨hk, hk.2⟩ : _ ∧ k_ ≠ gb598))) (fun _ hk => hk.2) (.slice Ao67 t587.length co67)) (fun _ hk => hk.2) (.int .i64 t590)) (fun _ hk => hk.2) (.string t591)) (fun _ hk => hk.2) (.int .u32 t592)) (fun _ hk => hk.2) (.bool t593)) (fun _ h_ => h_.1)))); (case side2 => exact (Kd.V_reads' HO589.out).2.1); (case side3 => exact Kd.C_below HR0_0.out (hb_ HB)); (case side4 => exact HC0_0.out); rintro e w74 ⟨rfl, hb⟩; have n0_ := Aside0.mk (Kd.V_below (by (with_reducible repeat (first | apply Kd.V_alloc | apply Kd.V_drewN | apply Kd.V_drew)); exact (Kd.V_mono (Kd.V_far (p := ⟨gb598, 4, none⟩) (Kd.V_far (p := ⟨gb598, 3, none⟩) (Kd.V_far (p := ⟨gb598, 2, none⟩) (Kd.V_far (p := ⟨gb598, 1, none⟩) (Kd.V_far (p := ⟨gb598, 0, none⟩) (Kd.V_mono HO_582000.out (fun k_ hk => (⟨hk, hk.2⟩ : _ ∧ k_ ≠ gb598))) (fun _ hk => hk.2) (.slice Ao67 t587.length co67)) (fun _ hk => hk.2) (.int .i64 t590)) (fun _ hk => hk.2) (.string t591)) (fun _ hk => hk.2) (.int .u32 t592)) (fun _ hk => hk.2) (.bool t593)) (fun _ h_ => h_.1))) hb); have n1_ := Aside0.mk (Kd.V_below (by (with_reducible repeat (first | apply Kd.V_alloc | apply Kd.V_drewN | apply Kd.V_drew)); exact (Kd.V_mono (Kd.V_far (p := ⟨gb598, 4, none⟩) (Kd.V_far (p := ⟨gb598, 3, none⟩) (Kd.V_far (p := ⟨gb598, 2, none⟩) (Kd.V_far (p := ⟨gb598, 1, none⟩) (Kd.V_far (p := ⟨gb598, 0, none⟩) (Kd.V_mono HO589.out (fun k_ hk => (⟨hk, hk.2⟩ : _ ∧ k_ ≠ gb598))) (fun _ hk => hk.2) (.slice Ao67 t587.length co67)) (fun _ hk => hk.2) (.int .i64 t590)) (fun _ hk => hk.2) (.string t591)) (fun _ hk => hk.2) (.int .u32 t592)) (fun _ hk => hk.2) (.bool t593)) (fun _ h_ => h_.1))) hb); have n2_ := Aside0.mk (Kd.R_below (by (with_reducible repeat (first | apply Kd.R_alloc | apply Kd.R_drewN | apply Kd.R_drew)); exact (Kd.R_mono (Kd.R_far (p := ⟨gb598, 4, none⟩) (Kd.R_far (p := ⟨gb598, 3, none⟩) (Kd.R_far (p := ⟨gb598, 2, none⟩) (Kd.R_far (p := ⟨gb598, 1, none⟩) (Kd.R_far (p := ⟨gb598, 0, none⟩) (Kd.R_types HO596.out BK598.out (by decide)) (fun _ hk => hk.2) (.slice Ao67 t587.length co67)) (fun _ hk => hk.2) (.int .i64 t590)) (fun _ hk => hk.2) (.string t591)) (fun _ hk => hk.2) (.int .u32 t592)) (fun _ hk => hk.2) (.bool t593)) (fun _ h_ => h_.1))) hb); have n3_ := Aside0.mk (blk_below (g := gb568) (o := .cells #[.slice A0_0 l0_0.length c0_0, .int .i64 a0_1, .string a0_2, .int .u32 a0_3, .bool a0_4] 27 (0, 0)) (by (with_reducible repeat (first | refine blk_drewN ?_ _ | refine blk_drew ?_ | refine blk_alloc ?_ _ | refine blk_far ?_ NB568_598.out _)); exact BK568.out) hb); have n4_ := Aside0.mk (blk_below (g := gb581) (o := .cells #[.slice Ao64 x582000_2.length co64, .int .i64 x582001_2, .string x582002_2, .int .u32 x582003_2, .bool x582004_2] 27 (0, 0)) (by (with_reducible repeat (first | refine blk_drewN ?_ _ | refine blk_drew ?_ | refine blk_alloc ?_ _ | refine blk_far ?_ NB581_598.out _)); exact BK581.out) hb); have n5_ := Aside0.mk (blk_below (g := gb586) (o := .cells #[.int .i64 ((rd_T31 l2 x8_2).f0), .int .i64 ((rd_T31 l2 x8_2).f1), .string a1, .int .i64 ((rd_T31 l2 x8_2).f3), .int .i64 ((rd_T31 l2 x8_2).f4), .string ((rd_T31 l2 x8_2).f5), .bool ((rd_T31 l2 x8_2).f6), .slice A585_7 ((rd_T31 l2 x8_2).f7).length c585_7, .int .u64 ((rd_T31 l2 x8_2).f8), .int .u64 ((rd_T31 l2 x8_2).f9), .int .u64 ((rd_T31 l2 x8_2).f10), .int .i64 ((rd_T31 l2 x8_2).f11), .bool ((rd_T31 l2 x8_2).f12), .int .i64 ((rd_T31 l2 x8_2).f13)] 31 (0, 0)) (by (with_reducible repeat (first | refine blk_drewN ?_ _ | refine blk_drew ?_ | refine blk_alloc ?_ _ | refine blk_far ?_ NB586_598.out _)); exact BK586.out) hb); have n6_ := Aside0.mk (blk_below (g := gb598) (o := .cells #[.slice Ao67 t587.length co67, .int .i64 t590, .string t591, .int .u32 t592, .bool t593] 27 (0, 0)) (by (with_reducible repeat (first | refine blk_drewN ?_ _ | refine blk_drew ?_ | refine blk_alloc ?_ _)); refine blk_put (cs := #[.slice Ao67 t587.length co67, .int .i64 t590, .string t591, .int .u32 t592, .bool false]) ?_ 4 _ rfl; (with_reducible repeat (first | refine blk_drewN ?_ _ | refine blk_drew ?_ | refine blk_alloc ?_ _)); refine blk_put (cs := #[.slice Ao67 t587.length co67, .int .i64 t590, .string t591, .int .u32 0, .bool false]) ?_ 3 _ rfl; (with_reducible repeat (first | refine blk_drewN ?_ _ | refine blk_drew ?_ | refine blk_alloc ?_ _)); refine blk_put (cs := #[.slice Ao67 t587.length co67, .int .i64 t590, .string (⟨#[]⟩ : ByteArray), .int .u32 0, .bool false]) ?_ 2 _ rfl; (with_reducible repeat (first | refine blk_drewN ?_ _ | refine blk_drew ?_ | refine blk_alloc ?_ _)); refine blk_put (cs := #[.slice Ao67 t587.length co67, .int .i64 0, .string (⟨#[]⟩ : ByteArray), .int .u32 0, .bool false]) ?_ 1 _ rfl; (with_reducible repeat (first | refine blk_drewN ?_ _ | refine blk_drew ?_ | refine blk_alloc ?_ _)); refine blk_put (cs := #[.slice none 0 0, .int .i64 0, .string (⟨#[]⟩ : ByteArray), .int .u32 0, .bool false]) ?_ 0 _ rfl; (with_reducible repeat (first | refine blk_drewN ?_ _ | refine blk_drew ?_ | refine blk_alloc ?_ _)); exact BK598.out) hb); have n7_ := Aside0.mk (below_step (hb_ HB) hb); clear HO_582000; clear HO589; clear HO596; clear BK568; clear BK581; clear BK586; clear BK598; clear HB; have HO_582000 := n0_; have HO589 := n1_; have HO596 := n2_; have BK568 := n3_; have BK581 := n4_; have BK586 := n5_; have BK598 := n6_; have HB := n7_; clear n0_ n1_ n2_ n3_ n4_ n5_ n6_ n7_; (try clear hb); (try clear hb2); (try clear hk); (try clear hi); have hcz75_0 : w74.cell? ⟨gb598, 0, none⟩ = some (.slice Ao67 t587.length co67) := (blk_cell BK598.out 0).trans rfl; have hcz75_1 : w74.cell? ⟨gb598, 1, none⟩ = some (.int .i64 t590) := (blk_cell BK598.out 1).trans rfl; have hcz75_2 : w74.cell? ⟨gb598, 2, none⟩ = some (.string t591) := (blk_cell BK598.out 2).trans rfl; have hcz75_3 : w74.cell? ⟨gb598, 3, none⟩ = some (.int .u32 t592) := (blk_cell BK598.out 3).trans rfl; have hcz75_4 : w74.cell? ⟨gb598, 4, none⟩ = some (.bool t593) := (blk_cell BK598.out 4).trans rfl; have hfz75_0 := blk_frozen BK598.out 0; have hfz75_1 := blk_frozen BK598.out 1; have hfz75_2 := blk_frozen BK598.out 2; have hfz75_3 := blk_frozen BK598.out 3; have hfz75_4 := blk_frozen BK598.out 4; have hcz76_0 : w74.cell? ⟨gb581, 0, none⟩ = some (.slice Ao64 x582000_2.length co64) := (blk_cell BK581.out 0).trans rfl; have hcz76_1 : w74.cell? ⟨gb581, 1, none⟩ = some (.int .i64 x582001_2) := (blk_cell BK581.out 1).trans rfl; have hcz76_2 : w74.cell? ⟨gb581, 2, none⟩ = some (.string x582002_2) := (blk_cell BK581.out 2).trans rfl; have hcz76_3 : w74.cell? ⟨gb581, 3, none⟩ = some (.int .u32 x582003_2) := (blk_cell BK581.out 3).trans rfl; have hcz76_4 : w74.cell? ⟨gb581, 4, none⟩ = some (.bool x582004_2) := (blk_cell BK581.out 4).trans rfl; have hfz76_0 := blk_frozen BK581.out 0; have hfz76_1 := blk_frozen BK581.out 1; have hfz76_2 := blk_frozen BK581.out 2; have hfz76_3 := blk_frozen BK581.out 3; have hfz76_4 := blk_frozen BK581.out 4))
       go_roundg kj38
       case measure => have := HJ3.out; have := HK2.out; have := HJ38.out; omega
       case rel => exact ⟨(wrap64 (x8_2 + 1)), (t587), (t590), (t591), (t592), (t593), (.slice Ao67 t587.length co67), (by first | rfl | (simp; done) | (simp [*]; done)), H', ⟨by have := HJ3.out; have := HK2.out; have := HJ38.out; omega⟩, ⟨by (with_reducible repeat (first | apply Kd.V_alloc | apply Kd.V_drewN | apply Kd.V_drew)); exact Kd.V_mono (Kd.V_far (p := ⟨gb581, 4, none⟩) (Kd.V_far (p := ⟨gb581, 3, none⟩) (Kd.V_far (p := ⟨gb581, 2, none⟩) (Kd.V_far (p := ⟨gb581, 1, none⟩) (Kd.V_far (p := ⟨gb581, 0, none⟩) (Kd.V_mono HO589.out (fun k_ hk => (⟨hk, hk.1.2.2.1⟩ : _ ∧ k_ ≠ gb581))) (fun _ hk => hk.2) (.slice Ao67 t587.length co67)) (fun _ hk => hk.2) (.int .i64 t590)) (fun _ hk => hk.2) (.string t591)) (fun _ hk => hk.2) (.int .u32 t592)) (fun _ hk => hk.2) (.bool t593)) (fun _ hk => ⟨hk.1.1.2.1, hk.1.1.2.2.1⟩)⟩, ⟨by (with_reducible repeat (first | refine blk_drewN ?_ _ | refine blk_drew ?_ | refine blk_alloc ?_ _ | refine blk_far ?_ NB568_581.out _)); exact BK568.out⟩, ⟨by (with_reducible repeat (first | refine blk_drewN ?_ _ | refine blk_drew ?_ | refine blk_alloc ?_ _)); refine blk_put (cs := #[.slice Ao67 t587.length co67, .int .i64 t590, .string t591, .int .u32 t592, .bool x582004_2]) ?_ 4 _ rfl; (with_reducible repeat (first | refine blk_drewN ?_ _ | refine blk_drew ?_ | refine blk_alloc ?_ _)); refine blk_put (cs := #[.slice Ao67 t587.length co67, .int .i64 t590, .string t591, .int .u32 x582003_2, .bool x582004_2]) ?_ 3 _ rfl; (with_reducible repeat (first | refine blk_drewN ?_ _ | refine blk_drew ?_ | refine blk_alloc ?_ _)); refine blk_put (cs := #[.slice Ao67 t587.length co67, .int .i64 t590, .string x582002_2, .int .u32 x582003_2, .bool x582004_2]) ?_ 2 _ rfl; (with_reducible repeat (first | refine blk_drewN ?_ _ | refine blk_drew ?_ | refine blk_alloc ?_ _)); refine blk_put (cs := #[.slice Ao67 t587.length co67, .int .i64 x582001_2, .string x582002_2, .int .u32 x582003_2, .bool x582004_2]) ?_ 1 _ rfl; (with_reducible repeat (first | refine blk_drewN ?_ _ | refine blk_drew ?_ | refine blk_alloc ?_ _)); refine blk_put (cs := #[.slice Ao64 x582000_2.length co64, .int .i64 x582001_2, .string x582002_2, .int .u32 x582003_2, .bool x582004_2]) ?_ 0 _ rfl; (with_reducible repeat (first | refine blk_drewN ?_ _ | refine blk_drew ?_ | refine blk_alloc ?_ _)); exact BK581.out⟩, ⟨hb_ HB⟩⟩
end Go.Proofs.YtjogkfcjlljjcaaDoor.P
