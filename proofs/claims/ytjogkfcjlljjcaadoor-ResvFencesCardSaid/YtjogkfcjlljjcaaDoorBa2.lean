-- joined by this session's wip/tools/pack.py: words of the kit's print, cut to what the claim names; functions printed by a patched copy of the printer; walks and lemmas of this session; Lean checks it
import Derived.Test.YtjogkfcjlljjcaaDoorBa1
import Derived.Maps.Own
import Derived.Maps.OwnOps
import Derived.Maps.Views
import Derived.Carry
import Derived.Lib.SliceRun
namespace Go.Proofs.YtjogkfcjlljjcaaDoor.P
open Go.RowKit Go.Proofs.YtjogkfcjlljjcaaDoorW.PrintWords Go.Proofs.YtjogkfcjlljjcaaDoorW.PrintLast Go.Proofs.YtjogkfcjlljjcaaDoorW.PrintMore
attribute [local go_sem] max2_int min2_int max_two min_two max_three min_three max_four min_four   -- for this text's walks alone
set_option linter.unusedVariables false
set_option linter.unusedSimpArgs false
set_option linter.unnecessarySimpa false
mutual
def headgateref11_Good.l0 : Nat → Int → List (S53) → Int → ByteArray → Int → Bool → Option (Bool)
 | 0, _, _, _, _, _, _ => none
 | k + 1, x3, x128000, x128001, x128002, x128003, x128004 => if x3 < (x128000.length : Int) then (if 0 ≤ x3 then ((headgateref03_Name.f k ((rd_T53 x128000 x3).f0)).bind fun t129 => (if t129 = true then (headgateref11_Good.j1 k x3 (((rd_T53 x128000 x3).f1) == 0) x128000 x128001 x128002 x128003 x128004) else (headgateref11_Good.j1 k x3 true x128000 x128001 x128002 x128003 x128004))) else (none)) else (if x128001 = 0 then (some (x128002.toList == ([] : List UInt8))) else ((headgateref11_alone.f x128001).bind fun t133 => (if t133 = true then ((headgateref10_Registered.f k x128000 x128001 x128002 x128003 x128004 x128002).bind fun t134 => (some t134)) else ((headgateref10_Type.f x128001).bind fun t135 => (if t135 = true then (if x128002.toList = ([] : List UInt8) then (some (decide ((x128000.length : Int) > 0))) else (some false)) else (some false))))))
def headgateref11_Good.j1 : Nat → Int → Bool → List (S53) → Int → ByteArray → Int → Bool → Option (Bool)
 | 0, _, _, _, _, _, _, _ => none
 | k + 1, x3, x32, x128000, x128001, x128002, x128003, x128004 => if x32 = true then (some false) else (headgateref11_Good.l1 k x3 0 x128000 x128001 x128002 x128003 x128004)
def headgateref11_Good.l1 : Nat → Int → Int → List (S53) → Int → ByteArray → Int → Bool → Option (Bool)
 | 0, _, _, _, _, _, _, _ => none
 | k + 1, x3, x4, x128000, x128001, x128002, x128003, x128004 => if x4 < x3 then (if 0 ≤ x4 then (if x4 < (x128000.length : Int) then (if 0 ≤ x3 then (if x3 < (x128000.length : Int) then (if ((rd_T53 x128000 x4).f0).toList = ((rd_T53 x128000 x3).f0).toList then (some false) else (headgateref11_Good.l1 k x3 (wrap64 (x4 + 1)) x128000 x128001 x128002 x128003 x128004)) else (none)) else (none)) else (none)) else (none)) else (headgateref11_Good.l0 k (wrap64 (x3 + 1)) x128000 x128001 x128002 x128003 x128004)
end
def headgateref11_Good.f (k : Nat) (l0_0 : List (S53)) (a0_1 : Int) (a0_2 : ByteArray) (a0_3 : Int) (a0_4 : Bool) : Option (Bool) := if (l0_0.length : Int) > 16 then (some false) else (headgateref11_Good.l0 k 0 l0_0 a0_1 a0_2 a0_3 a0_4)
theorem headgateref11_Good.mono_l : ∀ k, (∀ y0 y1 y2 y3 y4 y5, LeO (headgateref11_Good.l0 k y0 y1 y2 y3 y4 y5) (headgateref11_Good.l0 (k + 1) y0 y1 y2 y3 y4 y5)) ∧ (∀ y0 y1 y2 y3 y4 y5 y6, LeO (headgateref11_Good.j1 k y0 y1 y2 y3 y4 y5 y6) (headgateref11_Good.j1 (k + 1) y0 y1 y2 y3 y4 y5 y6)) ∧ (∀ y0 y1 y2 y3 y4 y5 y6, LeO (headgateref11_Good.l1 k y0 y1 y2 y3 y4 y5 y6) (headgateref11_Good.l1 (k + 1) y0 y1 y2 y3 y4 y5 y6))
 | 0 => ⟨fun _ _ _ _ _ _ r h => by simp [headgateref11_Good.l0] at h, fun _ _ _ _ _ _ _ r h => by simp [headgateref11_Good.j1] at h, fun _ _ _ _ _ _ _ r h => by simp [headgateref11_Good.l1] at h⟩
 | k + 1 => by
  obtain ⟨ih0, ih1, ih2⟩ := headgateref11_Good.mono_l k
  refine ⟨?_, ?_, ?_⟩
  ·intro y0 y1 y2 y3 y4 y5
   unfold headgateref11_Good.l0
   repeat' first
   | (with_reducible exact ih0 _ _ _ _ _ _)
   | (with_reducible exact ih1 _ _ _ _ _ _ _)
   | (with_reducible exact ih2 _ _ _ _ _ _ _)
   | (with_reducible exact headgateref03_Name.mono _ _)
   | (with_reducible exact headgateref10_Registered.mono _ _ _ _ _ _ _)
   | (with_reducible exact LeO.refl _)
   | (with_reducible exact LeO.none _)
   | (with_reducible refine LeO.ite ?_ ?_)
   | (with_reducible refine LeO.bind ?_ (fun _ => ?_))
   | exact ih0 _ _ _ _ _ _
   | exact ih1 _ _ _ _ _ _ _
   | exact ih2 _ _ _ _ _ _ _
   | exact headgateref03_Name.mono _ _
   | exact headgateref10_Registered.mono _ _ _ _ _ _ _
   | exact LeO.none _
   | refine LeO.ite ?_ ?_
   | refine LeO.bind ?_ (fun _ => ?_)
  ·intro y0 y1 y2 y3 y4 y5 y6
   unfold headgateref11_Good.j1
   repeat' first
   | (with_reducible exact ih0 _ _ _ _ _ _)
   | (with_reducible exact ih1 _ _ _ _ _ _ _)
   | (with_reducible exact ih2 _ _ _ _ _ _ _)
   | (with_reducible exact headgateref03_Name.mono _ _)
   | (with_reducible exact headgateref10_Registered.mono _ _ _ _ _ _ _)
   | (with_reducible exact LeO.refl _)
   | (with_reducible exact LeO.none _)
   | (with_reducible refine LeO.ite ?_ ?_)
   | (with_reducible refine LeO.bind ?_ (fun _ => ?_))
   | exact ih0 _ _ _ _ _ _
   | exact ih1 _ _ _ _ _ _ _
   | exact ih2 _ _ _ _ _ _ _
   | exact headgateref03_Name.mono _ _
   | exact headgateref10_Registered.mono _ _ _ _ _ _ _
   | exact LeO.none _
   | refine LeO.ite ?_ ?_
   | refine LeO.bind ?_ (fun _ => ?_)
  ·intro y0 y1 y2 y3 y4 y5 y6
   unfold headgateref11_Good.l1
   repeat' first
   | (with_reducible exact ih0 _ _ _ _ _ _)
   | (with_reducible exact ih1 _ _ _ _ _ _ _)
   | (with_reducible exact ih2 _ _ _ _ _ _ _)
   | (with_reducible exact headgateref03_Name.mono _ _)
   | (with_reducible exact headgateref10_Registered.mono _ _ _ _ _ _ _)
   | (with_reducible exact LeO.refl _)
   | (with_reducible exact LeO.none _)
   | (with_reducible refine LeO.ite ?_ ?_)
   | (with_reducible refine LeO.bind ?_ (fun _ => ?_))
   | exact ih0 _ _ _ _ _ _
   | exact ih1 _ _ _ _ _ _ _
   | exact ih2 _ _ _ _ _ _ _
   | exact headgateref03_Name.mono _ _
   | exact headgateref10_Registered.mono _ _ _ _ _ _ _
   | exact LeO.none _
   | refine LeO.ite ?_ ?_
   | refine LeO.bind ?_ (fun _ => ?_)
theorem headgateref11_Good.mono : ∀ a0 a1 a2 a3 a4 k, LeO (headgateref11_Good.f k a0 a1 a2 a3 a4) (headgateref11_Good.f (k + 1) a0 a1 a2 a3 a4) := by
 intro a0 a1 a2 a3 a4 k
 obtain ⟨ih0, ih1, ih2⟩ := headgateref11_Good.mono_l k
 unfold headgateref11_Good.f
 repeat' first
   | (with_reducible exact ih0 _ _ _ _ _ _)
   | (with_reducible exact ih1 _ _ _ _ _ _ _)
   | (with_reducible exact ih2 _ _ _ _ _ _ _)
   | (with_reducible exact headgateref03_Name.mono _ _)
   | (with_reducible exact headgateref10_Registered.mono _ _ _ _ _ _ _)
   | (with_reducible exact LeO.refl _)
   | (with_reducible exact LeO.none _)
   | (with_reducible refine LeO.ite ?_ ?_)
   | (with_reducible refine LeO.bind ?_ (fun _ => ?_))
   | exact ih0 _ _ _ _ _ _
   | exact ih1 _ _ _ _ _ _ _
   | exact ih2 _ _ _ _ _ _ _
   | exact headgateref03_Name.mono _ _
   | exact headgateref10_Registered.mono _ _ _ _ _ _ _
   | exact LeO.none _
   | refine LeO.ite ?_ ?_
   | refine LeO.bind ?_ (fun _ => ?_)
set_option maxHeartbeats 8000000 in
set_option maxRecDepth 100000 in
theorem headgateref11_Good.calls (k : Nat) (A0_0 : Option Addr) (c0_0 : Nat) (l0_0 : List (S53)) (a0_1 : Int) (a0_2 : ByteArray) (a0_3 : Int) (a0_4 : Bool) (r : Bool) (w : World) (hr0_0 : Kd.C k53 w A0_0 l0_0.length l0_0) (hc0_0 : l0_0.length ≤ c0_0) (h : headgateref11_Good.f k l0_0 a0_1 a0_2 a0_3 a0_4 = some r) :
  Calls Tryd.prog 20 #[.agg #[.slice A0_0 l0_0.length c0_0, .int .i64 a0_1, .string a0_2, .int .u32 a0_3, .bool a0_4]] w fun e w' => e = .returned (.bool r) ∧ Below w.heap.size w w' := by
 have hu27 := Tryd.underlying27
 have HR0_0 := Aside0.mk hr0_0
 have HC0_0 := Aside0.mk hc0_0
 clear hr0_0 hc0_0
 have HB := Aside0.mk (Below.refl w.heap.size w)
 have H : (if (l0_0.length : Int) > 16 then (some false) else (headgateref11_Good.l0 k 0 l0_0 a0_1 a0_2 a0_3 a0_4)) = some r := h
 clear h
 by_cases c2 : (l0_0.length : Int) > 16
 ·rw [if_pos c2] at H
  have c2b0 : decide (16 < (l0_0.length : Int)) = true := decide_eq_true c2
  have c2b1 : decide (16 < l0_0.length) = true := decide_eq_true (by omega)
  clear c2
  obtain rfl := Option.some.inj H
  go_enter Tryd.func20, Tryd.ntmps20
  go_wp2_with (first | ((with_reducible refine gate_dst (N := 1) rfl ?_); (try (refine gate_guard (by rfl) ?_; dsimp only)); refine box_event ?hg (N := 1) ?hd (cs := #[.slice A0_0 l0_0.length c0_0, .int .i64 a0_1, .string a0_2, .int .u32 a0_3, .bool a0_4]) (t := 27) ?hr ?_; (case hd => rfl); (case hg => rfl); (case hr => first | (go_simp; done) | (go_simp; rfl)); intro gb127 hg w3 hbox hb; have n0_ := Aside0.mk (below_step (hb_ HB) hb); have n1_ := Aside0.mk (hbox); have n2_ := Aside0.mk ((by rw [hg]; exact (below_size (hb_ HB)) : w.heap.size ≤ gb127)); have n3_ := Aside0.mk ((by rw [hg]; exact (below_size (hb_ HB)) : w.heap.size ≤ gb127)); clear HB; have HB := n0_; have BK127 := n1_; have GW127 := n2_; have GE127 := n3_; clear n0_ n1_ n2_ n3_; clear hb hbox hg; have hcz4_0 : w3.cell? ⟨gb127, 0, none⟩ = some (.slice A0_0 l0_0.length c0_0) := (blk_cell BK127.out 0).trans rfl; have hcz4_1 : w3.cell? ⟨gb127, 1, none⟩ = some (.int .i64 a0_1) := (blk_cell BK127.out 1).trans rfl; have hcz4_2 : w3.cell? ⟨gb127, 2, none⟩ = some (.string a0_2) := (blk_cell BK127.out 2).trans rfl; have hcz4_3 : w3.cell? ⟨gb127, 3, none⟩ = some (.int .u32 a0_3) := (blk_cell BK127.out 3).trans rfl; have hcz4_4 : w3.cell? ⟨gb127, 4, none⟩ = some (.bool a0_4) := (blk_cell BK127.out 4).trans rfl; have hfz4_0 := blk_frozen BK127.out 0; have hfz4_1 := blk_frozen BK127.out 1; have hfz4_2 := blk_frozen BK127.out 2; have hfz4_3 := blk_frozen BK127.out 3; have hfz4_4 := blk_frozen BK127.out 4))
  repeat (go_quiet (first | ((with_reducible refine gate_dst (N := 1) rfl ?_); (try (refine gate_guard (by rfl) ?_; dsimp only)); refine box_event ?hg (N := 1) ?hd (cs := #[.slice A0_0 l0_0.length c0_0, .int .i64 a0_1, .string a0_2, .int .u32 a0_3, .bool a0_4]) (t := 27) ?hr ?_; (case hd => rfl); (case hg => rfl); (case hr => first | (go_simp; done) | (go_simp; rfl)); intro gb127 hg w3 hbox hb; have n0_ := Aside0.mk (below_step (hb_ HB) hb); have n1_ := Aside0.mk (hbox); have n2_ := Aside0.mk ((by rw [hg]; exact (below_size (hb_ HB)) : w.heap.size ≤ gb127)); have n3_ := Aside0.mk ((by rw [hg]; exact (below_size (hb_ HB)) : w.heap.size ≤ gb127)); clear HB; have HB := n0_; have BK127 := n1_; have GW127 := n2_; have GE127 := n3_; clear n0_ n1_ n2_ n3_; clear hb hbox hg; have hcz4_0 : w3.cell? ⟨gb127, 0, none⟩ = some (.slice A0_0 l0_0.length c0_0) := (blk_cell BK127.out 0).trans rfl; have hcz4_1 : w3.cell? ⟨gb127, 1, none⟩ = some (.int .i64 a0_1) := (blk_cell BK127.out 1).trans rfl; have hcz4_2 : w3.cell? ⟨gb127, 2, none⟩ = some (.string a0_2) := (blk_cell BK127.out 2).trans rfl; have hcz4_3 : w3.cell? ⟨gb127, 3, none⟩ = some (.int .u32 a0_3) := (blk_cell BK127.out 3).trans rfl; have hcz4_4 : w3.cell? ⟨gb127, 4, none⟩ = some (.bool a0_4) := (blk_cell BK127.out 4).trans rfl; have hfz4_0 := blk_frozen BK127.out 0; have hfz4_1 := blk_frozen BK127.out 1; have hfz4_2 := blk_frozen BK127.out 2; have hfz4_3 := blk_frozen BK127.out 3; have hfz4_4 := blk_frozen BK127.out 4)); try go_wp2_with (first | ((with_reducible refine gate_dst (N := 1) rfl ?_); (try (refine gate_guard (by rfl) ?_; dsimp only)); refine box_event ?hg (N := 1) ?hd (cs := #[.slice A0_0 l0_0.length c0_0, .int .i64 a0_1, .string a0_2, .int .u32 a0_3, .bool a0_4]) (t := 27) ?hr ?_; (case hd => rfl); (case hg => rfl); (case hr => first | (go_simp; done) | (go_simp; rfl)); intro gb127 hg w3 hbox hb; have n0_ := Aside0.mk (below_step (hb_ HB) hb); have n1_ := Aside0.mk (hbox); have n2_ := Aside0.mk ((by rw [hg]; exact (below_size (hb_ HB)) : w.heap.size ≤ gb127)); have n3_ := Aside0.mk ((by rw [hg]; exact (below_size (hb_ HB)) : w.heap.size ≤ gb127)); clear HB; have HB := n0_; have BK127 := n1_; have GW127 := n2_; have GE127 := n3_; clear n0_ n1_ n2_ n3_; clear hb hbox hg; have hcz4_0 : w3.cell? ⟨gb127, 0, none⟩ = some (.slice A0_0 l0_0.length c0_0) := (blk_cell BK127.out 0).trans rfl; have hcz4_1 : w3.cell? ⟨gb127, 1, none⟩ = some (.int .i64 a0_1) := (blk_cell BK127.out 1).trans rfl; have hcz4_2 : w3.cell? ⟨gb127, 2, none⟩ = some (.string a0_2) := (blk_cell BK127.out 2).trans rfl; have hcz4_3 : w3.cell? ⟨gb127, 3, none⟩ = some (.int .u32 a0_3) := (blk_cell BK127.out 3).trans rfl; have hcz4_4 : w3.cell? ⟨gb127, 4, none⟩ = some (.bool a0_4) := (blk_cell BK127.out 4).trans rfl; have hfz4_0 := blk_frozen BK127.out 0; have hfz4_1 := blk_frozen BK127.out 1; have hfz4_2 := blk_frozen BK127.out 2; have hfz4_3 := blk_frozen BK127.out 3; have hfz4_4 := blk_frozen BK127.out 4)))
  go_ret
  exact ⟨by first | rfl | (simp [errW_none, errW_some] <;> rfl) | (simp [*, errW_none, errW_some] <;> rfl) | (simp [bt, *]; done) | (unfold bt; simp [*]; done), by repeat (first | (with_reducible first | exact HB.out | apply below_alloc | apply pw_below_drewN | apply below_drew1 | refine below_set ?_ GE127.out) | exact HB.out)⟩
 rw [if_neg c2] at H
 have c2b0 : decide (16 < (l0_0.length : Int)) = false := decide_eq_false c2
 have c2b1 : decide (16 < l0_0.length) = false := decide_eq_false (by omega)
 clear c2
 have H' := Aside0.mk H
 clear H
 go_enter Tryd.func20, Tryd.ntmps20
 go_wp2_with (first | ((with_reducible refine gate_dst (N := 1) rfl ?_); (try (refine gate_guard (by rfl) ?_; dsimp only)); refine box_event ?hg (N := 1) ?hd (cs := #[.slice A0_0 l0_0.length c0_0, .int .i64 a0_1, .string a0_2, .int .u32 a0_3, .bool a0_4]) (t := 27) ?hr ?_; (case hd => rfl); (case hg => rfl); (case hr => first | (go_simp; done) | (go_simp; rfl)); intro gb127 hg w5 hbox hb; have n0_ := Aside0.mk (below_step (hb_ HB) hb); have n1_ := Aside0.mk (hbox); have n2_ := Aside0.mk ((by rw [hg]; exact (below_size (hb_ HB)) : w.heap.size ≤ gb127)); have n3_ := Aside0.mk ((by rw [hg]; exact (below_size (hb_ HB)) : w.heap.size ≤ gb127)); clear HB; have HB := n0_; have BK127 := n1_; have GW127 := n2_; have GE127 := n3_; clear n0_ n1_ n2_ n3_; clear hb hbox hg; have hcz6_0 : w5.cell? ⟨gb127, 0, none⟩ = some (.slice A0_0 l0_0.length c0_0) := (blk_cell BK127.out 0).trans rfl; have hcz6_1 : w5.cell? ⟨gb127, 1, none⟩ = some (.int .i64 a0_1) := (blk_cell BK127.out 1).trans rfl; have hcz6_2 : w5.cell? ⟨gb127, 2, none⟩ = some (.string a0_2) := (blk_cell BK127.out 2).trans rfl; have hcz6_3 : w5.cell? ⟨gb127, 3, none⟩ = some (.int .u32 a0_3) := (blk_cell BK127.out 3).trans rfl; have hcz6_4 : w5.cell? ⟨gb127, 4, none⟩ = some (.bool a0_4) := (blk_cell BK127.out 4).trans rfl; have hfz6_0 := blk_frozen BK127.out 0; have hfz6_1 := blk_frozen BK127.out 1; have hfz6_2 := blk_frozen BK127.out 2; have hfz6_3 := blk_frozen BK127.out 3; have hfz6_4 := blk_frozen BK127.out 4))
 repeat (go_quiet (first | ((with_reducible refine gate_dst (N := 1) rfl ?_); (try (refine gate_guard (by rfl) ?_; dsimp only)); refine box_event ?hg (N := 1) ?hd (cs := #[.slice A0_0 l0_0.length c0_0, .int .i64 a0_1, .string a0_2, .int .u32 a0_3, .bool a0_4]) (t := 27) ?hr ?_; (case hd => rfl); (case hg => rfl); (case hr => first | (go_simp; done) | (go_simp; rfl)); intro gb127 hg w5 hbox hb; have n0_ := Aside0.mk (below_step (hb_ HB) hb); have n1_ := Aside0.mk (hbox); have n2_ := Aside0.mk ((by rw [hg]; exact (below_size (hb_ HB)) : w.heap.size ≤ gb127)); have n3_ := Aside0.mk ((by rw [hg]; exact (below_size (hb_ HB)) : w.heap.size ≤ gb127)); clear HB; have HB := n0_; have BK127 := n1_; have GW127 := n2_; have GE127 := n3_; clear n0_ n1_ n2_ n3_; clear hb hbox hg; have hcz6_0 : w5.cell? ⟨gb127, 0, none⟩ = some (.slice A0_0 l0_0.length c0_0) := (blk_cell BK127.out 0).trans rfl; have hcz6_1 : w5.cell? ⟨gb127, 1, none⟩ = some (.int .i64 a0_1) := (blk_cell BK127.out 1).trans rfl; have hcz6_2 : w5.cell? ⟨gb127, 2, none⟩ = some (.string a0_2) := (blk_cell BK127.out 2).trans rfl; have hcz6_3 : w5.cell? ⟨gb127, 3, none⟩ = some (.int .u32 a0_3) := (blk_cell BK127.out 3).trans rfl; have hcz6_4 : w5.cell? ⟨gb127, 4, none⟩ = some (.bool a0_4) := (blk_cell BK127.out 4).trans rfl; have hfz6_0 := blk_frozen BK127.out 0; have hfz6_1 := blk_frozen BK127.out 1; have hfz6_2 := blk_frozen BK127.out 2; have hfz6_3 := blk_frozen BK127.out 3; have hfz6_4 := blk_frozen BK127.out 4)); try go_wp2_with (first | ((with_reducible refine gate_dst (N := 1) rfl ?_); (try (refine gate_guard (by rfl) ?_; dsimp only)); refine box_event ?hg (N := 1) ?hd (cs := #[.slice A0_0 l0_0.length c0_0, .int .i64 a0_1, .string a0_2, .int .u32 a0_3, .bool a0_4]) (t := 27) ?hr ?_; (case hd => rfl); (case hg => rfl); (case hr => first | (go_simp; done) | (go_simp; rfl)); intro gb127 hg w5 hbox hb; have n0_ := Aside0.mk (below_step (hb_ HB) hb); have n1_ := Aside0.mk (hbox); have n2_ := Aside0.mk ((by rw [hg]; exact (below_size (hb_ HB)) : w.heap.size ≤ gb127)); have n3_ := Aside0.mk ((by rw [hg]; exact (below_size (hb_ HB)) : w.heap.size ≤ gb127)); clear HB; have HB := n0_; have BK127 := n1_; have GW127 := n2_; have GE127 := n3_; clear n0_ n1_ n2_ n3_; clear hb hbox hg; have hcz6_0 : w5.cell? ⟨gb127, 0, none⟩ = some (.slice A0_0 l0_0.length c0_0) := (blk_cell BK127.out 0).trans rfl; have hcz6_1 : w5.cell? ⟨gb127, 1, none⟩ = some (.int .i64 a0_1) := (blk_cell BK127.out 1).trans rfl; have hcz6_2 : w5.cell? ⟨gb127, 2, none⟩ = some (.string a0_2) := (blk_cell BK127.out 2).trans rfl; have hcz6_3 : w5.cell? ⟨gb127, 3, none⟩ = some (.int .u32 a0_3) := (blk_cell BK127.out 3).trans rfl; have hcz6_4 : w5.cell? ⟨gb127, 4, none⟩ = some (.bool a0_4) := (blk_cell BK127.out 4).trans rfl; have hfz6_0 := blk_frozen BK127.out 0; have hfz6_1 := blk_frozen BK127.out 1; have hfz6_2 := blk_frozen BK127.out 2; have hfz6_3 := blk_frozen BK127.out 3; have hfz6_4 := blk_frozen BK127.out 4)))
 go_loopg [3] k (fun kq v3 w' => ∃ (x3_1 : Int), v3 = .int .i64 x3_1 ∧ Aside0 (headgateref11_Good.l0 kq x3_1 l0_0 a0_1 a0_2 a0_3 a0_4 = some r) ∧ Aside0 (kq ≤ k) ∧ Aside0 (w'.heap[gb127]? = some (.cells #[(.slice A0_0 l0_0.length c0_0), .int .i64 a0_1, .string a0_2, .int .u32 a0_3, .bool a0_4] 27 (0, 0))) ∧ Aside0 (Below w.heap.size w w'))
 case atStart => exact ⟨(0), (by first | rfl | (simp; done) | (simp [*]; done)), H', ⟨Nat.le_refl _⟩, ⟨bk_ BK127⟩, ⟨hb_ HB⟩⟩
 case round =>
  clear H'
  try clear c2
  try clear c2b0
  try clear c2b1
  try clear p2
  try clear hcz4_0
  try clear hcz4_1
  try clear hcz4_2
  try clear hcz4_3
  try clear hcz4_4
  try clear hcz6_0
  try clear hcz6_1
  try clear hcz6_2
  try clear hcz6_3
  try clear hcz6_4
  try clear hfz4_0
  try clear hfz4_1
  try clear hfz4_2
  try clear hfz4_3
  try clear hfz4_4
  try clear hfz6_0
  try clear hfz6_1
  try clear hfz6_2
  try clear hfz6_3
  try clear hfz6_4
  obtain ⟨x3_1, rfl, HA, HK1, BK127, HB⟩ := hrel
  cases gk with
  | zero => exact absurd HA.out (by simp [headgateref11_Good.l0])
  | succ k1 =>
   have H := HA.out
   clear HA
   simp only [headgateref11_Good.l0] at H
   refine neg_first (p := (x3_1 < (l0_0.length : Int))) (fun c7 => ?_) (fun c7 => ?_)
   ·rw [if_neg c7] at H
    have c7b0 : decide (x3_1 < (l0_0.length : Int)) = false := decide_eq_false c7
    clear c7
    by_cases c24 : a0_1 = 0
    ·rw [if_pos c24] at H
     have c24b0 : (a0_1 == 0) = true := beq_iff_eq.mpr c24
     have c24b1 : (a0_1 != 0) = false := bne_eq_false_iff_eq.mpr c24
     clear c24
     obtain rfl := Option.some.inj H
     have hcz25_0 : wr.cell? ⟨gb127, 0, none⟩ = some (.slice A0_0 l0_0.length c0_0) := (blk_cell BK127.out 0).trans rfl
     have hcz25_1 : wr.cell? ⟨gb127, 1, none⟩ = some (.int .i64 a0_1) := (blk_cell BK127.out 1).trans rfl
     have hcz25_2 : wr.cell? ⟨gb127, 2, none⟩ = some (.string a0_2) := (blk_cell BK127.out 2).trans rfl
     have hcz25_3 : wr.cell? ⟨gb127, 3, none⟩ = some (.int .u32 a0_3) := (blk_cell BK127.out 3).trans rfl
     have hcz25_4 : wr.cell? ⟨gb127, 4, none⟩ = some (.bool a0_4) := (blk_cell BK127.out 4).trans rfl
     have hfz25_0 := blk_frozen BK127.out 0
     have hfz25_1 := blk_frozen BK127.out 1
     have hfz25_2 := blk_frozen BK127.out 2
     have hfz25_3 := blk_frozen BK127.out 3
     have hfz25_4 := blk_frozen BK127.out 4
     go_wp2
     repeat (go_quiet (fail); try go_wp2)
     go_ret
     exact ⟨by first | rfl | (simp [errW_none, errW_some] <;> rfl) | (simp [*, errW_none, errW_some] <;> rfl) | (simp [bt, *]; done) | (unfold bt; simp [*]; done), by repeat (first | (with_reducible first | exact HB.out | apply below_alloc | apply pw_below_drewN | apply below_drew1 | refine below_set ?_ GE127.out) | exact HB.out)⟩
    rw [if_neg c24] at H
    have c24b0 : (a0_1 == 0) = false := beq_eq_false_iff_ne.mpr c24
    have c24b1 : (a0_1 != 0) = true := bne_iff_ne.mpr c24
    replace H := Option.bind_eq_some_iff.mp H
    obtain ⟨t133, A260, H⟩ := H
    try dsimp only at H
    have A26 := Aside0.mk A260
    clear A260
    by_cases c27 : t133 = true
    ·subst c27
     have H1 := H
     rw [if_pos rfl] at H1
     clear H
     have H := H1
     clear H1
     replace H := Option.bind_eq_some_iff.mp H
     obtain ⟨t134, A280, H⟩ := H
     try dsimp only at H
     have A28 := Aside0.mk A280
     clear A280
     obtain rfl := Option.some.inj H
     have hcz29_0 : wr.cell? ⟨gb127, 0, none⟩ = some (.slice A0_0 l0_0.length c0_0) := (blk_cell BK127.out 0).trans rfl
     have hcz29_1 : wr.cell? ⟨gb127, 1, none⟩ = some (.int .i64 a0_1) := (blk_cell BK127.out 1).trans rfl
     have hcz29_2 : wr.cell? ⟨gb127, 2, none⟩ = some (.string a0_2) := (blk_cell BK127.out 2).trans rfl
     have hcz29_3 : wr.cell? ⟨gb127, 3, none⟩ = some (.int .u32 a0_3) := (blk_cell BK127.out 3).trans rfl
     have hcz29_4 : wr.cell? ⟨gb127, 4, none⟩ = some (.bool a0_4) := (blk_cell BK127.out 4).trans rfl
     have hfz29_0 := blk_frozen BK127.out 0
     have hfz29_1 := blk_frozen BK127.out 1
     have hfz29_2 := blk_frozen BK127.out 2
     have hfz29_3 := blk_frozen BK127.out 3
     have hfz29_4 := blk_frozen BK127.out 4
     go_wp2_with (first | (go_at_call 43; (with_reducible refine (headgateref11_alone.calls a0_1 true _ A26.out).mono ?_); rintro e w' ⟨rfl, ⟨nd, rfl⟩⟩; (try first | exact ⟨rfl, _, World.drewN_drewN _ _ _⟩ | exact ⟨rfl, _, Eq.trans (World.drewN_drewN _ _ _) (congrArg (World.drewN _) (Nat.add_assoc _ _ _))⟩)) | (go_at_call 44; (with_reducible refine (headgateref10_Registered.calls k1 _ _ l0_0 a0_1 a0_2 a0_3 a0_4 a0_2 t134 _ ?side1 ?side2 A28.out).mono ?_); (case side1 => repeat (first | exact (Kd.C_below HR0_0.out (hb_ HB)) | (with_reducible refine Kd.C_alloc ?_ _) | (with_reducible refine Kd.C_drewN ?_ _) | (with_reducible refine Kd.C_drew ?_))); (case side2 => exact HC0_0.out); rintro e w30 ⟨rfl, hb⟩; have n0_ := Aside0.mk (blk_below (bk_ BK127) hb); have n1_ := Aside0.mk (below_step (hb_ HB) hb); clear BK127; clear HB; have BK127 := n0_; have HB := n1_; clear n0_ n1_; (try clear hb); (try clear hb2); (try clear hk); (try clear hi)))
     repeat (go_quiet (first | (go_at_call 43; (with_reducible refine (headgateref11_alone.calls a0_1 true _ A26.out).mono ?_); rintro e w' ⟨rfl, ⟨nd, rfl⟩⟩; (try first | exact ⟨rfl, _, World.drewN_drewN _ _ _⟩ | exact ⟨rfl, _, Eq.trans (World.drewN_drewN _ _ _) (congrArg (World.drewN _) (Nat.add_assoc _ _ _))⟩)) | (go_at_call 44; (with_reducible refine (headgateref10_Registered.calls k1 _ _ l0_0 a0_1 a0_2 a0_3 a0_4 a0_2 t134 _ ?side1 ?side2 A28.out).mono ?_); (case side1 => repeat (first | exact (Kd.C_below HR0_0.out (hb_ HB)) | (with_reducible refine Kd.C_alloc ?_ _) | (with_reducible refine Kd.C_drewN ?_ _) | (with_reducible refine Kd.C_drew ?_))); (case side2 => exact HC0_0.out); rintro e w30 ⟨rfl, hb⟩; have n0_ := Aside0.mk (blk_below (bk_ BK127) hb); have n1_ := Aside0.mk (below_step (hb_ HB) hb); clear BK127; clear HB; have BK127 := n0_; have HB := n1_; clear n0_ n1_; (try clear hb); (try clear hb2); (try clear hk); (try clear hi))); try go_wp2_with (first | (go_at_call 43; (with_reducible refine (headgateref11_alone.calls a0_1 true _ A26.out).mono ?_); rintro e w' ⟨rfl, ⟨nd, rfl⟩⟩; (try first | exact ⟨rfl, _, World.drewN_drewN _ _ _⟩ | exact ⟨rfl, _, Eq.trans (World.drewN_drewN _ _ _) (congrArg (World.drewN _) (Nat.add_assoc _ _ _))⟩)) | (go_at_call 44; (with_reducible refine (headgateref10_Registered.calls k1 _ _ l0_0 a0_1 a0_2 a0_3 a0_4 a0_2 t134 _ ?side1 ?side2 A28.out).mono ?_); (case side1 => repeat (first | exact (Kd.C_below HR0_0.out (hb_ HB)) | (with_reducible refine Kd.C_alloc ?_ _) | (with_reducible refine Kd.C_drewN ?_ _) | (with_reducible refine Kd.C_drew ?_))); (case side2 => exact HC0_0.out); rintro e w30 ⟨rfl, hb⟩; have n0_ := Aside0.mk (blk_below (bk_ BK127) hb); have n1_ := Aside0.mk (below_step (hb_ HB) hb); clear BK127; clear HB; have BK127 := n0_; have HB := n1_; clear n0_ n1_; (try clear hb); (try clear hb2); (try clear hk); (try clear hi))))
     go_ret
     exact ⟨by first | rfl | (simp [errW_none, errW_some] <;> rfl) | (simp [*, errW_none, errW_some] <;> rfl) | (simp [bt, *]; done) | (unfold bt; simp [*]; done), by repeat (first | (with_reducible first | exact HB.out | apply below_alloc | apply pw_below_drewN | apply below_drew1 | refine below_set ?_ GE127.out) | exact HB.out)⟩
    replace c27 := Bool.eq_false_iff.mpr c27
    subst c27
    have H1 := H
    rw [if_neg (show ¬ (false = true) by decide)] at H1
    clear H
    have H := H1
    clear H1
    replace H := Option.bind_eq_some_iff.mp H
    obtain ⟨t135, A310, H⟩ := H
    try dsimp only at H
    have A31 := Aside0.mk A310
    clear A310
    refine neg_first (p := (t135 = true)) (fun c32 => ?_) (fun c32 => ?_)
    ·replace c32 := Bool.eq_false_iff.mpr c32
     subst c32
     have H1 := H
     rw [if_neg (show ¬ (false = true) by decide)] at H1
     clear H
     have H := H1
     clear H1
     obtain rfl := Option.some.inj H
     have hcz36_0 : wr.cell? ⟨gb127, 0, none⟩ = some (.slice A0_0 l0_0.length c0_0) := (blk_cell BK127.out 0).trans rfl
     have hcz36_1 : wr.cell? ⟨gb127, 1, none⟩ = some (.int .i64 a0_1) := (blk_cell BK127.out 1).trans rfl
     have hcz36_2 : wr.cell? ⟨gb127, 2, none⟩ = some (.string a0_2) := (blk_cell BK127.out 2).trans rfl
     have hcz36_3 : wr.cell? ⟨gb127, 3, none⟩ = some (.int .u32 a0_3) := (blk_cell BK127.out 3).trans rfl
     have hcz36_4 : wr.cell? ⟨gb127, 4, none⟩ = some (.bool a0_4) := (blk_cell BK127.out 4).trans rfl
     have hfz36_0 := blk_frozen BK127.out 0
     have hfz36_1 := blk_frozen BK127.out 1
     have hfz36_2 := blk_frozen BK127.out 2
     have hfz36_3 := blk_frozen BK127.out 3
     have hfz36_4 := blk_frozen BK127.out 4
     go_wp2_with (first | (go_at_call 43; (with_reducible refine (headgateref11_alone.calls a0_1 false _ A26.out).mono ?_); rintro e w' ⟨rfl, ⟨nd, rfl⟩⟩; (try first | exact ⟨rfl, _, World.drewN_drewN _ _ _⟩ | exact ⟨rfl, _, Eq.trans (World.drewN_drewN _ _ _) (congrArg (World.drewN _) (Nat.add_assoc _ _ _))⟩)) | (go_at_call 38; (with_reducible refine (headgateref10_Type.calls a0_1 false _ A31.out).mono ?_); rintro e w' ⟨rfl, ⟨nd, rfl⟩⟩; (try first | exact ⟨rfl, _, World.drewN_drewN _ _ _⟩ | exact ⟨rfl, _, Eq.trans (World.drewN_drewN _ _ _) (congrArg (World.drewN _) (Nat.add_assoc _ _ _))⟩)))
     repeat (go_quiet (first | (go_at_call 43; (with_reducible refine (headgateref11_alone.calls a0_1 false _ A26.out).mono ?_); rintro e w' ⟨rfl, ⟨nd, rfl⟩⟩; (try first | exact ⟨rfl, _, World.drewN_drewN _ _ _⟩ | exact ⟨rfl, _, Eq.trans (World.drewN_drewN _ _ _) (congrArg (World.drewN _) (Nat.add_assoc _ _ _))⟩)) | (go_at_call 38; (with_reducible refine (headgateref10_Type.calls a0_1 false _ A31.out).mono ?_); rintro e w' ⟨rfl, ⟨nd, rfl⟩⟩; (try first | exact ⟨rfl, _, World.drewN_drewN _ _ _⟩ | exact ⟨rfl, _, Eq.trans (World.drewN_drewN _ _ _) (congrArg (World.drewN _) (Nat.add_assoc _ _ _))⟩))); try go_wp2_with (first | (go_at_call 43; (with_reducible refine (headgateref11_alone.calls a0_1 false _ A26.out).mono ?_); rintro e w' ⟨rfl, ⟨nd, rfl⟩⟩; (try first | exact ⟨rfl, _, World.drewN_drewN _ _ _⟩ | exact ⟨rfl, _, Eq.trans (World.drewN_drewN _ _ _) (congrArg (World.drewN _) (Nat.add_assoc _ _ _))⟩)) | (go_at_call 38; (with_reducible refine (headgateref10_Type.calls a0_1 false _ A31.out).mono ?_); rintro e w' ⟨rfl, ⟨nd, rfl⟩⟩; (try first | exact ⟨rfl, _, World.drewN_drewN _ _ _⟩ | exact ⟨rfl, _, Eq.trans (World.drewN_drewN _ _ _) (congrArg (World.drewN _) (Nat.add_assoc _ _ _))⟩))))
     go_ret
     exact ⟨by first | rfl | (simp [errW_none, errW_some] <;> rfl) | (simp [*, errW_none, errW_some] <;> rfl) | (simp [bt, *]; done) | (unfold bt; simp [*]; done), by repeat (first | (with_reducible first | exact HB.out | apply below_alloc | apply pw_below_drewN | apply below_drew1 | refine below_set ?_ GE127.out) | exact HB.out)⟩
    subst c32
    have H1 := H
    rw [if_pos rfl] at H1
    clear H
    have H := H1
    clear H1
    refine neg_first (p := (a0_2.toList = ([] : List UInt8))) (fun c33 => ?_) (fun c33 => ?_)
    ·rw [if_neg c33] at H
     have c33b0 : (a0_2.toList == ([] : List UInt8)) = false := beq_eq_false_iff_ne.mpr c33
     have c33b1 : (a0_2.toList != ([] : List UInt8)) = true := bne_iff_ne.mpr c33
     (try (have c33b2 : (a0_2 = ByteArray.empty) = False := eq_false (fun h_ => c33 (by rw [h_, ByteArray.toList_eq]; rfl))))
     obtain rfl := Option.some.inj H
     have hcz35_0 : wr.cell? ⟨gb127, 0, none⟩ = some (.slice A0_0 l0_0.length c0_0) := (blk_cell BK127.out 0).trans rfl
     have hcz35_1 : wr.cell? ⟨gb127, 1, none⟩ = some (.int .i64 a0_1) := (blk_cell BK127.out 1).trans rfl
     have hcz35_2 : wr.cell? ⟨gb127, 2, none⟩ = some (.string a0_2) := (blk_cell BK127.out 2).trans rfl
     have hcz35_3 : wr.cell? ⟨gb127, 3, none⟩ = some (.int .u32 a0_3) := (blk_cell BK127.out 3).trans rfl
     have hcz35_4 : wr.cell? ⟨gb127, 4, none⟩ = some (.bool a0_4) := (blk_cell BK127.out 4).trans rfl
     have hfz35_0 := blk_frozen BK127.out 0
     have hfz35_1 := blk_frozen BK127.out 1
     have hfz35_2 := blk_frozen BK127.out 2
     have hfz35_3 := blk_frozen BK127.out 3
     have hfz35_4 := blk_frozen BK127.out 4
     go_wp2_with (first | (go_at_call 43; (with_reducible refine (headgateref11_alone.calls a0_1 false _ A26.out).mono ?_); rintro e w' ⟨rfl, ⟨nd, rfl⟩⟩; (try first | exact ⟨rfl, _, World.drewN_drewN _ _ _⟩ | exact ⟨rfl, _, Eq.trans (World.drewN_drewN _ _ _) (congrArg (World.drewN _) (Nat.add_assoc _ _ _))⟩)) | (go_at_call 38; (with_reducible refine (headgateref10_Type.calls a0_1 true _ A31.out).mono ?_); rintro e w' ⟨rfl, ⟨nd, rfl⟩⟩; (try first | exact ⟨rfl, _, World.drewN_drewN _ _ _⟩ | exact ⟨rfl, _, Eq.trans (World.drewN_drewN _ _ _) (congrArg (World.drewN _) (Nat.add_assoc _ _ _))⟩)))
     repeat (go_quiet (first | (go_at_call 43; (with_reducible refine (headgateref11_alone.calls a0_1 false _ A26.out).mono ?_); rintro e w' ⟨rfl, ⟨nd, rfl⟩⟩; (try first | exact ⟨rfl, _, World.drewN_drewN _ _ _⟩ | exact ⟨rfl, _, Eq.trans (World.drewN_drewN _ _ _) (congrArg (World.drewN _) (Nat.add_assoc _ _ _))⟩)) | (go_at_call 38; (with_reducible refine (headgateref10_Type.calls a0_1 true _ A31.out).mono ?_); rintro e w' ⟨rfl, ⟨nd, rfl⟩⟩; (try first | exact ⟨rfl, _, World.drewN_drewN _ _ _⟩ | exact ⟨rfl, _, Eq.trans (World.drewN_drewN _ _ _) (congrArg (World.drewN _) (Nat.add_assoc _ _ _))⟩))); try go_wp2_with (first | (go_at_call 43; (with_reducible refine (headgateref11_alone.calls a0_1 false _ A26.out).mono ?_); rintro e w' ⟨rfl, ⟨nd, rfl⟩⟩; (try first | exact ⟨rfl, _, World.drewN_drewN _ _ _⟩ | exact ⟨rfl, _, Eq.trans (World.drewN_drewN _ _ _) (congrArg (World.drewN _) (Nat.add_assoc _ _ _))⟩)) | (go_at_call 38; (with_reducible refine (headgateref10_Type.calls a0_1 true _ A31.out).mono ?_); rintro e w' ⟨rfl, ⟨nd, rfl⟩⟩; (try first | exact ⟨rfl, _, World.drewN_drewN _ _ _⟩ | exact ⟨rfl, _, Eq.trans (World.drewN_drewN _ _ _) (congrArg (World.drewN _) (Nat.add_assoc _ _ _))⟩))))
     go_ret
     exact ⟨by first | rfl | (simp [errW_none, errW_some] <;> rfl) | (simp [*, errW_none, errW_some] <;> rfl) | (simp [bt, *]; done) | (unfold bt; simp [*]; done), by repeat (first | (with_reducible first | exact HB.out | apply below_alloc | apply pw_below_drewN | apply below_drew1 | refine below_set ?_ GE127.out) | exact HB.out)⟩
    rw [if_pos c33] at H
    have c33b0 : (a0_2.toList == ([] : List UInt8)) = true := beq_iff_eq.mpr c33
    have c33b1 : (a0_2.toList != ([] : List UInt8)) = false := bne_eq_false_iff_eq.mpr c33
    (try (have c33b2 : (a0_2 = ByteArray.empty) = True := eq_true (by have h_ := c33; rw [ByteArray.toList_eq] at h_; exact ByteArray.ext (Array.toList_eq_nil_iff.mp h_))))
    clear c33
    obtain rfl := Option.some.inj H
    have hcz34_0 : wr.cell? ⟨gb127, 0, none⟩ = some (.slice A0_0 l0_0.length c0_0) := (blk_cell BK127.out 0).trans rfl
    have hcz34_1 : wr.cell? ⟨gb127, 1, none⟩ = some (.int .i64 a0_1) := (blk_cell BK127.out 1).trans rfl
    have hcz34_2 : wr.cell? ⟨gb127, 2, none⟩ = some (.string a0_2) := (blk_cell BK127.out 2).trans rfl
    have hcz34_3 : wr.cell? ⟨gb127, 3, none⟩ = some (.int .u32 a0_3) := (blk_cell BK127.out 3).trans rfl
    have hcz34_4 : wr.cell? ⟨gb127, 4, none⟩ = some (.bool a0_4) := (blk_cell BK127.out 4).trans rfl
    have hfz34_0 := blk_frozen BK127.out 0
    have hfz34_1 := blk_frozen BK127.out 1
    have hfz34_2 := blk_frozen BK127.out 2
    have hfz34_3 := blk_frozen BK127.out 3
    have hfz34_4 := blk_frozen BK127.out 4
    go_wp2_with (first | (go_at_call 43; (with_reducible refine (headgateref11_alone.calls a0_1 false _ A26.out).mono ?_); rintro e w' ⟨rfl, ⟨nd, rfl⟩⟩; (try first | exact ⟨rfl, _, World.drewN_drewN _ _ _⟩ | exact ⟨rfl, _, Eq.trans (World.drewN_drewN _ _ _) (congrArg (World.drewN _) (Nat.add_assoc _ _ _))⟩)) | (go_at_call 38; (with_reducible refine (headgateref10_Type.calls a0_1 true _ A31.out).mono ?_); rintro e w' ⟨rfl, ⟨nd, rfl⟩⟩; (try first | exact ⟨rfl, _, World.drewN_drewN _ _ _⟩ | exact ⟨rfl, _, Eq.trans (World.drewN_drewN _ _ _) (congrArg (World.drewN _) (Nat.add_assoc _ _ _))⟩)))
    repeat (go_quiet (first | (go_at_call 43; (with_reducible refine (headgateref11_alone.calls a0_1 false _ A26.out).mono ?_); rintro e w' ⟨rfl, ⟨nd, rfl⟩⟩; (try first | exact ⟨rfl, _, World.drewN_drewN _ _ _⟩ | exact ⟨rfl, _, Eq.trans (World.drewN_drewN _ _ _) (congrArg (World.drewN _) (Nat.add_assoc _ _ _))⟩)) | (go_at_call 38; (with_reducible refine (headgateref10_Type.calls a0_1 true _ A31.out).mono ?_); rintro e w' ⟨rfl, ⟨nd, rfl⟩⟩; (try first | exact ⟨rfl, _, World.drewN_drewN _ _ _⟩ | exact ⟨rfl, _, Eq.trans (World.drewN_drewN _ _ _) (congrArg (World.drewN _) (Nat.add_assoc _ _ _))⟩))); try go_wp2_with (first | (go_at_call 43; (with_reducible refine (headgateref11_alone.calls a0_1 false _ A26.out).mono ?_); rintro e w' ⟨rfl, ⟨nd, rfl⟩⟩; (try first | exact ⟨rfl, _, World.drewN_drewN _ _ _⟩ | exact ⟨rfl, _, Eq.trans (World.drewN_drewN _ _ _) (congrArg (World.drewN _) (Nat.add_assoc _ _ _))⟩)) | (go_at_call 38; (with_reducible refine (headgateref10_Type.calls a0_1 true _ A31.out).mono ?_); rintro e w' ⟨rfl, ⟨nd, rfl⟩⟩; (try first | exact ⟨rfl, _, World.drewN_drewN _ _ _⟩ | exact ⟨rfl, _, Eq.trans (World.drewN_drewN _ _ _) (congrArg (World.drewN _) (Nat.add_assoc _ _ _))⟩))))
    go_ret
    exact ⟨by first | rfl | (simp [errW_none, errW_some] <;> rfl) | (simp [*, errW_none, errW_some] <;> rfl) | (simp [bt, *]; done) | (unfold bt; simp [*]; done), by repeat (first | (with_reducible first | exact HB.out | apply below_alloc | apply pw_below_drewN | apply below_drew1 | refine below_set ?_ GE127.out) | exact HB.out)⟩
   rw [if_pos c7] at H
   have c7b0 : decide (x3_1 < (l0_0.length : Int)) = true := decide_eq_true c7
   clear c7
   have HC8 := Aside0.mk H
   clear H
   have hcz9_0 : wr.cell? ⟨gb127, 0, none⟩ = some (.slice A0_0 l0_0.length c0_0) := (blk_cell BK127.out 0).trans rfl
   have hcz9_1 : wr.cell? ⟨gb127, 1, none⟩ = some (.int .i64 a0_1) := (blk_cell BK127.out 1).trans rfl
   have hcz9_2 : wr.cell? ⟨gb127, 2, none⟩ = some (.string a0_2) := (blk_cell BK127.out 2).trans rfl
   have hcz9_3 : wr.cell? ⟨gb127, 3, none⟩ = some (.int .u32 a0_3) := (blk_cell BK127.out 3).trans rfl
   have hcz9_4 : wr.cell? ⟨gb127, 4, none⟩ = some (.bool a0_4) := (blk_cell BK127.out 4).trans rfl
   have hfz9_0 := blk_frozen BK127.out 0
   have hfz9_1 := blk_frozen BK127.out 1
   have hfz9_2 := blk_frozen BK127.out 2
   have hfz9_3 := blk_frozen BK127.out 3
   have hfz9_4 := blk_frozen BK127.out 4
   go_upto_region 6 with (fail)
   repeat (go_quiet (fail); go_upto_region 6 with (fail))
   go_cut [32] (fun v32 wc => ∃ (kq : Nat) (x32_7 : Bool), v32 = .bool x32_7 ∧ Aside0 (headgateref11_Good.j1 kq x3_1 x32_7 l0_0 a0_1 a0_2 a0_3 a0_4 = some r) ∧ Aside0 (kq ≤ k1) ∧ Aside0 (wc.heap[gb127]? = some (.cells #[(.slice A0_0 l0_0.length c0_0), .int .i64 a0_1, .string a0_2, .int .u32 a0_3, .bool a0_4] 27 (0, 0))) ∧ Aside0 (Below w.heap.size w wc))
   case first =>
    have H := HC8.out
    clear HC8
    refine neg_first (p := (0 ≤ x3_1)) (fun c10 => ?_) (fun c10 => ?_)
    ·rw [if_neg c10] at H
     exact absurd H (by simp)
    rw [if_pos c10] at H
    have c10b0 : decide (0 ≤ x3_1) = true := decide_eq_true c10
    clear c10
    (first | rw [c10b0] | (simp only [i64_w, i32_w]; rw [c10b0]) | skip)
    replace H := Option.bind_eq_some_iff.mp H
    obtain ⟨t129, A110, H⟩ := H
    try dsimp only at H
    have A11 := Aside0.mk A110
    clear A110
    refine neg_first (p := (t129 = true)) (fun c12 => ?_) (fun c12 => ?_)
    ·replace c12 := Bool.eq_false_iff.mpr c12
     subst c12
     have H1 := H
     rw [if_neg (show ¬ (false = true) by decide)] at H1
     clear H
     have H := H1
     clear H1
     have H' := Aside0.mk H
     clear H
     have hcz14_0 : wr.cell? ⟨gb127, 0, none⟩ = some (.slice A0_0 l0_0.length c0_0) := (blk_cell BK127.out 0).trans rfl
     have hcz14_1 : wr.cell? ⟨gb127, 1, none⟩ = some (.int .i64 a0_1) := (blk_cell BK127.out 1).trans rfl
     have hcz14_2 : wr.cell? ⟨gb127, 2, none⟩ = some (.string a0_2) := (blk_cell BK127.out 2).trans rfl
     have hcz14_3 : wr.cell? ⟨gb127, 3, none⟩ = some (.int .u32 a0_3) := (blk_cell BK127.out 3).trans rfl
     have hcz14_4 : wr.cell? ⟨gb127, 4, none⟩ = some (.bool a0_4) := (blk_cell BK127.out 4).trans rfl
     have hfz14_0 := blk_frozen BK127.out 0
     have hfz14_1 := blk_frozen BK127.out 1
     have hfz14_2 := blk_frozen BK127.out 2
     have hfz14_3 := blk_frozen BK127.out 3
     have hfz14_4 := blk_frozen BK127.out 4
     have p128 : 0 ≤ (x3_1 : Int) := of_decide_eq_true (by first | (with_reducible assumption) | assumption)
     have q128 : x3_1 < (l0_0.length : Int) := of_decide_eq_true (by first | (with_reducible assumption) | assumption)
     obtain ⟨ad128, e128, hx128_0, hx128_1⟩ := at_T53 HR0_0.out x3_1 p128 q128
     cases e128
     replace hx128_0 := (HB.out.cell (World.block_lt_of_cell? w _ hx128_0)).trans hx128_0
     replace hx128_1 := (HB.out.cell (World.block_lt_of_cell? w _ hx128_1)).trans hx128_1
     replace p128 := eq_true p128
     replace q128 := eq_true q128
     go_wp2_with (first | (go_at_call 27; (with_reducible refine (headgateref03_Name.calls k1 ((rd_T53 l0_0 x3_1).f0) false _ A11.out).mono ?_); rintro e w' ⟨rfl, ⟨nd, rfl⟩⟩; (try first | exact ⟨rfl, _, World.drewN_drewN _ _ _⟩ | exact ⟨rfl, _, Eq.trans (World.drewN_drewN _ _ _) (congrArg (World.drewN _) (Nat.add_assoc _ _ _))⟩)))
     repeat (go_quiet (first | (go_at_call 27; (with_reducible refine (headgateref03_Name.calls k1 ((rd_T53 l0_0 x3_1).f0) false _ A11.out).mono ?_); rintro e w' ⟨rfl, ⟨nd, rfl⟩⟩; (try first | exact ⟨rfl, _, World.drewN_drewN _ _ _⟩ | exact ⟨rfl, _, Eq.trans (World.drewN_drewN _ _ _) (congrArg (World.drewN _) (Nat.add_assoc _ _ _))⟩))); try go_wp2_with (first | (go_at_call 27; (with_reducible refine (headgateref03_Name.calls k1 ((rd_T53 l0_0 x3_1).f0) false _ A11.out).mono ?_); rintro e w' ⟨rfl, ⟨nd, rfl⟩⟩; (try first | exact ⟨rfl, _, World.drewN_drewN _ _ _⟩ | exact ⟨rfl, _, Eq.trans (World.drewN_drewN _ _ _) (congrArg (World.drewN _) (Nat.add_assoc _ _ _))⟩))))
     go_meet
     case rel => exact ⟨_, (true), (by first | rfl | (simp; done) | (simp [*]; done)), H', ⟨by have := HK1.out; first | omega | exact Nat.le_refl _⟩, ⟨bk_ BK127⟩, ⟨hb_ HB⟩⟩
    subst c12
    have H1 := H
    rw [if_pos rfl] at H1
    clear H
    have H := H1
    clear H1
    have H' := Aside0.mk H
    clear H
    have hcz13_0 : wr.cell? ⟨gb127, 0, none⟩ = some (.slice A0_0 l0_0.length c0_0) := (blk_cell BK127.out 0).trans rfl
    have hcz13_1 : wr.cell? ⟨gb127, 1, none⟩ = some (.int .i64 a0_1) := (blk_cell BK127.out 1).trans rfl
    have hcz13_2 : wr.cell? ⟨gb127, 2, none⟩ = some (.string a0_2) := (blk_cell BK127.out 2).trans rfl
    have hcz13_3 : wr.cell? ⟨gb127, 3, none⟩ = some (.int .u32 a0_3) := (blk_cell BK127.out 3).trans rfl
    have hcz13_4 : wr.cell? ⟨gb127, 4, none⟩ = some (.bool a0_4) := (blk_cell BK127.out 4).trans rfl
    have hfz13_0 := blk_frozen BK127.out 0
    have hfz13_1 := blk_frozen BK127.out 1
    have hfz13_2 := blk_frozen BK127.out 2
    have hfz13_3 := blk_frozen BK127.out 3
    have hfz13_4 := blk_frozen BK127.out 4
    have p128 : 0 ≤ (x3_1 : Int) := of_decide_eq_true (by first | (with_reducible assumption) | assumption)
    have q128 : x3_1 < (l0_0.length : Int) := of_decide_eq_true (by first | (with_reducible assumption) | assumption)
    obtain ⟨ad128, e128, hx128_0, hx128_1⟩ := at_T53 HR0_0.out x3_1 p128 q128
    cases e128
    replace hx128_0 := (HB.out.cell (World.block_lt_of_cell? w _ hx128_0)).trans hx128_0
    replace hx128_1 := (HB.out.cell (World.block_lt_of_cell? w _ hx128_1)).trans hx128_1
    replace p128 := eq_true p128
    replace q128 := eq_true q128
    go_wp2_with (first | (go_at_call 27; (with_reducible refine (headgateref03_Name.calls k1 ((rd_T53 l0_0 x3_1).f0) true _ A11.out).mono ?_); rintro e w' ⟨rfl, ⟨nd, rfl⟩⟩; (try first | exact ⟨rfl, _, World.drewN_drewN _ _ _⟩ | exact ⟨rfl, _, Eq.trans (World.drewN_drewN _ _ _) (congrArg (World.drewN _) (Nat.add_assoc _ _ _))⟩); have p130 : 0 ≤ (x3_1 : Int) := of_decide_eq_true (by first | (with_reducible assumption) | assumption); have q130 : x3_1 < (l0_0.length : Int) := of_decide_eq_true (by first | (with_reducible assumption) | assumption); obtain ⟨ad130, e130, hx130_0, hx130_1⟩ := at_T53 HR0_0.out x3_1 p130 q130; obtain rfl : ad128 = ad130 := (by injection e130); replace hx130_0 := (HB.out.cell (World.block_lt_of_cell? w _ hx130_0)).trans hx130_0; replace hx130_1 := (HB.out.cell (World.block_lt_of_cell? w _ hx130_1)).trans hx130_1; replace p130 := eq_true p130; replace q130 := eq_true q130))
    repeat (go_quiet (first | (go_at_call 27; (with_reducible refine (headgateref03_Name.calls k1 ((rd_T53 l0_0 x3_1).f0) true _ A11.out).mono ?_); rintro e w' ⟨rfl, ⟨nd, rfl⟩⟩; (try first | exact ⟨rfl, _, World.drewN_drewN _ _ _⟩ | exact ⟨rfl, _, Eq.trans (World.drewN_drewN _ _ _) (congrArg (World.drewN _) (Nat.add_assoc _ _ _))⟩); have p130 : 0 ≤ (x3_1 : Int) := of_decide_eq_true (by first | (with_reducible assumption) | assumption); have q130 : x3_1 < (l0_0.length : Int) := of_decide_eq_true (by first | (with_reducible assumption) | assumption); obtain ⟨ad130, e130, hx130_0, hx130_1⟩ := at_T53 HR0_0.out x3_1 p130 q130; obtain rfl : ad128 = ad130 := (by injection e130); replace hx130_0 := (HB.out.cell (World.block_lt_of_cell? w _ hx130_0)).trans hx130_0; replace hx130_1 := (HB.out.cell (World.block_lt_of_cell? w _ hx130_1)).trans hx130_1; replace p130 := eq_true p130; replace q130 := eq_true q130)); try go_wp2_with (first | (go_at_call 27; (with_reducible refine (headgateref03_Name.calls k1 ((rd_T53 l0_0 x3_1).f0) true _ A11.out).mono ?_); rintro e w' ⟨rfl, ⟨nd, rfl⟩⟩; (try first | exact ⟨rfl, _, World.drewN_drewN _ _ _⟩ | exact ⟨rfl, _, Eq.trans (World.drewN_drewN _ _ _) (congrArg (World.drewN _) (Nat.add_assoc _ _ _))⟩); have p130 : 0 ≤ (x3_1 : Int) := of_decide_eq_true (by first | (with_reducible assumption) | assumption); have q130 : x3_1 < (l0_0.length : Int) := of_decide_eq_true (by first | (with_reducible assumption) | assumption); obtain ⟨ad130, e130, hx130_0, hx130_1⟩ := at_T53 HR0_0.out x3_1 p130 q130; obtain rfl : ad128 = ad130 := (by injection e130); replace hx130_0 := (HB.out.cell (World.block_lt_of_cell? w _ hx130_0)).trans hx130_0; replace hx130_1 := (HB.out.cell (World.block_lt_of_cell? w _ hx130_1)).trans hx130_1; replace p130 := eq_true p130; replace q130 := eq_true q130)))
    go_meet
    case rel => exact ⟨_, ((((rd_T53 l0_0 x3_1).f1) == 0)), (by first | rfl | (simp; done) | (simp [*]; done)), H', ⟨by have := HK1.out; first | omega | exact Nat.le_refl _⟩, ⟨bk_ BK127⟩, ⟨hb_ HB⟩⟩
   case rest =>
    clear HC8
    try clear c1
    try clear p1
    try clear q1
    try clear hx1
    try clear c2
    try clear c2b0
    try clear c2b1
    try clear p2
    try clear c7
    try clear c7b0
    try clear c10
    try clear c10b0
    try clear c12
    try clear p12
    try clear q12
    try clear hx12
    try clear p13
    try clear q13
    try clear hx13
    try clear hcz13_0
    try clear hcz13_1
    try clear hcz13_2
    try clear hcz13_3
    try clear hcz13_4
    try clear hcz14_0
    try clear hcz14_1
    try clear hcz14_2
    try clear hcz14_3
    try clear hcz14_4
    try clear hcz4_0
    try clear hcz4_1
    try clear hcz4_2
    try clear hcz4_3
    try clear hcz4_4
    try clear hcz6_0
    try clear hcz6_1
    try clear hcz6_2
    try clear hcz6_3
    try clear hcz6_4
    try clear hcz9_0
    try clear hcz9_1
    try clear hcz9_2
    try clear hcz9_3
    try clear hcz9_4
    try clear hfz13_0
    try clear hfz13_1
    try clear hfz13_2
    try clear hfz13_3
    try clear hfz13_4
    try clear hfz14_0
    try clear hfz14_1
    try clear hfz14_2
    try clear hfz14_3
    try clear hfz14_4
    try clear hfz4_0
    try clear hfz4_1
    try clear hfz4_2
    try clear hfz4_3
    try clear hfz4_4
    try clear hfz6_0
    try clear hfz6_1
    try clear hfz6_2
    try clear hfz6_3
    try clear hfz6_4
    try clear hfz9_0
    try clear hfz9_1
    try clear hfz9_2
    try clear hfz9_3
    try clear hfz9_4
    try clear hx128_0
    try clear hx128_1
    try clear hx130_0
    try clear hx130_1
    try clear p128
    try clear p130
    try clear p2
    try clear q128
    try clear q130
    obtain ⟨kq, x32_7, rfl, HA, HJ7, BK127, HB⟩ := hcut
    cases kq with
    | zero => exact absurd HA.out (by simp [headgateref11_Good.j1])
    | succ kj7 =>
     have H := HA.out
     clear HA
     simp only [headgateref11_Good.j1] at H
     by_cases c15 : x32_7 = true
     ·subst c15
      have H1 := H
      rw [if_pos rfl] at H1
      clear H
      have H := H1
      clear H1
      obtain rfl := Option.some.inj H
      go_wp2
      repeat (go_quiet (fail); try go_wp2)
      go_ret
      exact ⟨by first | rfl | (simp [errW_none, errW_some] <;> rfl) | (simp [*, errW_none, errW_some] <;> rfl) | (simp [bt, *]; done) | (unfold bt; simp [*]; done), by repeat (first | (with_reducible first | exact HB.out | apply below_alloc | apply pw_below_drewN | apply below_drew1 | refine below_set ?_ GE127.out) | exact HB.out)⟩
     replace c15 := Bool.eq_false_iff.mpr c15
     subst c15
     have H1 := H
     rw [if_neg (show ¬ (false = true) by decide)] at H1
     clear H
     have H := H1
     clear H1
     have H' := Aside0.mk H
     clear H
     go_wp2
     repeat (go_quiet (fail); try go_wp2)
     go_loopg [4] kj7 (fun kq v4 w' => ∃ (x4_3 : Int), v4 = .int .i64 x4_3 ∧ Aside0 (headgateref11_Good.l1 kq x3_1 x4_3 l0_0 a0_1 a0_2 a0_3 a0_4 = some r) ∧ Aside0 (kq ≤ kj7) ∧ Aside0 (w'.heap[gb127]? = some (.cells #[(.slice A0_0 l0_0.length c0_0), .int .i64 a0_1, .string a0_2, .int .u32 a0_3, .bool a0_4] 27 (0, 0))) ∧ Aside0 (Below w.heap.size w w'))
     case atStart => exact ⟨(0), (by first | rfl | (simp; done) | (simp [*]; done)), H', ⟨Nat.le_refl _⟩, ⟨bk_ BK127⟩, ⟨hb_ HB⟩⟩
     case round =>
      clear H'
      try clear c1
      try clear p1
      try clear q1
      try clear hx1
      try clear c2
      try clear c2b0
      try clear c2b1
      try clear p2
      try clear c7
      try clear c7b0
      try clear c10
      try clear c10b0
      try clear c12
      try clear p12
      try clear q12
      try clear hx12
      try clear p13
      try clear q13
      try clear hx13
      try clear c15
      try clear hcz13_0
      try clear hcz13_1
      try clear hcz13_2
      try clear hcz13_3
      try clear hcz13_4
      try clear hcz14_0
      try clear hcz14_1
      try clear hcz14_2
      try clear hcz14_3
      try clear hcz14_4
      try clear hcz4_0
      try clear hcz4_1
      try clear hcz4_2
      try clear hcz4_3
      try clear hcz4_4
      try clear hcz6_0
      try clear hcz6_1
      try clear hcz6_2
      try clear hcz6_3
      try clear hcz6_4
      try clear hcz9_0
      try clear hcz9_1
      try clear hcz9_2
      try clear hcz9_3
      try clear hcz9_4
      try clear hfz13_0
      try clear hfz13_1
      try clear hfz13_2
      try clear hfz13_3
      try clear hfz13_4
      try clear hfz14_0
      try clear hfz14_1
      try clear hfz14_2
      try clear hfz14_3
      try clear hfz14_4
      try clear hfz4_0
      try clear hfz4_1
      try clear hfz4_2
      try clear hfz4_3
      try clear hfz4_4
      try clear hfz6_0
      try clear hfz6_1
      try clear hfz6_2
      try clear hfz6_3
      try clear hfz6_4
      try clear hfz9_0
      try clear hfz9_1
      try clear hfz9_2
      try clear hfz9_3
      try clear hfz9_4
      try clear hx128_0
      try clear hx128_1
      try clear hx130_0
      try clear hx130_1
      try clear p1
      try clear p12
      try clear p128
      try clear p13
      try clear p130
      try clear p2
      try clear q1
      try clear q12
      try clear q128
      try clear q13
      try clear q130
      obtain ⟨x4_3, rfl, HA, HK3, BK127, HB⟩ := hrel
      cases gk with
      | zero => exact absurd HA.out (by simp [headgateref11_Good.l1])
      | succ k3 =>
       have H := HA.out
       clear HA
       simp only [headgateref11_Good.l1] at H
       refine neg_first (p := (x4_3 < x3_1)) (fun c16 => ?_) (fun c16 => ?_)
       ·rw [if_neg c16] at H
        have c16b0 : decide (x4_3 < x3_1) = false := decide_eq_false c16
        clear c16
        have H' := Aside0.mk H
        clear H
        go_wp2
        repeat (go_quiet (fail); try go_wp2)
        go_roundg k3
        case measure => have := HK1.out; have := HJ7.out; have := HK3.out; omega
        case rel => exact ⟨(wrap64 (x3_1 + 1)), (by first | rfl | (simp; done) | (simp [*]; done)), H', ⟨by have := HK1.out; have := HJ7.out; have := HK3.out; omega⟩, ⟨bk_ BK127⟩, ⟨hb_ HB⟩⟩
       rw [if_pos c16] at H
       have c16b0 : decide (x4_3 < x3_1) = true := decide_eq_true c16
       clear c16
       refine neg_first (p := (0 ≤ x4_3)) (fun c17 => ?_) (fun c17 => ?_)
       ·rw [if_neg c17] at H
        exact absurd H (by simp)
       rw [if_pos c17] at H
       have c17b0 : decide (0 ≤ x4_3) = true := decide_eq_true c17
       clear c17
       refine neg_first (p := (x4_3 < (l0_0.length : Int))) (fun c18 => ?_) (fun c18 => ?_)
       ·rw [if_neg c18] at H
        exact absurd H (by simp)
       rw [if_pos c18] at H
       have c18b0 : decide (x4_3 < (l0_0.length : Int)) = true := decide_eq_true c18
       clear c18
       refine neg_first (p := (0 ≤ x3_1)) (fun c19 => ?_) (fun c19 => ?_)
       ·rw [if_neg c19] at H
        exact absurd H (by simp)
       rw [if_pos c19] at H
       have c19b0 : decide (0 ≤ x3_1) = true := decide_eq_true c19
       clear c19
       refine neg_first (p := (x3_1 < (l0_0.length : Int))) (fun c20 => ?_) (fun c20 => ?_)
       ·rw [if_neg c20] at H
        exact absurd H (by simp)
       rw [if_pos c20] at H
       have c20b0 : decide (x3_1 < (l0_0.length : Int)) = true := decide_eq_true c20
       clear c20
       refine neg_first (p := (((rd_T53 l0_0 x4_3).f0).toList = ((rd_T53 l0_0 x3_1).f0).toList)) (fun c21 => ?_) (fun c21 => ?_)
       ·rw [if_neg c21] at H
        have c21b0 : (((rd_T53 l0_0 x4_3).f0).toList == ((rd_T53 l0_0 x3_1).f0).toList) = false := beq_eq_false_iff_ne.mpr c21
        have c21b1 : (((rd_T53 l0_0 x4_3).f0).toList != ((rd_T53 l0_0 x3_1).f0).toList) = true := bne_iff_ne.mpr c21
        have H' := Aside0.mk H
        clear H
        have hcz23_0 : wr.cell? ⟨gb127, 0, none⟩ = some (.slice A0_0 l0_0.length c0_0) := (blk_cell BK127.out 0).trans rfl
        have hcz23_1 : wr.cell? ⟨gb127, 1, none⟩ = some (.int .i64 a0_1) := (blk_cell BK127.out 1).trans rfl
        have hcz23_2 : wr.cell? ⟨gb127, 2, none⟩ = some (.string a0_2) := (blk_cell BK127.out 2).trans rfl
        have hcz23_3 : wr.cell? ⟨gb127, 3, none⟩ = some (.int .u32 a0_3) := (blk_cell BK127.out 3).trans rfl
        have hcz23_4 : wr.cell? ⟨gb127, 4, none⟩ = some (.bool a0_4) := (blk_cell BK127.out 4).trans rfl
        have hfz23_0 := blk_frozen BK127.out 0
        have hfz23_1 := blk_frozen BK127.out 1
        have hfz23_2 := blk_frozen BK127.out 2
        have hfz23_3 := blk_frozen BK127.out 3
        have hfz23_4 := blk_frozen BK127.out 4
        have p131 : 0 ≤ (x4_3 : Int) := of_decide_eq_true (by first | (with_reducible assumption) | assumption)
        have q131 : x4_3 < (l0_0.length : Int) := of_decide_eq_true (by first | (with_reducible assumption) | assumption)
        obtain ⟨ad131, e131, hx131_0, hx131_1⟩ := at_T53 HR0_0.out x4_3 p131 q131
        cases e131
        replace hx131_0 := (HB.out.cell (World.block_lt_of_cell? w _ hx131_0)).trans hx131_0
        replace hx131_1 := (HB.out.cell (World.block_lt_of_cell? w _ hx131_1)).trans hx131_1
        replace p131 := eq_true p131
        replace q131 := eq_true q131
        have p132 : 0 ≤ (x3_1 : Int) := of_decide_eq_true (by first | (with_reducible assumption) | assumption)
        have q132 : x3_1 < (l0_0.length : Int) := of_decide_eq_true (by first | (with_reducible assumption) | assumption)
        obtain ⟨ad132, e132, hx132_0, hx132_1⟩ := at_T53 HR0_0.out x3_1 p132 q132
        obtain rfl : ad131 = ad132 := (by injection e132)
        replace hx132_0 := (HB.out.cell (World.block_lt_of_cell? w _ hx132_0)).trans hx132_0
        replace hx132_1 := (HB.out.cell (World.block_lt_of_cell? w _ hx132_1)).trans hx132_1
        replace p132 := eq_true p132
        replace q132 := eq_true q132
        go_wp2
        repeat (go_quiet (fail); try go_wp2)
        go_roundg k3
        case measure => have := HK1.out; have := HJ7.out; have := HK3.out; omega
        case rel => exact ⟨(wrap64 (x4_3 + 1)), (by first | rfl | (simp; done) | (simp [*]; done)), H', ⟨by have := HK1.out; have := HJ7.out; have := HK3.out; omega⟩, ⟨bk_ BK127⟩, ⟨hb_ HB⟩⟩
       rw [if_pos c21] at H
       have c21b0 : (((rd_T53 l0_0 x4_3).f0).toList == ((rd_T53 l0_0 x3_1).f0).toList) = true := beq_iff_eq.mpr c21
       have c21b1 : (((rd_T53 l0_0 x4_3).f0).toList != ((rd_T53 l0_0 x3_1).f0).toList) = false := bne_eq_false_iff_eq.mpr c21
       clear c21
       obtain rfl := Option.some.inj H
       have hcz22_0 : wr.cell? ⟨gb127, 0, none⟩ = some (.slice A0_0 l0_0.length c0_0) := (blk_cell BK127.out 0).trans rfl
       have hcz22_1 : wr.cell? ⟨gb127, 1, none⟩ = some (.int .i64 a0_1) := (blk_cell BK127.out 1).trans rfl
       have hcz22_2 : wr.cell? ⟨gb127, 2, none⟩ = some (.string a0_2) := (blk_cell BK127.out 2).trans rfl
       have hcz22_3 : wr.cell? ⟨gb127, 3, none⟩ = some (.int .u32 a0_3) := (blk_cell BK127.out 3).trans rfl
       have hcz22_4 : wr.cell? ⟨gb127, 4, none⟩ = some (.bool a0_4) := (blk_cell BK127.out 4).trans rfl
       have hfz22_0 := blk_frozen BK127.out 0
       have hfz22_1 := blk_frozen BK127.out 1
       have hfz22_2 := blk_frozen BK127.out 2
       have hfz22_3 := blk_frozen BK127.out 3
       have hfz22_4 := blk_frozen BK127.out 4
       have p131 : 0 ≤ (x4_3 : Int) := of_decide_eq_true (by first | (with_reducible assumption) | assumption)
       have q131 : x4_3 < (l0_0.length : Int) := of_decide_eq_true (by first | (with_reducible assumption) | assumption)
       obtain ⟨ad131, e131, hx131_0, hx131_1⟩ := at_T53 HR0_0.out x4_3 p131 q131
       cases e131
       replace hx131_0 := (HB.out.cell (World.block_lt_of_cell? w _ hx131_0)).trans hx131_0
       replace hx131_1 := (HB.out.cell (World.block_lt_of_cell? w _ hx131_1)).trans hx131_1
       replace p131 := eq_true p131
       replace q131 := eq_true q131
       have p132 : 0 ≤ (x3_1 : Int) := of_decide_eq_true (by first | (with_reducible assumption) | assumption)
       have q132 : x3_1 < (l0_0.length : Int) := of_decide_eq_true (by first | (with_reducible assumption) | assumption)
       obtain ⟨ad132, e132, hx132_0, hx132_1⟩ := at_T53 HR0_0.out x3_1 p132 q132
       obtain rfl : ad131 = ad132 := (by injection e132)
       replace hx132_0 := (HB.out.cell (World.block_lt_of_cell? w _ hx132_0)).trans hx132_0
       replace hx132_1 := (HB.out.cell (World.block_lt_of_cell? w _ hx132_1)).trans hx132_1
       replace p132 := eq_true p132
       replace q132 := eq_true q132
       go_wp2
       repeat (go_quiet (fail); try go_wp2)
       go_ret
       exact ⟨by first | rfl | (simp [errW_none, errW_some] <;> rfl) | (simp [*, errW_none, errW_some] <;> rfl) | (simp [bt, *]; done) | (unfold bt; simp [*]; done), by repeat (first | (with_reducible first | exact HB.out | apply below_alloc | apply pw_below_drewN | apply below_drew1 | refine below_set ?_ GE127.out) | exact HB.out)⟩
end Go.Proofs.YtjogkfcjlljjcaaDoor.P
namespace Go.Proofs.YtjogkfcjlljjcaaDoor.P
open Go.RowKit Go.Proofs.YtjogkfcjlljjcaaDoorW.PrintWords Go.Proofs.YtjogkfcjlljjcaaDoorW.PrintLast Go.Proofs.YtjogkfcjlljjcaaDoorW.PrintMore
attribute [local go_sem] max2_int min2_int max_two min_two max_three min_three max_four min_four   -- for this text's walks alone
set_option linter.unusedVariables false
set_option linter.unusedSimpArgs false
set_option linter.unnecessarySimpa false
def headgatekeep_Regs.l0 : Nat → List (S53) → List (S53) → Int → Option (Bool)
  | 0, _, _, _ => none
  | k + 1, x0, x1, x5 => if x5 < (x0.length : Int) then (if 0 ≤ x5 then (if x5 < (x1.length : Int) then (if ((rd_T53 x0 x5).f0).toList = ((rd_T53 x1 x5).f0).toList then (if ((rd_T53 x0 x5).f1) = ((rd_T53 x1 x5).f1) then (headgatekeep_Regs.l0 k x0 x1 (wrap64 (x5 + 1))) else (some false)) else (some false)) else (none)) else (none)) else (some true)
def headgatekeep_Regs.f (k : Nat) (l0 : List (S53)) (l1 : List (S53)) : Option (Bool) := if (l0.length : Int) = (l1.length : Int) then (headgatekeep_Regs.l0 k l0 l1 0) else (some false)
def headgatekeep_Tables.f (k : Nat) (l0_0 : List (S53)) (a0_1 : Int) (a0_2 : ByteArray) (a0_3 : Int) (a0_4 : Bool) (l1_0 : List (S53)) (a1_1 : Int) (a1_2 : ByteArray) (a1_3 : Int) (a1_4 : Bool) : Option (Bool) := (headgatekeep_Regs.f k l0_0 l1_0).bind fun t229 => (if t229 = true then (if a0_1 = a1_1 then (if a0_2.toList = a1_2.toList then (if a0_3 = a1_3 then (some (a0_4 == a1_4)) else (some false)) else (some false)) else (some false)) else (some false))
def resv_Key.l0 : Nat → ByteArray → List (S53) → Int → Int → Option (Int)
 | 0, _, _, _, _ => none
 | k + 1, x1, x8, x9, x10 => if x10 < x9 then (if 0 ≤ x10 then (if x10 < (x8.length : Int) then (if ((rd_T53 x8 x10).f0).toList = x1.toList then (some ((rd_T53 x8 x10).f1)) else (resv_Key.l0 k x1 x8 x9 (wrap64 (x10 + 1)))) else (none)) else (none)) else (some 0)
def resv_Key.f (k : Nat) (l0_0 : List (S53)) (a0_1 : Int) (a0_2 : ByteArray) (a0_3 : Int) (a0_4 : Bool) (a1 : ByteArray) : Option (Int) := resv_Key.l0 k a1 l0_0 (l0_0.length : Int) 0
theorem resv_Key.mono_l : ∀ k, (∀ y0 y1 y2 y3, LeO (resv_Key.l0 k y0 y1 y2 y3) (resv_Key.l0 (k + 1) y0 y1 y2 y3))
 | 0 => fun _ _ _ _ r h => by simp [resv_Key.l0] at h
 | k + 1 => by
  have ih0 := resv_Key.mono_l k
  ·intro y0 y1 y2 y3
   unfold resv_Key.l0
   repeat' first
   | (with_reducible exact ih0 _ _ _ _)
   | (with_reducible exact LeO.refl _)
   | (with_reducible exact LeO.none _)
   | (with_reducible refine LeO.ite ?_ ?_)
   | (with_reducible refine LeO.bind ?_ (fun _ => ?_))
   | exact ih0 _ _ _ _
   | exact LeO.none _
   | refine LeO.ite ?_ ?_
   | refine LeO.bind ?_ (fun _ => ?_)
theorem resv_Key.mono : ∀ a0 a1 a2 a3 a4 a5 k, LeO (resv_Key.f k a0 a1 a2 a3 a4 a5) (resv_Key.f (k + 1) a0 a1 a2 a3 a4 a5) := by
 intro a0 a1 a2 a3 a4 a5 k
 have ih0 := resv_Key.mono_l k
 unfold resv_Key.f
 repeat' first
   | (with_reducible exact ih0 _ _ _ _)
   | (with_reducible exact LeO.refl _)
   | (with_reducible exact LeO.none _)
   | (with_reducible refine LeO.ite ?_ ?_)
   | (with_reducible refine LeO.bind ?_ (fun _ => ?_))
   | exact ih0 _ _ _ _
   | exact LeO.none _
   | refine LeO.ite ?_ ?_
   | refine LeO.bind ?_ (fun _ => ?_)
set_option maxHeartbeats 8000000 in
set_option maxRecDepth 100000 in
theorem resv_Key.calls (k : Nat) (A0_0 : Option Addr) (c0_0 : Nat) (l0_0 : List (S53)) (a0_1 : Int) (a0_2 : ByteArray) (a0_3 : Int) (a0_4 : Bool) (a1 : ByteArray) (r : Int) (w : World) (hr0_0 : Kd.C k53 w A0_0 l0_0.length l0_0) (hc0_0 : l0_0.length ≤ c0_0) (h : resv_Key.f k l0_0 a0_1 a0_2 a0_3 a0_4 a1 = some r) :
  Calls Tryd.prog 24 #[.agg #[.slice A0_0 l0_0.length c0_0, .int .i64 a0_1, .string a0_2, .int .u32 a0_3, .bool a0_4], .string a1] w fun e w' => e = .returned (.int .u64 r) ∧ Below w.heap.size w w' := by
 have hu27 := Tryd.underlying27
 have hu53 := Tryd.underlying53
 have HR0_0 := Aside0.mk hr0_0
 have HC0_0 := Aside0.mk hc0_0
 clear hr0_0 hc0_0
 have HB := Aside0.mk (Below.refl w.heap.size w)
 have H : (resv_Key.l0 k a1 l0_0 (l0_0.length : Int) 0) = some r := h
 clear h
 have H' := Aside0.mk H
 clear H
 go_enter Tryd.func24, Tryd.ntmps24
 go_wp2_with (first | ((with_reducible refine gate_dst (N := 2) rfl ?_); refine box_event ?hg (N := 2) ?hd (cs := #[.slice A0_0 l0_0.length c0_0, .int .i64 a0_1, .string a0_2, .int .u32 a0_3, .bool a0_4]) (t := 27) ?hr ?_; (case hd => rfl); (case hg => rfl); (case hr => first | (go_simp; done) | (go_simp; rfl)); intro gb253 hg w3 hbox hb; have n0_ := Aside0.mk (below_step (hb_ HB) hb); have n1_ := Aside0.mk (hbox); have n2_ := Aside0.mk ((by rw [hg]; exact (below_size (hb_ HB)) : w.heap.size ≤ gb253)); have n3_ := Aside0.mk ((by rw [hg]; exact (below_size (hb_ HB)) : w.heap.size ≤ gb253)); clear HB; have HB := n0_; have BK253 := n1_; have GW253 := n2_; have GE253 := n3_; clear n0_ n1_ n2_ n3_; clear hb hbox hg; have hcz4_0 : w3.cell? ⟨gb253, 0, none⟩ = some (.slice A0_0 l0_0.length c0_0) := (blk_cell BK253.out 0).trans rfl; have hcz4_1 : w3.cell? ⟨gb253, 1, none⟩ = some (.int .i64 a0_1) := (blk_cell BK253.out 1).trans rfl; have hcz4_2 : w3.cell? ⟨gb253, 2, none⟩ = some (.string a0_2) := (blk_cell BK253.out 2).trans rfl; have hcz4_3 : w3.cell? ⟨gb253, 3, none⟩ = some (.int .u32 a0_3) := (blk_cell BK253.out 3).trans rfl; have hcz4_4 : w3.cell? ⟨gb253, 4, none⟩ = some (.bool a0_4) := (blk_cell BK253.out 4).trans rfl; have hfz4_0 := blk_frozen BK253.out 0; have hfz4_1 := blk_frozen BK253.out 1; have hfz4_2 := blk_frozen BK253.out 2; have hfz4_3 := blk_frozen BK253.out 3; have hfz4_4 := blk_frozen BK253.out 4))
 go_loopg [10] k (fun kq v10 w' => ∃ (x10_1 : Int), v10 = .int .i64 x10_1 ∧ Aside0 (resv_Key.l0 kq a1 l0_0 (l0_0.length : Int) x10_1 = some r) ∧ Aside0 (kq ≤ k) ∧ Aside0 (w'.heap[gb253]? = some (.cells #[(.slice A0_0 l0_0.length c0_0), .int .i64 a0_1, .string a0_2, .int .u32 a0_3, .bool a0_4] 27 (0, 0))) ∧ Aside0 (Below w.heap.size w w'))
 case atStart => exact ⟨(0), (by first | rfl | (simp; done) | (simp [*]; done)), H', ⟨Nat.le_refl _⟩, ⟨bk_ BK253⟩, ⟨hb_ HB⟩⟩
 case round =>
  clear H'
  try clear c2
  try clear p2
  try clear hcz4_0
  try clear hcz4_1
  try clear hcz4_2
  try clear hcz4_3
  try clear hcz4_4
  try clear hfz4_0
  try clear hfz4_1
  try clear hfz4_2
  try clear hfz4_3
  try clear hfz4_4
  obtain ⟨x10_1, rfl, HA, HK1, BK253, HB⟩ := hrel
  cases gk with
  | zero => exact absurd HA.out (by simp [resv_Key.l0])
  | succ k1 =>
   have H := HA.out
   clear HA
   simp only [resv_Key.l0] at H
   refine neg_first (p := (x10_1 < (l0_0.length : Int))) (fun c5 => ?_) (fun c5 => ?_)
   ·rw [if_neg c5] at H
    have c5b0 : decide (x10_1 < (l0_0.length : Int)) = false := decide_eq_false c5
    clear c5
    obtain rfl := Option.some.inj H
    go_wp2
    go_ret
    exact ⟨by first | rfl | (simp [errW_none, errW_some] <;> rfl) | (simp [*, errW_none, errW_some] <;> rfl) | (simp [bt, *]; done) | (unfold bt; simp [*]; done), by repeat (first | (with_reducible first | exact HB.out | apply below_alloc | apply pw_below_drewN | apply below_drew1 | refine below_set ?_ GE253.out) | exact HB.out)⟩
   rw [if_pos c5] at H
   have c5b0 : decide (x10_1 < (l0_0.length : Int)) = true := decide_eq_true c5
   clear c5
   refine neg_first (p := (0 ≤ x10_1)) (fun c6 => ?_) (fun c6 => ?_)
   ·rw [if_neg c6] at H
    exact absurd H (by simp)
   rw [if_pos c6] at H
   have c6b0 : decide (0 ≤ x10_1) = true := decide_eq_true c6
   clear c6
   refine neg_first (p := (x10_1 < (l0_0.length : Int))) (fun c7 => ?_) (fun c7 => ?_)
   ·rw [if_neg c7] at H
    exact absurd H (by simp)
   rw [if_pos c7] at H
   have c7b0 : decide (x10_1 < (l0_0.length : Int)) = true := decide_eq_true c7
   clear c7
   refine neg_first (p := (((rd_T53 l0_0 x10_1).f0).toList = a1.toList)) (fun c8 => ?_) (fun c8 => ?_)
   ·rw [if_neg c8] at H
    have c8b0 : (((rd_T53 l0_0 x10_1).f0).toList == a1.toList) = false := beq_eq_false_iff_ne.mpr c8
    have c8b1 : (((rd_T53 l0_0 x10_1).f0).toList != a1.toList) = true := bne_iff_ne.mpr c8
    have H' := Aside0.mk H
    clear H
    have p254 : 0 ≤ (x10_1 : Int) := of_decide_eq_true (by first | (with_reducible assumption) | assumption)
    have q254 : x10_1 < (l0_0.length : Int) := of_decide_eq_true (by first | (with_reducible assumption) | assumption)
    obtain ⟨ad254, e254, hx254_0, hx254_1⟩ := at_T53 HR0_0.out x10_1 p254 q254
    cases e254
    replace hx254_0 := (HB.out.cell (World.block_lt_of_cell? w _ hx254_0)).trans hx254_0
    replace hx254_1 := (HB.out.cell (World.block_lt_of_cell? w _ hx254_1)).trans hx254_1
    replace p254 := eq_true p254
    replace q254 := eq_true q254
    go_wp2_with (first | ((with_reducible refine gate_dst (N := 6) rfl ?_); refine box_event ?hg (N := 6) ?hd (cs := #[.string (⟨#[]⟩ : ByteArray), .int .u64 0]) (t := 53) ?hr ?_; (case hd => rfl); (case hg => rfl); (case hr => first | (go_simp; done) | (go_simp; rfl)); intro gb255 hg w12 hbox hb; have n0_ := Aside0.mk (blk_below (bk_ BK253) hb); have n1_ := Aside0.mk (below_step (hb_ HB) hb); have n2_ := Aside0.mk (hbox); have n3_ := Aside0.mk ((by rw [hg]; exact (below_size (hb_ HB)) : w.heap.size ≤ gb255)); have n4_ := Aside0.mk ((by rw [hg]; exact (below_size (hb_ HB)) : w.heap.size ≤ gb255)); have n5_ := Aside0.mk ((by rw [hg]; exact Nat.ne_of_lt (blk_lt (g := gb253) (o := .cells #[.slice (some ad254) l0_0.length c0_0, .int .i64 a0_1, .string a0_2, .int .u32 a0_3, .bool a0_4] 27 (0, 0)) (bk_ BK253)) : gb253 ≠ gb255)); have n6_ := Aside0.mk ((by rw [hg]; exact Nat.ne_of_gt (blk_lt (g := gb253) (o := .cells #[.slice (some ad254) l0_0.length c0_0, .int .i64 a0_1, .string a0_2, .int .u32 a0_3, .bool a0_4] 27 (0, 0)) (bk_ BK253)) : gb255 ≠ gb253)); clear BK253; clear HB; have BK253 := n0_; have HB := n1_; have BK255 := n2_; have GW255 := n3_; have GE255 := n4_; have NB253_255 := n5_; have NB255_253 := n6_; clear n0_ n1_ n2_ n3_ n4_ n5_ n6_; clear hb hbox hg; have hnb13 := NB255_253.out; have hnc13 := NB253_255.out; have hcz14_0 : w12.cell? ⟨gb255, 0, none⟩ = some (.string (⟨#[]⟩ : ByteArray)) := (blk_cell BK255.out 0).trans rfl; have hcz14_1 : w12.cell? ⟨gb255, 1, none⟩ = some (.int .u64 0) := (blk_cell BK255.out 1).trans rfl; have hfz14_0 := blk_frozen BK255.out 0; have hfz14_1 := blk_frozen BK255.out 1))
    go_roundg k1
    case measure => have := HK1.out; omega
    case rel => exact ⟨(wrap64 (x10_1 + 1)), (by first | rfl | (simp; done) | (simp [*]; done)), H', ⟨by have := HK1.out; omega⟩, ⟨by (with_reducible repeat (first | refine blk_drewN ?_ _ | refine blk_drew ?_ | refine blk_alloc ?_ _ | refine blk_far ?_ NB253_255.out _)); exact BK253.out⟩, ⟨hb_ HB⟩⟩
   rw [if_pos c8] at H
   have c8b0 : (((rd_T53 l0_0 x10_1).f0).toList == a1.toList) = true := beq_iff_eq.mpr c8
   have c8b1 : (((rd_T53 l0_0 x10_1).f0).toList != a1.toList) = false := bne_eq_false_iff_eq.mpr c8
   clear c8
   obtain rfl := Option.some.inj H
   have p254 : 0 ≤ (x10_1 : Int) := of_decide_eq_true (by first | (with_reducible assumption) | assumption)
   have q254 : x10_1 < (l0_0.length : Int) := of_decide_eq_true (by first | (with_reducible assumption) | assumption)
   obtain ⟨ad254, e254, hx254_0, hx254_1⟩ := at_T53 HR0_0.out x10_1 p254 q254
   cases e254
   replace hx254_0 := (HB.out.cell (World.block_lt_of_cell? w _ hx254_0)).trans hx254_0
   replace hx254_1 := (HB.out.cell (World.block_lt_of_cell? w _ hx254_1)).trans hx254_1
   replace p254 := eq_true p254
   replace q254 := eq_true q254
   go_wp2_with (first | ((with_reducible refine gate_dst (N := 6) rfl ?_); refine box_event ?hg (N := 6) ?hd (cs := #[.string (⟨#[]⟩ : ByteArray), .int .u64 0]) (t := 53) ?hr ?_; (case hd => rfl); (case hg => rfl); (case hr => first | (go_simp; done) | (go_simp; rfl)); intro gb255 hg w9 hbox hb; have n0_ := Aside0.mk (blk_below (bk_ BK253) hb); have n1_ := Aside0.mk (below_step (hb_ HB) hb); have n2_ := Aside0.mk (hbox); have n3_ := Aside0.mk ((by rw [hg]; exact (below_size (hb_ HB)) : w.heap.size ≤ gb255)); have n4_ := Aside0.mk ((by rw [hg]; exact (below_size (hb_ HB)) : w.heap.size ≤ gb255)); have n5_ := Aside0.mk ((by rw [hg]; exact Nat.ne_of_lt (blk_lt (g := gb253) (o := .cells #[.slice (some ad254) l0_0.length c0_0, .int .i64 a0_1, .string a0_2, .int .u32 a0_3, .bool a0_4] 27 (0, 0)) (bk_ BK253)) : gb253 ≠ gb255)); have n6_ := Aside0.mk ((by rw [hg]; exact Nat.ne_of_gt (blk_lt (g := gb253) (o := .cells #[.slice (some ad254) l0_0.length c0_0, .int .i64 a0_1, .string a0_2, .int .u32 a0_3, .bool a0_4] 27 (0, 0)) (bk_ BK253)) : gb255 ≠ gb253)); clear BK253; clear HB; have BK253 := n0_; have HB := n1_; have BK255 := n2_; have GW255 := n3_; have GE255 := n4_; have NB253_255 := n5_; have NB255_253 := n6_; clear n0_ n1_ n2_ n3_ n4_ n5_ n6_; clear hb hbox hg; have hnb10 := NB255_253.out; have hnc10 := NB253_255.out; have hcz11_0 : w9.cell? ⟨gb255, 0, none⟩ = some (.string (⟨#[]⟩ : ByteArray)) := (blk_cell BK255.out 0).trans rfl; have hcz11_1 : w9.cell? ⟨gb255, 1, none⟩ = some (.int .u64 0) := (blk_cell BK255.out 1).trans rfl; have hfz11_0 := blk_frozen BK255.out 0; have hfz11_1 := blk_frozen BK255.out 1))
   go_ret
   exact ⟨by first | rfl | (simp [errW_none, errW_some] <;> rfl) | (simp [*, errW_none, errW_some] <;> rfl) | (simp [bt, *]; done) | (unfold bt; simp [*]; done), by repeat (first | (with_reducible first | exact HB.out | apply below_alloc | apply pw_below_drewN | apply below_drew1 | refine below_set ?_ GE253.out | refine below_set ?_ GE255.out) | exact HB.out)⟩
end Go.Proofs.YtjogkfcjlljjcaaDoor.P
namespace Go.Proofs.YtjogkfcjlljjcaaDoor.P
open Go.RowKit Go.Proofs.YtjogkfcjlljjcaaDoorW.PrintWords Go.Proofs.YtjogkfcjlljjcaaDoorW.PrintLast Go.Proofs.YtjogkfcjlljjcaaDoorW.PrintMore
attribute [local go_sem] max2_int min2_int max_two min_two max_three min_three max_four min_four   -- for this text's walks alone
set_option linter.unusedVariables false
set_option linter.unusedSimpArgs false
set_option linter.unnecessarySimpa false
def access_registered.l0 : Nat → ByteArray → List (S53) → Int → Int → Option (Bool)
 | 0, _, _, _, _ => none
 | k + 1, x1, x8, x9, x10 => if x10 < x9 then (if 0 ≤ x10 then (if x10 < (x8.length : Int) then (if ((rd_T53 x8 x10).f0).toList = x1.toList then (some true) else (access_registered.l0 k x1 x8 x9 (wrap64 (x10 + 1)))) else (none)) else (none)) else (some false)
def access_registered.f (k : Nat) (l0_0 : List (S53)) (a0_1 : Int) (a0_2 : ByteArray) (a0_3 : Int) (a0_4 : Bool) (a1 : ByteArray) : Option (Bool) := access_registered.l0 k a1 l0_0 (l0_0.length : Int) 0
theorem access_registered.mono_l : ∀ k, (∀ y0 y1 y2 y3, LeO (access_registered.l0 k y0 y1 y2 y3) (access_registered.l0 (k + 1) y0 y1 y2 y3))
 | 0 => fun _ _ _ _ r h => by simp [access_registered.l0] at h
 | k + 1 => by
  have ih0 := access_registered.mono_l k
  ·intro y0 y1 y2 y3
   unfold access_registered.l0
   repeat' first
   | (with_reducible exact ih0 _ _ _ _)
   | (with_reducible exact LeO.refl _)
   | (with_reducible exact LeO.none _)
   | (with_reducible refine LeO.ite ?_ ?_)
   | (with_reducible refine LeO.bind ?_ (fun _ => ?_))
   | exact ih0 _ _ _ _
   | exact LeO.none _
   | refine LeO.ite ?_ ?_
   | refine LeO.bind ?_ (fun _ => ?_)
theorem access_registered.mono : ∀ a0 a1 a2 a3 a4 a5 k, LeO (access_registered.f k a0 a1 a2 a3 a4 a5) (access_registered.f (k + 1) a0 a1 a2 a3 a4 a5) := by
 intro a0 a1 a2 a3 a4 a5 k
 have ih0 := access_registered.mono_l k
 unfold access_registered.f
 repeat' first
   | (with_reducible exact ih0 _ _ _ _)
   | (with_reducible exact LeO.refl _)
   | (with_reducible exact LeO.none _)
   | (with_reducible refine LeO.ite ?_ ?_)
   | (with_reducible refine LeO.bind ?_ (fun _ => ?_))
   | exact ih0 _ _ _ _
   | exact LeO.none _
   | refine LeO.ite ?_ ?_
   | refine LeO.bind ?_ (fun _ => ?_)
set_option maxHeartbeats 8000000 in
set_option maxRecDepth 100000 in
theorem access_registered.calls (k : Nat) (A0_0 : Option Addr) (c0_0 : Nat) (l0_0 : List (S53)) (a0_1 : Int) (a0_2 : ByteArray) (a0_3 : Int) (a0_4 : Bool) (a1 : ByteArray) (r : Bool) (w : World) (hr0_0 : Kd.C k53 w A0_0 l0_0.length l0_0) (hc0_0 : l0_0.length ≤ c0_0) (h : access_registered.f k l0_0 a0_1 a0_2 a0_3 a0_4 a1 = some r) :
  Calls Tryd.prog 51 #[.agg #[.slice A0_0 l0_0.length c0_0, .int .i64 a0_1, .string a0_2, .int .u32 a0_3, .bool a0_4], .string a1] w fun e w' => e = .returned (.bool r) ∧ Below w.heap.size w w' := by
 have hu27 := Tryd.underlying27
 have hu53 := Tryd.underlying53
 have HR0_0 := Aside0.mk hr0_0
 have HC0_0 := Aside0.mk hc0_0
 clear hr0_0 hc0_0
 have HB := Aside0.mk (Below.refl w.heap.size w)
 have H : (access_registered.l0 k a1 l0_0 (l0_0.length : Int) 0) = some r := h
 clear h
 have H' := Aside0.mk H
 clear H
 go_enter Tryd.func51, Tryd.ntmps51
 go_wp2_with (first | ((with_reducible refine gate_dst (N := 2) rfl ?_); refine box_event ?hg (N := 2) ?hd (cs := #[.slice A0_0 l0_0.length c0_0, .int .i64 a0_1, .string a0_2, .int .u32 a0_3, .bool a0_4]) (t := 27) ?hr ?_; (case hd => rfl); (case hg => rfl); (case hr => first | (go_simp; done) | (go_simp; rfl)); intro gb274 hg w3 hbox hb; have n0_ := Aside0.mk (below_step (hb_ HB) hb); have n1_ := Aside0.mk (hbox); have n2_ := Aside0.mk ((by rw [hg]; exact (below_size (hb_ HB)) : w.heap.size ≤ gb274)); have n3_ := Aside0.mk ((by rw [hg]; exact (below_size (hb_ HB)) : w.heap.size ≤ gb274)); clear HB; have HB := n0_; have BK274 := n1_; have GW274 := n2_; have GE274 := n3_; clear n0_ n1_ n2_ n3_; clear hb hbox hg; have hcz4_0 : w3.cell? ⟨gb274, 0, none⟩ = some (.slice A0_0 l0_0.length c0_0) := (blk_cell BK274.out 0).trans rfl; have hcz4_1 : w3.cell? ⟨gb274, 1, none⟩ = some (.int .i64 a0_1) := (blk_cell BK274.out 1).trans rfl; have hcz4_2 : w3.cell? ⟨gb274, 2, none⟩ = some (.string a0_2) := (blk_cell BK274.out 2).trans rfl; have hcz4_3 : w3.cell? ⟨gb274, 3, none⟩ = some (.int .u32 a0_3) := (blk_cell BK274.out 3).trans rfl; have hcz4_4 : w3.cell? ⟨gb274, 4, none⟩ = some (.bool a0_4) := (blk_cell BK274.out 4).trans rfl; have hfz4_0 := blk_frozen BK274.out 0; have hfz4_1 := blk_frozen BK274.out 1; have hfz4_2 := blk_frozen BK274.out 2; have hfz4_3 := blk_frozen BK274.out 3; have hfz4_4 := blk_frozen BK274.out 4))
 go_loopg [10] k (fun kq v10 w' => ∃ (x10_1 : Int), v10 = .int .i64 x10_1 ∧ Aside0 (access_registered.l0 kq a1 l0_0 (l0_0.length : Int) x10_1 = some r) ∧ Aside0 (kq ≤ k) ∧ Aside0 (w'.heap[gb274]? = some (.cells #[(.slice A0_0 l0_0.length c0_0), .int .i64 a0_1, .string a0_2, .int .u32 a0_3, .bool a0_4] 27 (0, 0))) ∧ Aside0 (Below w.heap.size w w'))
 case atStart => exact ⟨(0), (by first | rfl | (simp; done) | (simp [*]; done)), H', ⟨Nat.le_refl _⟩, ⟨bk_ BK274⟩, ⟨hb_ HB⟩⟩
 case round =>
  clear H'
  try clear p2
  try clear hcz4_0
  try clear hcz4_1
  try clear hcz4_2
  try clear hcz4_3
  try clear hcz4_4
  try clear hfz4_0
  try clear hfz4_1
  try clear hfz4_2
  try clear hfz4_3
  try clear hfz4_4
  obtain ⟨x10_1, rfl, HA, HK1, BK274, HB⟩ := hrel
  cases gk with
  | zero => exact absurd HA.out (by simp [access_registered.l0])
  | succ k1 =>
   have H := HA.out
   clear HA
   simp only [access_registered.l0] at H
   refine neg_first (p := (x10_1 < (l0_0.length : Int))) (fun c5 => ?_) (fun c5 => ?_)
   ·rw [if_neg c5] at H
    have c5b0 : decide (x10_1 < (l0_0.length : Int)) = false := decide_eq_false c5
    clear c5
    obtain rfl := Option.some.inj H
    go_wp2
    go_ret
    exact ⟨by first | rfl | (simp [errW_none, errW_some] <;> rfl) | (simp [*, errW_none, errW_some] <;> rfl) | (simp [bt, *]; done) | (unfold bt; simp [*]; done), by repeat (first | (with_reducible first | exact HB.out | apply below_alloc | apply pw_below_drewN | apply below_drew1 | refine below_set ?_ GE274.out) | exact HB.out)⟩
   rw [if_pos c5] at H
   have c5b0 : decide (x10_1 < (l0_0.length : Int)) = true := decide_eq_true c5
   clear c5
   refine neg_first (p := (0 ≤ x10_1)) (fun c6 => ?_) (fun c6 => ?_)
   ·rw [if_neg c6] at H
    exact absurd H (by simp)
   rw [if_pos c6] at H
   have c6b0 : decide (0 ≤ x10_1) = true := decide_eq_true c6
   clear c6
   refine neg_first (p := (x10_1 < (l0_0.length : Int))) (fun c7 => ?_) (fun c7 => ?_)
   ·rw [if_neg c7] at H
    exact absurd H (by simp)
   rw [if_pos c7] at H
   have c7b0 : decide (x10_1 < (l0_0.length : Int)) = true := decide_eq_true c7
   clear c7
   refine neg_first (p := (((rd_T53 l0_0 x10_1).f0).toList = a1.toList)) (fun c8 => ?_) (fun c8 => ?_)
   ·rw [if_neg c8] at H
    have c8b0 : (((rd_T53 l0_0 x10_1).f0).toList == a1.toList) = false := beq_eq_false_iff_ne.mpr c8
    have c8b1 : (((rd_T53 l0_0 x10_1).f0).toList != a1.toList) = true := bne_iff_ne.mpr c8
    have H' := Aside0.mk H
    clear H
    have p275 : 0 ≤ (x10_1 : Int) := of_decide_eq_true (by first | (with_reducible assumption) | assumption)
    have q275 : x10_1 < (l0_0.length : Int) := of_decide_eq_true (by first | (with_reducible assumption) | assumption)
    obtain ⟨ad275, e275, hx275_0, hx275_1⟩ := at_T53 HR0_0.out x10_1 p275 q275
    cases e275
    replace hx275_0 := (HB.out.cell (World.block_lt_of_cell? w _ hx275_0)).trans hx275_0
    replace hx275_1 := (HB.out.cell (World.block_lt_of_cell? w _ hx275_1)).trans hx275_1
    replace p275 := eq_true p275
    replace q275 := eq_true q275
    go_wp2_with (first | ((with_reducible refine gate_dst (N := 6) rfl ?_); refine box_event ?hg (N := 6) ?hd (cs := #[.string (⟨#[]⟩ : ByteArray), .int .u64 0]) (t := 53) ?hr ?_; (case hd => rfl); (case hg => rfl); (case hr => first | (go_simp; done) | (go_simp; rfl)); intro gb276 hg w12 hbox hb; have n0_ := Aside0.mk (blk_below (bk_ BK274) hb); have n1_ := Aside0.mk (below_step (hb_ HB) hb); have n2_ := Aside0.mk (hbox); have n3_ := Aside0.mk ((by rw [hg]; exact (below_size (hb_ HB)) : w.heap.size ≤ gb276)); have n4_ := Aside0.mk ((by rw [hg]; exact (below_size (hb_ HB)) : w.heap.size ≤ gb276)); have n5_ := Aside0.mk ((by rw [hg]; exact Nat.ne_of_lt (blk_lt (g := gb274) (o := .cells #[.slice (some ad275) l0_0.length c0_0, .int .i64 a0_1, .string a0_2, .int .u32 a0_3, .bool a0_4] 27 (0, 0)) (bk_ BK274)) : gb274 ≠ gb276)); have n6_ := Aside0.mk ((by rw [hg]; exact Nat.ne_of_gt (blk_lt (g := gb274) (o := .cells #[.slice (some ad275) l0_0.length c0_0, .int .i64 a0_1, .string a0_2, .int .u32 a0_3, .bool a0_4] 27 (0, 0)) (bk_ BK274)) : gb276 ≠ gb274)); clear BK274; clear HB; have BK274 := n0_; have HB := n1_; have BK276 := n2_; have GW276 := n3_; have GE276 := n4_; have NB274_276 := n5_; have NB276_274 := n6_; clear n0_ n1_ n2_ n3_ n4_ n5_ n6_; clear hb hbox hg; have hnb13 := NB276_274.out; have hnc13 := NB274_276.out; have hcz14_0 : w12.cell? ⟨gb276, 0, none⟩ = some (.string (⟨#[]⟩ : ByteArray)) := (blk_cell BK276.out 0).trans rfl; have hcz14_1 : w12.cell? ⟨gb276, 1, none⟩ = some (.int .u64 0) := (blk_cell BK276.out 1).trans rfl; have hfz14_0 := blk_frozen BK276.out 0; have hfz14_1 := blk_frozen BK276.out 1))
    go_roundg k1
    case measure => have := HK1.out; omega
    case rel => exact ⟨(wrap64 (x10_1 + 1)), (by first | rfl | (simp; done) | (simp [*]; done)), H', ⟨by have := HK1.out; omega⟩, ⟨by (with_reducible repeat (first | refine blk_drewN ?_ _ | refine blk_drew ?_ | refine blk_alloc ?_ _ | refine blk_far ?_ NB274_276.out _)); exact BK274.out⟩, ⟨hb_ HB⟩⟩
   rw [if_pos c8] at H
   have c8b0 : (((rd_T53 l0_0 x10_1).f0).toList == a1.toList) = true := beq_iff_eq.mpr c8
   have c8b1 : (((rd_T53 l0_0 x10_1).f0).toList != a1.toList) = false := bne_eq_false_iff_eq.mpr c8
   clear c8
   obtain rfl := Option.some.inj H
   have p275 : 0 ≤ (x10_1 : Int) := of_decide_eq_true (by first | (with_reducible assumption) | assumption)
   have q275 : x10_1 < (l0_0.length : Int) := of_decide_eq_true (by first | (with_reducible assumption) | assumption)
   obtain ⟨ad275, e275, hx275_0, hx275_1⟩ := at_T53 HR0_0.out x10_1 p275 q275
   cases e275
   replace hx275_0 := (HB.out.cell (World.block_lt_of_cell? w _ hx275_0)).trans hx275_0
   replace hx275_1 := (HB.out.cell (World.block_lt_of_cell? w _ hx275_1)).trans hx275_1
   replace p275 := eq_true p275
   replace q275 := eq_true q275
   go_wp2_with (first | ((with_reducible refine gate_dst (N := 6) rfl ?_); refine box_event ?hg (N := 6) ?hd (cs := #[.string (⟨#[]⟩ : ByteArray), .int .u64 0]) (t := 53) ?hr ?_; (case hd => rfl); (case hg => rfl); (case hr => first | (go_simp; done) | (go_simp; rfl)); intro gb276 hg w9 hbox hb; have n0_ := Aside0.mk (blk_below (bk_ BK274) hb); have n1_ := Aside0.mk (below_step (hb_ HB) hb); have n2_ := Aside0.mk (hbox); have n3_ := Aside0.mk ((by rw [hg]; exact (below_size (hb_ HB)) : w.heap.size ≤ gb276)); have n4_ := Aside0.mk ((by rw [hg]; exact (below_size (hb_ HB)) : w.heap.size ≤ gb276)); have n5_ := Aside0.mk ((by rw [hg]; exact Nat.ne_of_lt (blk_lt (g := gb274) (o := .cells #[.slice (some ad275) l0_0.length c0_0, .int .i64 a0_1, .string a0_2, .int .u32 a0_3, .bool a0_4] 27 (0, 0)) (bk_ BK274)) : gb274 ≠ gb276)); have n6_ := Aside0.mk ((by rw [hg]; exact Nat.ne_of_gt (blk_lt (g := gb274) (o := .cells #[.slice (some ad275) l0_0.length c0_0, .int .i64 a0_1, .string a0_2, .int .u32 a0_3, .bool a0_4] 27 (0, 0)) (bk_ BK274)) : gb276 ≠ gb274)); clear BK274; clear HB; have BK274 := n0_; have HB := n1_; have BK276 := n2_; have GW276 := n3_; have GE276 := n4_; have NB274_276 := n5_; have NB276_274 := n6_; clear n0_ n1_ n2_ n3_ n4_ n5_ n6_; clear hb hbox hg; have hnb10 := NB276_274.out; have hnc10 := NB274_276.out; have hcz11_0 : w9.cell? ⟨gb276, 0, none⟩ = some (.string (⟨#[]⟩ : ByteArray)) := (blk_cell BK276.out 0).trans rfl; have hcz11_1 : w9.cell? ⟨gb276, 1, none⟩ = some (.int .u64 0) := (blk_cell BK276.out 1).trans rfl; have hfz11_0 := blk_frozen BK276.out 0; have hfz11_1 := blk_frozen BK276.out 1))
   go_ret
   exact ⟨by first | rfl | (simp [errW_none, errW_some] <;> rfl) | (simp [*, errW_none, errW_some] <;> rfl) | (simp [bt, *]; done) | (unfold bt; simp [*]; done), by repeat (first | (with_reducible first | exact HB.out | apply below_alloc | apply pw_below_drewN | apply below_drew1 | refine below_set ?_ GE274.out | refine below_set ?_ GE276.out) | exact HB.out)⟩
def access_Holds.f (k : Nat) (l0_0 : List (S53)) (a0_1 : Int) (a0_2 : ByteArray) (a0_3 : Int) (a0_4 : Bool) (a1 : ByteArray) : Option (Bool) := (access_Type.f a0_1).bind fun t278 => (if t278 = true then (if 0 ≤ a0_1 then (if a0_1 < 7 then (if (Go.bits .and .i64 (rd G_access_lets.tab a0_1) 8) = 0 then (some (a1.toList == a0_2.toList)) else ((access_registered.f k l0_0 a0_1 a0_2 a0_3 a0_4 a1).bind fun t280 => (some t280))) else (none)) else (none)) else (some false))
theorem access_Holds.mono : ∀ a0 a1 a2 a3 a4 a5 k, LeO (access_Holds.f k a0 a1 a2 a3 a4 a5) (access_Holds.f (k + 1) a0 a1 a2 a3 a4 a5) := by
 intro a0 a1 a2 a3 a4 a5 k
 unfold access_Holds.f
 repeat' first
   | (with_reducible exact access_registered.mono _ _ _ _ _ _ _)
   | (with_reducible exact LeO.refl _)
   | (with_reducible exact LeO.none _)
   | (with_reducible refine LeO.ite ?_ ?_)
   | (with_reducible refine LeO.bind ?_ (fun _ => ?_))
   | exact access_registered.mono _ _ _ _ _ _ _
   | exact LeO.none _
   | refine LeO.ite ?_ ?_
   | refine LeO.bind ?_ (fun _ => ?_)
set_option maxHeartbeats 8000000 in
set_option maxRecDepth 100000 in
theorem access_Holds.calls (k : Nat) (A0_0 : Option Addr) (c0_0 : Nat) (l0_0 : List (S53)) (a0_1 : Int) (a0_2 : ByteArray) (a0_3 : Int) (a0_4 : Bool) (a1 : ByteArray) (r : Bool) (w : World) (hr0_0 : Kd.C k53 w A0_0 l0_0.length l0_0) (hc0_0 : l0_0.length ≤ c0_0) (hG : Glob w) (h : access_Holds.f k l0_0 a0_1 a0_2 a0_3 a0_4 a1 = some r) :
  Calls Tryd.prog 29 #[.agg #[.slice A0_0 l0_0.length c0_0, .int .i64 a0_1, .string a0_2, .int .u32 a0_3, .bool a0_4], .string a1] w fun e w' => e = .returned (.bool r) ∧ Below w.heap.size w w' := by
 have hu27 := Tryd.underlying27
 have HRgl0 := Aside0.mk (G_access_lets.reads (Glob.access_lets hG))
 have HG := Aside0.mk hG
 clear hG
 have HR0_0 := Aside0.mk hr0_0
 have HC0_0 := Aside0.mk hc0_0
 clear hr0_0 hc0_0
 have HB := Aside0.mk (Below.refl w.heap.size w)
 have H : ((access_Type.f a0_1).bind fun t278 => (if t278 = true then (if 0 ≤ a0_1 then (if a0_1 < 7 then (if (Go.bits .and .i64 (rd G_access_lets.tab a0_1) 8) = 0 then (some (a1.toList == a0_2.toList)) else ((access_registered.f k l0_0 a0_1 a0_2 a0_3 a0_4 a1).bind fun t280 => (some t280))) else (none)) else (none)) else (some false))) = some r := h
 clear h
 replace H := Option.bind_eq_some_iff.mp H
 obtain ⟨t278, A30, H⟩ := H
 try dsimp only at H
 have A3 := Aside0.mk A30
 clear A30
 refine neg_first (p := (t278 = true)) (fun c4 => ?_) (fun c4 => ?_)
 ·replace c4 := Bool.eq_false_iff.mpr c4
  subst c4
  have H1 := H
  rw [if_neg (show ¬ (false = true) by decide)] at H1
  clear H
  have H := H1
  clear H1
  obtain rfl := Option.some.inj H
  go_enter Tryd.func29, Tryd.ntmps29
  go_wp2_with (first | ((with_reducible refine gate_dst (N := 2) rfl ?_); refine box_event ?hg (N := 2) ?hd (cs := #[.slice A0_0 l0_0.length c0_0, .int .i64 a0_1, .string a0_2, .int .u32 a0_3, .bool a0_4]) (t := 27) ?hr ?_; (case hd => rfl); (case hg => rfl); (case hr => first | (go_simp; done) | (go_simp; rfl)); intro gb277 hg w14 hbox hb; have n0_ := Aside0.mk (below_step (hb_ HB) hb); have n1_ := Aside0.mk (hbox); have n2_ := Aside0.mk ((by rw [hg]; exact (below_size (hb_ HB)) : w.heap.size ≤ gb277)); have n3_ := Aside0.mk ((by rw [hg]; exact (below_size (hb_ HB)) : w.heap.size ≤ gb277)); clear HB; have HB := n0_; have BK277 := n1_; have GW277 := n2_; have GE277 := n3_; clear n0_ n1_ n2_ n3_; clear hb hbox hg; have hcz15_0 : w14.cell? ⟨gb277, 0, none⟩ = some (.slice A0_0 l0_0.length c0_0) := (blk_cell BK277.out 0).trans rfl; have hcz15_1 : w14.cell? ⟨gb277, 1, none⟩ = some (.int .i64 a0_1) := (blk_cell BK277.out 1).trans rfl; have hcz15_2 : w14.cell? ⟨gb277, 2, none⟩ = some (.string a0_2) := (blk_cell BK277.out 2).trans rfl; have hcz15_3 : w14.cell? ⟨gb277, 3, none⟩ = some (.int .u32 a0_3) := (blk_cell BK277.out 3).trans rfl; have hcz15_4 : w14.cell? ⟨gb277, 4, none⟩ = some (.bool a0_4) := (blk_cell BK277.out 4).trans rfl; have hfz15_0 := blk_frozen BK277.out 0; have hfz15_1 := blk_frozen BK277.out 1; have hfz15_2 := blk_frozen BK277.out 2; have hfz15_3 := blk_frozen BK277.out 3; have hfz15_4 := blk_frozen BK277.out 4) | ((with_reducible refine gate_callee (f := 45) rfl ?_); refine goesL_ (some 8) rfl rfl Tryd.func45 (by kernel_rfl) rfl #[.int .i64 a0_1] rfl (by (try simp only [List.map_toArray, List.map_cons, List.map_nil]); first | done | rfl | (simp only [List.length_drop, List.length_take]; rfl)) ?_; (with_reducible refine (access_Type.calls a0_1 false _ A3.out).mono ?_); rintro e w' ⟨rfl, ⟨nd, rfl⟩⟩; refine ⟨_, rfl, ?_⟩))
  go_ret
  exact ⟨by first | rfl | (simp [errW_none, errW_some] <;> rfl) | (simp [*, errW_none, errW_some] <;> rfl) | (simp [bt, *]; done) | (unfold bt; simp [*]; done), by repeat (first | (with_reducible first | exact HB.out | apply below_alloc | apply pw_below_drewN | apply below_drew1 | refine below_set ?_ GE277.out) | exact HB.out)⟩
 subst c4
 have H1 := H
 rw [if_pos rfl] at H1
 clear H
 have H := H1
 clear H1
 refine neg_first (p := (0 ≤ a0_1)) (fun c5 => ?_) (fun c5 => ?_)
 ·rw [if_neg c5] at H
  exact absurd H (by simp)
 rw [if_pos c5] at H
 have c5b0 : decide (0 ≤ a0_1) = true := decide_eq_true c5
 clear c5
 refine neg_first (p := (a0_1 < 7)) (fun c6 => ?_) (fun c6 => ?_)
 ·rw [if_neg c6] at H
  exact absurd H (by simp)
 rw [if_pos c6] at H
 have c6b0 : decide (a0_1 < 7) = true := decide_eq_true c6
 clear c6
 by_cases c7 : (Go.bits .and .i64 (rd G_access_lets.tab a0_1) 8) = 0
 ·rw [if_pos c7] at H
  have c7b0 : ((Go.bits .and .i64 (rd G_access_lets.tab a0_1) 8) == 0) = true := beq_iff_eq.mpr c7
  have c7b1 : ((Go.bits .and .i64 (rd G_access_lets.tab a0_1) 8) != 0) = false := bne_eq_false_iff_eq.mpr c7
  clear c7
  obtain rfl := Option.some.inj H
  go_enter Tryd.func29, Tryd.ntmps29
  go_wp2_with (first | ((with_reducible refine gate_dst (N := 2) rfl ?_); refine box_event ?hg (N := 2) ?hd (cs := #[.slice A0_0 l0_0.length c0_0, .int .i64 a0_1, .string a0_2, .int .u32 a0_3, .bool a0_4]) (t := 27) ?hr ?_; (case hd => rfl); (case hg => rfl); (case hr => first | (go_simp; done) | (go_simp; rfl)); intro gb277 hg w8 hbox hb; have n0_ := Aside0.mk (below_step (hb_ HB) hb); have n1_ := Aside0.mk (hbox); have n2_ := Aside0.mk ((by rw [hg]; exact (below_size (hb_ HB)) : w.heap.size ≤ gb277)); have n3_ := Aside0.mk ((by rw [hg]; exact (below_size (hb_ HB)) : w.heap.size ≤ gb277)); clear HB; have HB := n0_; have BK277 := n1_; have GW277 := n2_; have GE277 := n3_; clear n0_ n1_ n2_ n3_; clear hb hbox hg; have hcz9_0 : w8.cell? ⟨gb277, 0, none⟩ = some (.slice A0_0 l0_0.length c0_0) := (blk_cell BK277.out 0).trans rfl; have hcz9_1 : w8.cell? ⟨gb277, 1, none⟩ = some (.int .i64 a0_1) := (blk_cell BK277.out 1).trans rfl; have hcz9_2 : w8.cell? ⟨gb277, 2, none⟩ = some (.string a0_2) := (blk_cell BK277.out 2).trans rfl; have hcz9_3 : w8.cell? ⟨gb277, 3, none⟩ = some (.int .u32 a0_3) := (blk_cell BK277.out 3).trans rfl; have hcz9_4 : w8.cell? ⟨gb277, 4, none⟩ = some (.bool a0_4) := (blk_cell BK277.out 4).trans rfl; have hfz9_0 := blk_frozen BK277.out 0; have hfz9_1 := blk_frozen BK277.out 1; have hfz9_2 := blk_frozen BK277.out 2; have hfz9_3 := blk_frozen BK277.out 3; have hfz9_4 := blk_frozen BK277.out 4) | ((with_reducible refine gate_callee (f := 45) rfl ?_); refine goesL_ (some 8) rfl rfl Tryd.func45 (by kernel_rfl) rfl #[.int .i64 a0_1] rfl (by (try simp only [List.map_toArray, List.map_cons, List.map_nil]); first | done | rfl | (simp only [List.length_drop, List.length_take]; rfl)) ?_; (with_reducible refine (access_Type.calls a0_1 true _ A3.out).mono ?_); rintro e w' ⟨rfl, ⟨nd, rfl⟩⟩; refine ⟨_, rfl, ?_⟩; have p279 : 0 ≤ (a0_1 : Int) := of_decide_eq_true (by first | (with_reducible assumption) | assumption); have q279 : a0_1 < (G_access_lets.tab.length : Int) := of_decide_eq_true (by first | (with_reducible assumption) | assumption); have qg279 : (a0_1 < (7 : Int)) = True := eq_true q279; obtain ⟨ad279, e279, hx279_0⟩ := Kd.at_int HRgl0.out a0_1 p279 q279; obtain rfl : (⟨0, 0, none⟩ : Addr) = ad279 := (by injection e279); (first | simp only [add_plain] at hx279_0 | simp only [add_at] at hx279_0 | simp only [Addr.add, Nat.zero_add] at hx279_0 | skip); replace hx279_0 := (HB.out.cell (World.block_lt_of_cell? w _ hx279_0)).trans hx279_0; replace p279 := eq_true p279; replace q279 := eq_true q279))
  go_ret
  exact ⟨by first | rfl | (simp [errW_none, errW_some] <;> rfl) | (simp [*, errW_none, errW_some] <;> rfl) | (simp [bt, *]; done) | (unfold bt; simp [*]; done), by repeat (first | (with_reducible first | exact HB.out | apply below_alloc | apply pw_below_drewN | apply below_drew1 | refine below_set ?_ GE277.out) | exact HB.out)⟩
 rw [if_neg c7] at H
 have c7b0 : ((Go.bits .and .i64 (rd G_access_lets.tab a0_1) 8) == 0) = false := beq_eq_false_iff_ne.mpr c7
 have c7b1 : ((Go.bits .and .i64 (rd G_access_lets.tab a0_1) 8) != 0) = true := bne_iff_ne.mpr c7
 replace H := Option.bind_eq_some_iff.mp H
 obtain ⟨t280, A100, H⟩ := H
 try dsimp only at H
 have A10 := Aside0.mk A100
 clear A100
 obtain rfl := Option.some.inj H
 go_enter Tryd.func29, Tryd.ntmps29
 go_wp2_with (first | ((with_reducible refine gate_dst (N := 2) rfl ?_); refine box_event ?hg (N := 2) ?hd (cs := #[.slice A0_0 l0_0.length c0_0, .int .i64 a0_1, .string a0_2, .int .u32 a0_3, .bool a0_4]) (t := 27) ?hr ?_; (case hd => rfl); (case hg => rfl); (case hr => first | (go_simp; done) | (go_simp; rfl)); intro gb277 hg w11 hbox hb; have n0_ := Aside0.mk (below_step (hb_ HB) hb); have n1_ := Aside0.mk (hbox); have n2_ := Aside0.mk ((by rw [hg]; exact (below_size (hb_ HB)) : w.heap.size ≤ gb277)); have n3_ := Aside0.mk ((by rw [hg]; exact (below_size (hb_ HB)) : w.heap.size ≤ gb277)); clear HB; have HB := n0_; have BK277 := n1_; have GW277 := n2_; have GE277 := n3_; clear n0_ n1_ n2_ n3_; clear hb hbox hg; have hcz12_0 : w11.cell? ⟨gb277, 0, none⟩ = some (.slice A0_0 l0_0.length c0_0) := (blk_cell BK277.out 0).trans rfl; have hcz12_1 : w11.cell? ⟨gb277, 1, none⟩ = some (.int .i64 a0_1) := (blk_cell BK277.out 1).trans rfl; have hcz12_2 : w11.cell? ⟨gb277, 2, none⟩ = some (.string a0_2) := (blk_cell BK277.out 2).trans rfl; have hcz12_3 : w11.cell? ⟨gb277, 3, none⟩ = some (.int .u32 a0_3) := (blk_cell BK277.out 3).trans rfl; have hcz12_4 : w11.cell? ⟨gb277, 4, none⟩ = some (.bool a0_4) := (blk_cell BK277.out 4).trans rfl; have hfz12_0 := blk_frozen BK277.out 0; have hfz12_1 := blk_frozen BK277.out 1; have hfz12_2 := blk_frozen BK277.out 2; have hfz12_3 := blk_frozen BK277.out 3; have hfz12_4 := blk_frozen BK277.out 4) | ((with_reducible refine gate_callee (f := 45) rfl ?_); refine goesL_ (some 8) rfl rfl Tryd.func45 (by kernel_rfl) rfl #[.int .i64 a0_1] rfl (by (try simp only [List.map_toArray, List.map_cons, List.map_nil]); first | done | rfl | (simp only [List.length_drop, List.length_take]; rfl)) ?_; (with_reducible refine (access_Type.calls a0_1 true _ A3.out).mono ?_); rintro e w' ⟨rfl, ⟨nd, rfl⟩⟩; refine ⟨_, rfl, ?_⟩; have p279 : 0 ≤ (a0_1 : Int) := of_decide_eq_true (by first | (with_reducible assumption) | assumption); have q279 : a0_1 < (G_access_lets.tab.length : Int) := of_decide_eq_true (by first | (with_reducible assumption) | assumption); have qg279 : (a0_1 < (7 : Int)) = True := eq_true q279; obtain ⟨ad279, e279, hx279_0⟩ := Kd.at_int HRgl0.out a0_1 p279 q279; obtain rfl : (⟨0, 0, none⟩ : Addr) = ad279 := (by injection e279); (first | simp only [add_plain] at hx279_0 | simp only [add_at] at hx279_0 | simp only [Addr.add, Nat.zero_add] at hx279_0 | skip); replace hx279_0 := (HB.out.cell (World.block_lt_of_cell? w _ hx279_0)).trans hx279_0; replace p279 := eq_true p279; replace q279 := eq_true q279) | ((with_reducible refine gate_callee (f := 51) rfl ?_); refine goesL_ (some 19) rfl rfl Tryd.func51 (by kernel_rfl) rfl #[.agg #[.slice A0_0 l0_0.length c0_0, .int .i64 a0_1, .string a0_2, .int .u32 a0_3, .bool a0_4], .string a1] rfl (by (try simp only [List.map_toArray, List.map_cons, List.map_nil]); first | done | rfl | (simp only [List.length_drop, List.length_take]; rfl)) ?_; (with_reducible refine (access_registered.calls k _ _ l0_0 a0_1 a0_2 a0_3 a0_4 a1 t280 _ ?side1 ?side2 A10.out).mono ?_); (case side1 => repeat (first | exact (Kd.C_below HR0_0.out (hb_ HB)) | (with_reducible refine Kd.C_alloc ?_ _) | (with_reducible refine Kd.C_drewN ?_ _) | (with_reducible refine Kd.C_drew ?_))); (case side2 => exact HC0_0.out); rintro e w13 ⟨rfl, hb⟩; refine ⟨_, rfl, ?_⟩; have n0_ := Aside0.mk (blk_below (bk_ BK277) hb); have n1_ := Aside0.mk (below_step (hb_ HB) hb); clear BK277; clear HB; have BK277 := n0_; have HB := n1_; clear n0_ n1_; (try clear hb); (try clear hb2); (try clear hk); (try clear hi)))
 go_ret
 exact ⟨by first | rfl | (simp [errW_none, errW_some] <;> rfl) | (simp [*, errW_none, errW_some] <;> rfl) | (simp [bt, *]; done) | (unfold bt; simp [*]; done), by repeat (first | (with_reducible first | exact HB.out | apply below_alloc | apply pw_below_drewN | apply below_drew1 | refine below_set ?_ GE277.out) | exact HB.out)⟩
end Go.Proofs.YtjogkfcjlljjcaaDoor.P
