-- joined by this session's wip/tools/pack.py: words of the kit's print, cut to what the claim names; functions printed by a patched copy of the printer; walks and lemmas of this session; Lean checks it
import Derived.Test.YtjogkfcjlljjcaaDoorBc1
import Derived.Maps.Own
import Derived.Maps.OwnOps
import Derived.Maps.Views
import Derived.Carry
import Derived.Lib.SliceRun
set_option maxHeartbeats 40000000
set_option maxRecDepth 100000
namespace Go.Proofs.YtjogkfcjlljjcaaDoor.P
open Go.RowKit Go.Proofs.YtjogkfcjlljjcaaDoorW.PrintWords Go.Proofs.YtjogkfcjlljjcaaDoorW.PrintLast Go.Proofs.YtjogkfcjlljjcaaDoorW.PrintMore
attribute [local go_sem] max2_int min2_int max_two min_two max_three min_three max_four min_four   -- for this text's walks alone
set_option linter.unusedVariables false
set_option linter.unusedSimpArgs false
set_option linter.unnecessarySimpa false
mutual
def headgateref11_Good.l0 : Nat → Int → List (S53) → Int → ByteArray → Int → Bool → Option (Bool)
 | 0, _, _, _, _, _, _ => none
 | k + 1, x3, x128000, x128001, x128002, x128003, x128004 => if x3 < (x128000.length : Int) then (if 0 ≤ x3 then ((headgateref03_Name.f k ((rd_T53 x128000 x3).f0)).bind fun t129 => (if t129 = true then (headgateref11_Good.j1 k x3 (((rd_T53 x128000 x3).f1) == 0) x128000 x128001 x128002 x128003 x128004) else (headgateref11_Good.j1 k x3 true x128000 x128001 x128002 x128003 x128004))) else (none)) else (if x128001 = 0 then (some (x128002.toList == ([] : List UInt8))) else ((headgateref11_alone.f x128001).bind fun t133 => (if t133 = true then ((headgateref10_Registered.f k x128000 x128001 x128002 x128003 x128004 x128002).bind fun t134 => (some t134)) else ((headgateref10_Type.f x128001).bind fun t135 => (if t135 = true then (if x128002.toList = ([] : List UInt8) then (some (decide ((x128000.length : Int) > 0))) else (some false)) else (some false))))))
def headgateref11_Good.j1 : Nat → Int → Bool → List (S53) → Int → ByteArray → Int → Bool → Option (Bool)
 | 0, _, _, _, _, _, _, _ => none
 | k + 1, x3, x32, x128000, x128001, x128002, x128003, x128004 => if x32 = true then (some false) else (headgateref11_Good.l1 k x3 0 x128000 x128001 x128002 x128003 x128004)
def headgateref11_Good.l1 : Nat → Int → Int → List (S53) → Int → ByteArray → Int → Bool → Option (Bool)
 | 0, _, _, _, _, _, _, _ => none
 | k + 1, x3, x4, x128000, x128001, x128002, x128003, x128004 => if x4 < x3 then (if 0 ≤ x4 then (if x4 < (x128000.length : Int) then (if 0 ≤ x3 then (if x3 < (x128000.length : Int) then (if ((rd_T53 x128000 x4).f0).toList = ((rd_T53 x128000 x3).f0).toList then (some false) else (headgateref11_Good.l1 k x3 (wrap64 (x4 + 1)) x128000 x128001 x128002 x128003 x128004)) else (none)) else (none)) else (none)) else (none)) else (headgateref11_Good.l0 k (wrap64 (x3 + 1)) x128000 x128001 x128002 x128003 x128004)
end
def headgateref11_Good.f (k : Nat) (l0_0 : List (S53)) (a0_1 : Int) (a0_2 : ByteArray) (a0_3 : Int) (a0_4 : Bool) : Option (Bool) := if (l0_0.length : Int) > 16 then (some false) else (headgateref11_Good.l0 k 0 l0_0 a0_1 a0_2 a0_3 a0_4)
theorem headgateref11_Good.mono_l : ∀ k, (∀ y0 y1 y2 y3 y4 y5, LeO (headgateref11_Good.l0 k y0 y1 y2 y3 y4 y5) (headgateref11_Good.l0 (k + 1) y0 y1 y2 y3 y4 y5)) ∧ (∀ y0 y1 y2 y3 y4 y5 y6, LeO (headgateref11_Good.j1 k y0 y1 y2 y3 y4 y5 y6) (headgateref11_Good.j1 (k + 1) y0 y1 y2 y3 y4 y5 y6)) ∧ (∀ y0 y1 y2 y3 y4 y5 y6, LeO (headgateref11_Good.l1 k y0 y1 y2 y3 y4 y5 y6) (headgateref11_Good.l1 (k + 1) y0 y1 y2 y3 y4 y5 y6))
 | 0 => ⟨fun _ _ _ _ _ _ r h => by simp [headgateref11_Good.l0] at h, fun _ _ _ _ _ _ _ r h => by simp [headgateref11_Good.j1] at h, fun _ _ _ _ _ _ _ r h => by simp [headgateref11_Good.l1] at h⟩
 | k + 1 => by
  obtain ⟨ih0, ih1, ih2⟩ := headgateref11_Good.mono_l k
  refine ⟨?_, ?_, ?_⟩
  ·intro y0 y1 y2 y3 y4 y5
   unfold headgateref11_Good.l0
   repeat' first
   | (with_reducible exact ih0 _ _ _ _ _ _)
   | (with_reducible exact ih1 _ _ _ _ _ _ _)
   | (with_reducible exact ih2 _ _ _ _ _ _ _)
   | (with_reducible exact headgateref03_Name.mono _ _)
   | (with_reducible exact headgateref10_Registered.mono _ _ _ _ _ _ _)
   | (with_reducible exact LeO.refl _)
   | (with_reducible exact LeO.none _)
   | (with_reducible refine LeO.ite ?_ ?_)
   | (with_reducible refine LeO.bind ?_ (fun _ => ?_))
   | exact ih0 _ _ _ _ _ _
   | exact ih1 _ _ _ _ _ _ _
   | exact ih2 _ _ _ _ _ _ _
   | exact headgateref03_Name.mono _ _
   | exact headgateref10_Registered.mono _ _ _ _ _ _ _
   | exact LeO.none _
   | refine LeO.ite ?_ ?_
   | refine LeO.bind ?_ (fun _ => ?_)
  ·intro y0 y1 y2 y3 y4 y5 y6
   unfold headgateref11_Good.j1
   repeat' first
   | (with_reducible exact ih0 _ _ _ _ _ _)
   | (with_reducible exact ih1 _ _ _ _ _ _ _)
   | (with_reducible exact ih2 _ _ _ _ _ _ _)
   | (with_reducible exact headgateref03_Name.mono _ _)
   | (with_reducible exact headgateref10_Registered.mono _ _ _ _ _ _ _)
   | (with_reducible exact LeO.refl _)
   | (with_reducible exact LeO.none _)
   | (with_reducible refine LeO.ite ?_ ?_)
   | (with_reducible refine LeO.bind ?_ (fun _ => ?_))
   | exact ih0 _ _ _ _ _ _
   | exact ih1 _ _ _ _ _ _ _
   | exact ih2 _ _ _ _ _ _ _
   | exact headgateref03_Name.mono _ _
   | exact headgateref10_Registered.mono _ _ _ _ _ _ _
   | exact LeO.none _
   | refine LeO.ite ?_ ?_
   | refine LeO.bind ?_ (fun _ => ?_)
  ·intro y0 y1 y2 y3 y4 y5 y6
   unfold headgateref11_Good.l1
   repeat' first
   | (with_reducible exact ih0 _ _ _ _ _ _)
   | (with_reducible exact ih1 _ _ _ _ _ _ _)
   | (with_reducible exact ih2 _ _ _ _ _ _ _)
   | (with_reducible exact headgateref03_Name.mono _ _)
   | (with_reducible exact headgateref10_Registered.mono _ _ _ _ _ _ _)
   | (with_reducible exact LeO.refl _)
   | (with_reducible exact LeO.none _)
   | (with_reducible refine LeO.ite ?_ ?_)
   | (with_reducible refine LeO.bind ?_ (fun _ => ?_))
   | exact ih0 _ _ _ _ _ _
   | exact ih1 _ _ _ _ _ _ _
   | exact ih2 _ _ _ _ _ _ _
   | exact headgateref03_Name.mono _ _
   | exact headgateref10_Registered.mono _ _ _ _ _ _ _
   | exact LeO.none _
   | refine LeO.ite ?_ ?_
   | refine LeO.bind ?_ (fun _ => ?_)
theorem headgateref11_Good.mono : ∀ a0 a1 a2 a3 a4 k, LeO (headgateref11_Good.f k a0 a1 a2 a3 a4) (headgateref11_Good.f (k + 1) a0 a1 a2 a3 a4) := by
 intro a0 a1 a2 a3 a4 k;obtain ⟨ih0, ih1, ih2⟩ := headgateref11_Good.mono_l k;unfold headgateref11_Good.f
 repeat' first
   | (with_reducible exact ih0 _ _ _ _ _ _)
   | (with_reducible exact ih1 _ _ _ _ _ _ _)
   | (with_reducible exact ih2 _ _ _ _ _ _ _)
   | (with_reducible exact headgateref03_Name.mono _ _)
   | (with_reducible exact headgateref10_Registered.mono _ _ _ _ _ _ _)
   | (with_reducible exact LeO.refl _)
   | (with_reducible exact LeO.none _)
   | (with_reducible refine LeO.ite ?_ ?_)
   | (with_reducible refine LeO.bind ?_ (fun _ => ?_))
   | exact ih0 _ _ _ _ _ _
   | exact ih1 _ _ _ _ _ _ _
   | exact ih2 _ _ _ _ _ _ _
   | exact headgateref03_Name.mono _ _
   | exact headgateref10_Registered.mono _ _ _ _ _ _ _
   | exact LeO.none _
   | refine LeO.ite ?_ ?_
   | refine LeO.bind ?_ (fun _ => ?_)
theorem headgateref11_Good.calls (k : Nat) (qi : Option Addr) (qj : Nat) (qc : List (S53)) (qd : Int) (qf : ByteArray) (qg : Int) (qh : Bool) (r : Bool) (w : World) (hr0_0 : Kd.C k53 w qi qc.length qc) (qca : qc.length ≤ qj) (h : headgateref11_Good.f k qc qd qf qg qh = some r) :
  Calls Tryd.prog 20 #[.agg #[.slice qi qc.length qj, .int .i64 qd, .string qf, .int .u32 qg, .bool qh]] w fun e w' => e = .returned (.bool r) ∧ Below w.heap.size w w' := by
 have hu27 := Tryd.underlying27;have qr := aS_ hr0_0;have qbx := aS_ qca;clear hr0_0 qca;have HB := aS_ (Below.refl w.heap.size w);have H : (if (qc.length : Int) > 16 then (some false) else (headgateref11_Good.l0 k 0 qc qd qf qg qh)) = some r := h;clear h;by_cases c2 : (qc.length : Int) > 16
 ·rw [if_pos c2] at H;have c2b0 : decide (16 < (qc.length : Int)) = true := decide_eq_true c2;have c2b1 : decide (16 < qc.length) = true := decide_eq_true (by omega);clear c2;obtain rfl := Option.some.inj H;go_enter Tryd.func20, Tryd.ntmps20
  go_wp2_with (first | ((with_reducible refine gate_dst (N := 1) rfl ?_); (try (refine gate_guard (by rfl) ?_; dsimp only)); refine bX_ (N := 1) (cs := #[.slice qi qc.length qj, .int .i64 qd, .string qf, .int .u32 qg, .bool qh]) (t := 27) ?hr ?_; (case hr => first | (go_simp; done) | (go_simp; rfl)); intro qb hg w3 hbox hb; have n0_ := aS_ (below_step (hb_ HB) hb); have n1_ := aS_ (hbox); have n2_ := aS_ ((by rw [hg]; exact (below_size (hb_ HB)) : w.heap.size ≤ qb)); have n3_ := aS_ ((by rw [hg]; exact (below_size (hb_ HB)) : w.heap.size ≤ qb)); clear HB; have HB := n0_; have qa := n1_; have q9 := n2_; have qn := n3_; clear n0_ n1_ n2_ n3_; clear hb hbox hg; have qw : w3.cell? ⟨qb, 0, none⟩ = some (.slice qi qc.length qj) := bC_ qa.out 0 rfl; have qx : w3.cell? ⟨qb, 1, none⟩ = some (.int .i64 qd) := bC_ qa.out 1 rfl; have qy : w3.cell? ⟨qb, 2, none⟩ = some (.string qf) := bC_ qa.out 2 rfl; have qz : w3.cell? ⟨qb, 3, none⟩ = some (.int .u32 qg) := bC_ qa.out 3 rfl; have q0 : w3.cell? ⟨qb, 4, none⟩ = some (.bool qh) := bC_ qa.out 4 rfl; have q2 := bF_ qa.out))
  repeat (go_quiet (first | ((with_reducible refine gate_dst (N := 1) rfl ?_); (try (refine gate_guard (by rfl) ?_; dsimp only)); refine bX_ (N := 1) (cs := #[.slice qi qc.length qj, .int .i64 qd, .string qf, .int .u32 qg, .bool qh]) (t := 27) ?hr ?_; (case hr => first | (go_simp; done) | (go_simp; rfl)); intro qb hg w3 hbox hb; have n0_ := aS_ (below_step (hb_ HB) hb); have n1_ := aS_ (hbox); have n2_ := aS_ ((by rw [hg]; exact (below_size (hb_ HB)) : w.heap.size ≤ qb)); have n3_ := aS_ ((by rw [hg]; exact (below_size (hb_ HB)) : w.heap.size ≤ qb)); clear HB; have HB := n0_; have qa := n1_; have q9 := n2_; have qn := n3_; clear n0_ n1_ n2_ n3_; clear hb hbox hg; have qw : w3.cell? ⟨qb, 0, none⟩ = some (.slice qi qc.length qj) := bC_ qa.out 0 rfl; have qx : w3.cell? ⟨qb, 1, none⟩ = some (.int .i64 qd) := bC_ qa.out 1 rfl; have qy : w3.cell? ⟨qb, 2, none⟩ = some (.string qf) := bC_ qa.out 2 rfl; have qz : w3.cell? ⟨qb, 3, none⟩ = some (.int .u32 qg) := bC_ qa.out 3 rfl; have q0 : w3.cell? ⟨qb, 4, none⟩ = some (.bool qh) := bC_ qa.out 4 rfl; have q2 := bF_ qa.out)); try go_wp2_with (first | ((with_reducible refine gate_dst (N := 1) rfl ?_); (try (refine gate_guard (by rfl) ?_; dsimp only)); refine bX_ (N := 1) (cs := #[.slice qi qc.length qj, .int .i64 qd, .string qf, .int .u32 qg, .bool qh]) (t := 27) ?hr ?_; (case hr => first | (go_simp; done) | (go_simp; rfl)); intro qb hg w3 hbox hb; have n0_ := aS_ (below_step (hb_ HB) hb); have n1_ := aS_ (hbox); have n2_ := aS_ ((by rw [hg]; exact (below_size (hb_ HB)) : w.heap.size ≤ qb)); have n3_ := aS_ ((by rw [hg]; exact (below_size (hb_ HB)) : w.heap.size ≤ qb)); clear HB; have HB := n0_; have qa := n1_; have q9 := n2_; have qn := n3_; clear n0_ n1_ n2_ n3_; clear hb hbox hg; have qw : w3.cell? ⟨qb, 0, none⟩ = some (.slice qi qc.length qj) := bC_ qa.out 0 rfl; have qx : w3.cell? ⟨qb, 1, none⟩ = some (.int .i64 qd) := bC_ qa.out 1 rfl; have qy : w3.cell? ⟨qb, 2, none⟩ = some (.string qf) := bC_ qa.out 2 rfl; have qz : w3.cell? ⟨qb, 3, none⟩ = some (.int .u32 qg) := bC_ qa.out 3 rfl; have q0 : w3.cell? ⟨qb, 4, none⟩ = some (.bool qh) := bC_ qa.out 4 rfl; have q2 := bF_ qa.out)))
  go_ret;exact ⟨by first | rfl | (simp [errW_none, errW_some] <;> rfl) | (simp [*, errW_none, errW_some] <;> rfl) | (simp [bt, *]; done) | (unfold bt; simp [*]; done), by repeat (first | (with_reducible first | exact HB.out | apply below_alloc | apply pw_below_drewN | apply below_drew1 | refine below_set ?_ qn.out) | exact HB.out)⟩
 rw [if_neg c2] at H;have c2b0 : decide (16 < (qc.length : Int)) = false := decide_eq_false c2;have c2b1 : decide (16 < qc.length) = false := decide_eq_false (by omega);clear c2;have H' := aS_ H;clear H;go_enter Tryd.func20, Tryd.ntmps20
 go_wp2_with (first | ((with_reducible refine gate_dst (N := 1) rfl ?_); (try (refine gate_guard (by rfl) ?_; dsimp only)); refine bX_ (N := 1) (cs := #[.slice qi qc.length qj, .int .i64 qd, .string qf, .int .u32 qg, .bool qh]) (t := 27) ?hr ?_; (case hr => first | (go_simp; done) | (go_simp; rfl)); intro qb hg w5 hbox hb; have n0_ := aS_ (below_step (hb_ HB) hb); have n1_ := aS_ (hbox); have n2_ := aS_ ((by rw [hg]; exact (below_size (hb_ HB)) : w.heap.size ≤ qb)); have n3_ := aS_ ((by rw [hg]; exact (below_size (hb_ HB)) : w.heap.size ≤ qb)); clear HB; have HB := n0_; have qa := n1_; have q9 := n2_; have qn := n3_; clear n0_ n1_ n2_ n3_; clear hb hbox hg; have q3 : w5.cell? ⟨qb, 0, none⟩ = some (.slice qi qc.length qj) := bC_ qa.out 0 rfl; have q4 : w5.cell? ⟨qb, 1, none⟩ = some (.int .i64 qd) := bC_ qa.out 1 rfl; have q5 : w5.cell? ⟨qb, 2, none⟩ = some (.string qf) := bC_ qa.out 2 rfl; have q6 : w5.cell? ⟨qb, 3, none⟩ = some (.int .u32 qg) := bC_ qa.out 3 rfl; have q7 : w5.cell? ⟨qb, 4, none⟩ = some (.bool qh) := bC_ qa.out 4 rfl; have q8 := bF_ qa.out))
 repeat (go_quiet (first | ((with_reducible refine gate_dst (N := 1) rfl ?_); (try (refine gate_guard (by rfl) ?_; dsimp only)); refine bX_ (N := 1) (cs := #[.slice qi qc.length qj, .int .i64 qd, .string qf, .int .u32 qg, .bool qh]) (t := 27) ?hr ?_; (case hr => first | (go_simp; done) | (go_simp; rfl)); intro qb hg w5 hbox hb; have n0_ := aS_ (below_step (hb_ HB) hb); have n1_ := aS_ (hbox); have n2_ := aS_ ((by rw [hg]; exact (below_size (hb_ HB)) : w.heap.size ≤ qb)); have n3_ := aS_ ((by rw [hg]; exact (below_size (hb_ HB)) : w.heap.size ≤ qb)); clear HB; have HB := n0_; have qa := n1_; have q9 := n2_; have qn := n3_; clear n0_ n1_ n2_ n3_; clear hb hbox hg; have q3 : w5.cell? ⟨qb, 0, none⟩ = some (.slice qi qc.length qj) := bC_ qa.out 0 rfl; have q4 : w5.cell? ⟨qb, 1, none⟩ = some (.int .i64 qd) := bC_ qa.out 1 rfl; have q5 : w5.cell? ⟨qb, 2, none⟩ = some (.string qf) := bC_ qa.out 2 rfl; have q6 : w5.cell? ⟨qb, 3, none⟩ = some (.int .u32 qg) := bC_ qa.out 3 rfl; have q7 : w5.cell? ⟨qb, 4, none⟩ = some (.bool qh) := bC_ qa.out 4 rfl; have q8 := bF_ qa.out)); try go_wp2_with (first | ((with_reducible refine gate_dst (N := 1) rfl ?_); (try (refine gate_guard (by rfl) ?_; dsimp only)); refine bX_ (N := 1) (cs := #[.slice qi qc.length qj, .int .i64 qd, .string qf, .int .u32 qg, .bool qh]) (t := 27) ?hr ?_; (case hr => first | (go_simp; done) | (go_simp; rfl)); intro qb hg w5 hbox hb; have n0_ := aS_ (below_step (hb_ HB) hb); have n1_ := aS_ (hbox); have n2_ := aS_ ((by rw [hg]; exact (below_size (hb_ HB)) : w.heap.size ≤ qb)); have n3_ := aS_ ((by rw [hg]; exact (below_size (hb_ HB)) : w.heap.size ≤ qb)); clear HB; have HB := n0_; have qa := n1_; have q9 := n2_; have qn := n3_; clear n0_ n1_ n2_ n3_; clear hb hbox hg; have q3 : w5.cell? ⟨qb, 0, none⟩ = some (.slice qi qc.length qj) := bC_ qa.out 0 rfl; have q4 : w5.cell? ⟨qb, 1, none⟩ = some (.int .i64 qd) := bC_ qa.out 1 rfl; have q5 : w5.cell? ⟨qb, 2, none⟩ = some (.string qf) := bC_ qa.out 2 rfl; have q6 : w5.cell? ⟨qb, 3, none⟩ = some (.int .u32 qg) := bC_ qa.out 3 rfl; have q7 : w5.cell? ⟨qb, 4, none⟩ = some (.bool qh) := bC_ qa.out 4 rfl; have q8 := bF_ qa.out)))
 go_loopg [3] k (fun kq v3 w' => ∃ (qe : Int), v3 = .int .i64 qe ∧ Aside0 (headgateref11_Good.l0 kq qe qc qd qf qg qh = some r) ∧ Aside0 (kq ≤ k) ∧ Aside0 (w'.heap[qb]? = some (.cells #[(.slice qi qc.length qj), .int .i64 qd, .string qf, .int .u32 qg, .bool qh] 27 (0, 0))) ∧ Aside0 (Below w.heap.size w w'))
 case atStart => exact ⟨(0), (by first | rfl | (simp; done) | (simp [*]; done)), H', ⟨Nat.le_refl _⟩, ⟨bk_ qa⟩, ⟨hb_ HB⟩⟩
 case round =>
  clear H'
  try clear c2
  try clear c2b0
  try clear c2b1
  try clear p2
  try clear qw
  try clear qx
  try clear qy
  try clear qz
  try clear q0
  try clear q3
  try clear q4
  try clear q5
  try clear q6
  try clear q7
  try clear q2
  try clear q8
  obtain ⟨qe, rfl, HA, HK1, qa, HB⟩ := hrel
  cases gk with
  | zero => exact absurd HA.out (by simp [headgateref11_Good.l0])
  | succ k1 =>
   have H := HA.out;clear HA;simp only [headgateref11_Good.l0] at H;refine neg_first (p := (qe < (qc.length : Int))) (fun c7 => ?_) (fun c7 => ?_)
   ·rw [if_neg c7] at H;have c7b0 : decide (qe < (qc.length : Int)) = false := decide_eq_false c7;clear c7;by_cases c24 : qd = 0
    ·rw [if_pos c24] at H;have c24b0 : (qd == 0) = true := beq_iff_eq.mpr c24;have c24b1 : (qd != 0) = false := bne_eq_false_iff_eq.mpr c24;clear c24;obtain rfl := Option.some.inj H;have hcz25_0 : wr.cell? ⟨qb, 0, none⟩ = some (.slice qi qc.length qj) := bC_ qa.out 0 rfl;have hcz25_1 : wr.cell? ⟨qb, 1, none⟩ = some (.int .i64 qd) := bC_ qa.out 1 rfl;have hcz25_2 : wr.cell? ⟨qb, 2, none⟩ = some (.string qf) := bC_ qa.out 2 rfl;have hcz25_3 : wr.cell? ⟨qb, 3, none⟩ = some (.int .u32 qg) := bC_ qa.out 3 rfl;have hcz25_4 : wr.cell? ⟨qb, 4, none⟩ = some (.bool qh) := bC_ qa.out 4 rfl;have hfz25_0 := bF_ qa.out 0;have hfz25_1 := bF_ qa.out 1;have hfz25_2 := bF_ qa.out 2;have hfz25_3 := bF_ qa.out 3;have hfz25_4 := bF_ qa.out 4;go_wp2
     repeat (go_quiet (fail); try go_wp2)
     go_ret;exact ⟨by first | rfl | (simp [errW_none, errW_some] <;> rfl) | (simp [*, errW_none, errW_some] <;> rfl) | (simp [bt, *]; done) | (unfold bt; simp [*]; done), by repeat (first | (with_reducible first | exact HB.out | apply below_alloc | apply pw_below_drewN | apply below_drew1 | refine below_set ?_ qn.out) | exact HB.out)⟩
    rw [if_neg c24] at H;have c24b0 : (qd == 0) = false := beq_eq_false_iff_ne.mpr c24;have c24b1 : (qd != 0) = true := bne_iff_ne.mpr c24;replace H := Option.bind_eq_some_iff.mp H;obtain ⟨t133, A260, H⟩ := H
    try dsimp only at H
    have A26 := aS_ A260;clear A260;by_cases c27 : t133 = true
    ·subst c27;have H1 := H;rw [if_pos rfl] at H1;clear H;have H := H1;clear H1;replace H := Option.bind_eq_some_iff.mp H;obtain ⟨t134, A280, H⟩ := H
     try dsimp only at H
     have A28 := aS_ A280;clear A280;obtain rfl := Option.some.inj H;have hcz29_0 : wr.cell? ⟨qb, 0, none⟩ = some (.slice qi qc.length qj) := bC_ qa.out 0 rfl;have hcz29_1 : wr.cell? ⟨qb, 1, none⟩ = some (.int .i64 qd) := bC_ qa.out 1 rfl;have hcz29_2 : wr.cell? ⟨qb, 2, none⟩ = some (.string qf) := bC_ qa.out 2 rfl;have hcz29_3 : wr.cell? ⟨qb, 3, none⟩ = some (.int .u32 qg) := bC_ qa.out 3 rfl;have hcz29_4 : wr.cell? ⟨qb, 4, none⟩ = some (.bool qh) := bC_ qa.out 4 rfl;have hfz29_0 := bF_ qa.out 0;have hfz29_1 := bF_ qa.out 1;have hfz29_2 := bF_ qa.out 2;have hfz29_3 := bF_ qa.out 3;have hfz29_4 := bF_ qa.out 4
     go_wp2_with (first | (go_at_call 43; (with_reducible refine (headgateref11_alone.calls qd true _ A26.out).mono ?_); rintro e w' ⟨rfl, ⟨nd, rfl⟩⟩; (try first | exact ⟨rfl, _, World.drewN_drewN _ _ _⟩ | exact ⟨rfl, _, Eq.trans (World.drewN_drewN _ _ _) (congrArg (World.drewN _) (Nat.add_assoc _ _ _))⟩)) | (go_at_call 44; (with_reducible refine (headgateref10_Registered.calls k1 _ _ qc qd qf qg qh qf t134 _ ?side1 ?side2 A28.out).mono ?_); (case side1 => repeat (first | exact (Kd.C_below qr.out (hb_ HB)) | (with_reducible refine Kd.C_alloc ?_ _) | (with_reducible refine Kd.C_drewN ?_ _) | (with_reducible refine Kd.C_drew ?_))); (case side2 => exact qbx.out); rintro e w30 ⟨rfl, hb⟩; have n0_ := aS_ (blk_below (bk_ qa) hb); have n1_ := aS_ (below_step (hb_ HB) hb); clear qa; clear HB; have qa := n0_; have HB := n1_; clear n0_ n1_; (try clear hb); (try clear hb2); (try clear hk); (try clear hi)))
     repeat (go_quiet (first | (go_at_call 43; (with_reducible refine (headgateref11_alone.calls qd true _ A26.out).mono ?_); rintro e w' ⟨rfl, ⟨nd, rfl⟩⟩; (try first | exact ⟨rfl, _, World.drewN_drewN _ _ _⟩ | exact ⟨rfl, _, Eq.trans (World.drewN_drewN _ _ _) (congrArg (World.drewN _) (Nat.add_assoc _ _ _))⟩)) | (go_at_call 44; (with_reducible refine (headgateref10_Registered.calls k1 _ _ qc qd qf qg qh qf t134 _ ?side1 ?side2 A28.out).mono ?_); (case side1 => repeat (first | exact (Kd.C_below qr.out (hb_ HB)) | (with_reducible refine Kd.C_alloc ?_ _) | (with_reducible refine Kd.C_drewN ?_ _) | (with_reducible refine Kd.C_drew ?_))); (case side2 => exact qbx.out); rintro e w30 ⟨rfl, hb⟩; have n0_ := aS_ (blk_below (bk_ qa) hb); have n1_ := aS_ (below_step (hb_ HB) hb); clear qa; clear HB; have qa := n0_; have HB := n1_; clear n0_ n1_; (try clear hb); (try clear hb2); (try clear hk); (try clear hi))); try go_wp2_with (first | (go_at_call 43; (with_reducible refine (headgateref11_alone.calls qd true _ A26.out).mono ?_); rintro e w' ⟨rfl, ⟨nd, rfl⟩⟩; (try first | exact ⟨rfl, _, World.drewN_drewN _ _ _⟩ | exact ⟨rfl, _, Eq.trans (World.drewN_drewN _ _ _) (congrArg (World.drewN _) (Nat.add_assoc _ _ _))⟩)) | (go_at_call 44; (with_reducible refine (headgateref10_Registered.calls k1 _ _ qc qd qf qg qh qf t134 _ ?side1 ?side2 A28.out).mono ?_); (case side1 => repeat (first | exact (Kd.C_below qr.out (hb_ HB)) | (with_reducible refine Kd.C_alloc ?_ _) | (with_reducible refine Kd.C_drewN ?_ _) | (with_reducible refine Kd.C_drew ?_))); (case side2 => exact qbx.out); rintro e w30 ⟨rfl, hb⟩; have n0_ := aS_ (blk_below (bk_ qa) hb); have n1_ := aS_ (below_step (hb_ HB) hb); clear qa; clear HB; have qa := n0_; have HB := n1_; clear n0_ n1_; (try clear hb); (try clear hb2); (try clear hk); (try clear hi))))
     go_ret;exact ⟨by first | rfl | (simp [errW_none, errW_some] <;> rfl) | (simp [*, errW_none, errW_some] <;> rfl) | (simp [bt, *]; done) | (unfold bt; simp [*]; done), by repeat (first | (with_reducible first | exact HB.out | apply below_alloc | apply pw_below_drewN | apply below_drew1 | refine below_set ?_ qn.out) | exact HB.out)⟩
    replace c27 := Bool.eq_false_iff.mpr c27;subst c27;have H1 := H;rw [if_neg (show ¬ (false = true) by decide)] at H1;clear H;have H := H1;clear H1;replace H := Option.bind_eq_some_iff.mp H;obtain ⟨t135, A310, H⟩ := H
    try dsimp only at H
    have A31 := aS_ A310;clear A310;refine neg_first (p := (t135 = true)) (fun c32 => ?_) (fun c32 => ?_)
    ·replace c32 := Bool.eq_false_iff.mpr c32;subst c32;have H1 := H;rw [if_neg (show ¬ (false = true) by decide)] at H1;clear H;have H := H1;clear H1;obtain rfl := Option.some.inj H;have hcz36_0 : wr.cell? ⟨qb, 0, none⟩ = some (.slice qi qc.length qj) := bC_ qa.out 0 rfl;have hcz36_1 : wr.cell? ⟨qb, 1, none⟩ = some (.int .i64 qd) := bC_ qa.out 1 rfl;have hcz36_2 : wr.cell? ⟨qb, 2, none⟩ = some (.string qf) := bC_ qa.out 2 rfl;have hcz36_3 : wr.cell? ⟨qb, 3, none⟩ = some (.int .u32 qg) := bC_ qa.out 3 rfl;have hcz36_4 : wr.cell? ⟨qb, 4, none⟩ = some (.bool qh) := bC_ qa.out 4 rfl;have hfz36_0 := bF_ qa.out 0;have hfz36_1 := bF_ qa.out 1;have hfz36_2 := bF_ qa.out 2;have hfz36_3 := bF_ qa.out 3;have hfz36_4 := bF_ qa.out 4
     go_wp2_with (first | (go_at_call 43; (with_reducible refine (headgateref11_alone.calls qd false _ A26.out).mono ?_); rintro e w' ⟨rfl, ⟨nd, rfl⟩⟩; (try first | exact ⟨rfl, _, World.drewN_drewN _ _ _⟩ | exact ⟨rfl, _, Eq.trans (World.drewN_drewN _ _ _) (congrArg (World.drewN _) (Nat.add_assoc _ _ _))⟩)) | (go_at_call 38; (with_reducible refine (headgateref10_Type.calls qd false _ A31.out).mono ?_); rintro e w' ⟨rfl, ⟨nd, rfl⟩⟩; (try first | exact ⟨rfl, _, World.drewN_drewN _ _ _⟩ | exact ⟨rfl, _, Eq.trans (World.drewN_drewN _ _ _) (congrArg (World.drewN _) (Nat.add_assoc _ _ _))⟩)))
     repeat (go_quiet (first | (go_at_call 43; (with_reducible refine (headgateref11_alone.calls qd false _ A26.out).mono ?_); rintro e w' ⟨rfl, ⟨nd, rfl⟩⟩; (try first | exact ⟨rfl, _, World.drewN_drewN _ _ _⟩ | exact ⟨rfl, _, Eq.trans (World.drewN_drewN _ _ _) (congrArg (World.drewN _) (Nat.add_assoc _ _ _))⟩)) | (go_at_call 38; (with_reducible refine (headgateref10_Type.calls qd false _ A31.out).mono ?_); rintro e w' ⟨rfl, ⟨nd, rfl⟩⟩; (try first | exact ⟨rfl, _, World.drewN_drewN _ _ _⟩ | exact ⟨rfl, _, Eq.trans (World.drewN_drewN _ _ _) (congrArg (World.drewN _) (Nat.add_assoc _ _ _))⟩))); try go_wp2_with (first | (go_at_call 43; (with_reducible refine (headgateref11_alone.calls qd false _ A26.out).mono ?_); rintro e w' ⟨rfl, ⟨nd, rfl⟩⟩; (try first | exact ⟨rfl, _, World.drewN_drewN _ _ _⟩ | exact ⟨rfl, _, Eq.trans (World.drewN_drewN _ _ _) (congrArg (World.drewN _) (Nat.add_assoc _ _ _))⟩)) | (go_at_call 38; (with_reducible refine (headgateref10_Type.calls qd false _ A31.out).mono ?_); rintro e w' ⟨rfl, ⟨nd, rfl⟩⟩; (try first | exact ⟨rfl, _, World.drewN_drewN _ _ _⟩ | exact ⟨rfl, _, Eq.trans (World.drewN_drewN _ _ _) (congrArg (World.drewN _) (Nat.add_assoc _ _ _))⟩))))
     go_ret;exact ⟨by first | rfl | (simp [errW_none, errW_some] <;> rfl) | (simp [*, errW_none, errW_some] <;> rfl) | (simp [bt, *]; done) | (unfold bt; simp [*]; done), by repeat (first | (with_reducible first | exact HB.out | apply below_alloc | apply pw_below_drewN | apply below_drew1 | refine below_set ?_ qn.out) | exact HB.out)⟩
    subst c32;have H1 := H;rw [if_pos rfl] at H1;clear H;have H := H1;clear H1;refine neg_first (p := (qf.toList = ([] : List UInt8))) (fun c33 => ?_) (fun c33 => ?_)
    ·rw [if_neg c33] at H;have c33b0 : (qf.toList == ([] : List UInt8)) = false := beq_eq_false_iff_ne.mpr c33;have c33b1 : (qf.toList != ([] : List UInt8)) = true := bne_iff_ne.mpr c33
     (try (have c33b2 : (qf = ByteArray.empty) = False := eq_false (fun h_ => c33 (by rw [h_, ByteArray.toList_eq]; rfl))))
     obtain rfl := Option.some.inj H;have hcz35_0 : wr.cell? ⟨qb, 0, none⟩ = some (.slice qi qc.length qj) := bC_ qa.out 0 rfl;have hcz35_1 : wr.cell? ⟨qb, 1, none⟩ = some (.int .i64 qd) := bC_ qa.out 1 rfl;have hcz35_2 : wr.cell? ⟨qb, 2, none⟩ = some (.string qf) := bC_ qa.out 2 rfl;have hcz35_3 : wr.cell? ⟨qb, 3, none⟩ = some (.int .u32 qg) := bC_ qa.out 3 rfl;have hcz35_4 : wr.cell? ⟨qb, 4, none⟩ = some (.bool qh) := bC_ qa.out 4 rfl;have hfz35_0 := bF_ qa.out 0;have hfz35_1 := bF_ qa.out 1;have hfz35_2 := bF_ qa.out 2;have hfz35_3 := bF_ qa.out 3;have hfz35_4 := bF_ qa.out 4
     go_wp2_with (first | (go_at_call 43; (with_reducible refine (headgateref11_alone.calls qd false _ A26.out).mono ?_); rintro e w' ⟨rfl, ⟨nd, rfl⟩⟩; (try first | exact ⟨rfl, _, World.drewN_drewN _ _ _⟩ | exact ⟨rfl, _, Eq.trans (World.drewN_drewN _ _ _) (congrArg (World.drewN _) (Nat.add_assoc _ _ _))⟩)) | (go_at_call 38; (with_reducible refine (headgateref10_Type.calls qd true _ A31.out).mono ?_); rintro e w' ⟨rfl, ⟨nd, rfl⟩⟩; (try first | exact ⟨rfl, _, World.drewN_drewN _ _ _⟩ | exact ⟨rfl, _, Eq.trans (World.drewN_drewN _ _ _) (congrArg (World.drewN _) (Nat.add_assoc _ _ _))⟩)))
     repeat (go_quiet (first | (go_at_call 43; (with_reducible refine (headgateref11_alone.calls qd false _ A26.out).mono ?_); rintro e w' ⟨rfl, ⟨nd, rfl⟩⟩; (try first | exact ⟨rfl, _, World.drewN_drewN _ _ _⟩ | exact ⟨rfl, _, Eq.trans (World.drewN_drewN _ _ _) (congrArg (World.drewN _) (Nat.add_assoc _ _ _))⟩)) | (go_at_call 38; (with_reducible refine (headgateref10_Type.calls qd true _ A31.out).mono ?_); rintro e w' ⟨rfl, ⟨nd, rfl⟩⟩; (try first | exact ⟨rfl, _, World.drewN_drewN _ _ _⟩ | exact ⟨rfl, _, Eq.trans (World.drewN_drewN _ _ _) (congrArg (World.drewN _) (Nat.add_assoc _ _ _))⟩))); try go_wp2_with (first | (go_at_call 43; (with_reducible refine (headgateref11_alone.calls qd false _ A26.out).mono ?_); rintro e w' ⟨rfl, ⟨nd, rfl⟩⟩; (try first | exact ⟨rfl, _, World.drewN_drewN _ _ _⟩ | exact ⟨rfl, _, Eq.trans (World.drewN_drewN _ _ _) (congrArg (World.drewN _) (Nat.add_assoc _ _ _))⟩)) | (go_at_call 38; (with_reducible refine (headgateref10_Type.calls qd true _ A31.out).mono ?_); rintro e w' ⟨rfl, ⟨nd, rfl⟩⟩; (try first | exact ⟨rfl, _, World.drewN_drewN _ _ _⟩ | exact ⟨rfl, _, Eq.trans (World.drewN_drewN _ _ _) (congrArg (World.drewN _) (Nat.add_assoc _ _ _))⟩))))
     go_ret;exact ⟨by first | rfl | (simp [errW_none, errW_some] <;> rfl) | (simp [*, errW_none, errW_some] <;> rfl) | (simp [bt, *]; done) | (unfold bt; simp [*]; done), by repeat (first | (with_reducible first | exact HB.out | apply below_alloc | apply pw_below_drewN | apply below_drew1 | refine below_set ?_ qn.out) | exact HB.out)⟩
    rw [if_pos c33] at H;have c33b0 : (qf.toList == ([] : List UInt8)) = true := beq_iff_eq.mpr c33;have c33b1 : (qf.toList != ([] : List UInt8)) = false := bne_eq_false_iff_eq.mpr c33
    (try (have c33b2 : (qf = ByteArray.empty) = True := eq_true (by have h_ := c33; rw [ByteArray.toList_eq] at h_; exact ByteArray.ext (Array.toList_eq_nil_iff.mp h_))))
    clear c33;obtain rfl := Option.some.inj H;have hcz34_0 : wr.cell? ⟨qb, 0, none⟩ = some (.slice qi qc.length qj) := bC_ qa.out 0 rfl;have hcz34_1 : wr.cell? ⟨qb, 1, none⟩ = some (.int .i64 qd) := bC_ qa.out 1 rfl;have hcz34_2 : wr.cell? ⟨qb, 2, none⟩ = some (.string qf) := bC_ qa.out 2 rfl;have hcz34_3 : wr.cell? ⟨qb, 3, none⟩ = some (.int .u32 qg) := bC_ qa.out 3 rfl;have hcz34_4 : wr.cell? ⟨qb, 4, none⟩ = some (.bool qh) := bC_ qa.out 4 rfl;have hfz34_0 := bF_ qa.out 0;have hfz34_1 := bF_ qa.out 1;have hfz34_2 := bF_ qa.out 2;have hfz34_3 := bF_ qa.out 3;have hfz34_4 := bF_ qa.out 4
    go_wp2_with (first | (go_at_call 43; (with_reducible refine (headgateref11_alone.calls qd false _ A26.out).mono ?_); rintro e w' ⟨rfl, ⟨nd, rfl⟩⟩; (try first | exact ⟨rfl, _, World.drewN_drewN _ _ _⟩ | exact ⟨rfl, _, Eq.trans (World.drewN_drewN _ _ _) (congrArg (World.drewN _) (Nat.add_assoc _ _ _))⟩)) | (go_at_call 38; (with_reducible refine (headgateref10_Type.calls qd true _ A31.out).mono ?_); rintro e w' ⟨rfl, ⟨nd, rfl⟩⟩; (try first | exact ⟨rfl, _, World.drewN_drewN _ _ _⟩ | exact ⟨rfl, _, Eq.trans (World.drewN_drewN _ _ _) (congrArg (World.drewN _) (Nat.add_assoc _ _ _))⟩)))
    repeat (go_quiet (first | (go_at_call 43; (with_reducible refine (headgateref11_alone.calls qd false _ A26.out).mono ?_); rintro e w' ⟨rfl, ⟨nd, rfl⟩⟩; (try first | exact ⟨rfl, _, World.drewN_drewN _ _ _⟩ | exact ⟨rfl, _, Eq.trans (World.drewN_drewN _ _ _) (congrArg (World.drewN _) (Nat.add_assoc _ _ _))⟩)) | (go_at_call 38; (with_reducible refine (headgateref10_Type.calls qd true _ A31.out).mono ?_); rintro e w' ⟨rfl, ⟨nd, rfl⟩⟩; (try first | exact ⟨rfl, _, World.drewN_drewN _ _ _⟩ | exact ⟨rfl, _, Eq.trans (World.drewN_drewN _ _ _) (congrArg (World.drewN _) (Nat.add_assoc _ _ _))⟩))); try go_wp2_with (first | (go_at_call 43; (with_reducible refine (headgateref11_alone.calls qd false _ A26.out).mono ?_); rintro e w' ⟨rfl, ⟨nd, rfl⟩⟩; (try first | exact ⟨rfl, _, World.drewN_drewN _ _ _⟩ | exact ⟨rfl, _, Eq.trans (World.drewN_drewN _ _ _) (congrArg (World.drewN _) (Nat.add_assoc _ _ _))⟩)) | (go_at_call 38; (with_reducible refine (headgateref10_Type.calls qd true _ A31.out).mono ?_); rintro e w' ⟨rfl, ⟨nd, rfl⟩⟩; (try first | exact ⟨rfl, _, World.drewN_drewN _ _ _⟩ | exact ⟨rfl, _, Eq.trans (World.drewN_drewN _ _ _) (congrArg (World.drewN _) (Nat.add_assoc _ _ _))⟩))))
    go_ret;exact ⟨by first | rfl | (simp [errW_none, errW_some] <;> rfl) | (simp [*, errW_none, errW_some] <;> rfl) | (simp [bt, *]; done) | (unfold bt; simp [*]; done), by repeat (first | (with_reducible first | exact HB.out | apply below_alloc | apply pw_below_drewN | apply below_drew1 | refine below_set ?_ qn.out) | exact HB.out)⟩
   rw [if_pos c7] at H;have c7b0 : decide (qe < (qc.length : Int)) = true := decide_eq_true c7;clear c7;have HC8 := aS_ H;clear H;have qby : wr.cell? ⟨qb, 0, none⟩ = some (.slice qi qc.length qj) := bC_ qa.out 0 rfl;have qbz : wr.cell? ⟨qb, 1, none⟩ = some (.int .i64 qd) := bC_ qa.out 1 rfl;have qb0 : wr.cell? ⟨qb, 2, none⟩ = some (.string qf) := bC_ qa.out 2 rfl;have qb1 : wr.cell? ⟨qb, 3, none⟩ = some (.int .u32 qg) := bC_ qa.out 3 rfl;have qb2 : wr.cell? ⟨qb, 4, none⟩ = some (.bool qh) := bC_ qa.out 4 rfl;have qb3 := bF_ qa.out 0;have qb4 := bF_ qa.out 1;have qb5 := bF_ qa.out 2;have qb6 := bF_ qa.out 3;have qb7 := bF_ qa.out 4
   go_upto_region 6 with (fail)
   repeat (go_quiet (fail); go_upto_region 6 with (fail))
   go_cut [32] (fun v32 wc => ∃ (kq : Nat) (qbb : Bool), v32 = .bool qbb ∧ Aside0 (headgateref11_Good.j1 kq qe qbb qc qd qf qg qh = some r) ∧ Aside0 (kq ≤ k1) ∧ Aside0 (wc.heap[qb]? = some (.cells #[(.slice qi qc.length qj), .int .i64 qd, .string qf, .int .u32 qg, .bool qh] 27 (0, 0))) ∧ Aside0 (Below w.heap.size w wc))
   case first =>
    have H := HC8.out;clear HC8;refine neg_first (p := (0 ≤ qe)) (fun c10 => ?_) (fun c10 => ?_)
    ·rw [if_neg c10] at H;exact absurd H (by simp)
    rw [if_pos c10] at H;have c10b0 : decide (0 ≤ qe) = true := decide_eq_true c10;clear c10
    (first | rw [c10b0] | (simp only [i64_w, i32_w]; rw [c10b0]) | skip)
    replace H := Option.bind_eq_some_iff.mp H;obtain ⟨t129, A110, H⟩ := H
    try dsimp only at H
    have A11 := aS_ A110;clear A110;refine neg_first (p := (t129 = true)) (fun c12 => ?_) (fun c12 => ?_)
    ·replace c12 := Bool.eq_false_iff.mpr c12;subst c12;have H1 := H;rw [if_neg (show ¬ (false = true) by decide)] at H1;clear H;have H := H1;clear H1;have H' := aS_ H;clear H;have qbc : wr.cell? ⟨qb, 0, none⟩ = some (.slice qi qc.length qj) := bC_ qa.out 0 rfl;have qbd : wr.cell? ⟨qb, 1, none⟩ = some (.int .i64 qd) := bC_ qa.out 1 rfl;have qbe : wr.cell? ⟨qb, 2, none⟩ = some (.string qf) := bC_ qa.out 2 rfl;have qbf : wr.cell? ⟨qb, 3, none⟩ = some (.int .u32 qg) := bC_ qa.out 3 rfl;have qbg : wr.cell? ⟨qb, 4, none⟩ = some (.bool qh) := bC_ qa.out 4 rfl;have qbh := bF_ qa.out 0;have qbi := bF_ qa.out 1;have qbj := bF_ qa.out 2;have qbk := bF_ qa.out 3;have qbl := bF_ qa.out 4;have p128 : 0 ≤ (qe : Int) := of_decide_eq_true (by first | (with_reducible assumption) | assumption);have q128 : qe < (qc.length : Int) := of_decide_eq_true (by first | (with_reducible assumption) | assumption);obtain ⟨qbm, e128, qp, qq⟩ := at_T53 qr.out qe p128 q128;cases e128;replace qp := cB_ HB.out qp;replace qq := cB_ HB.out qq;replace p128 := eq_true p128;replace q128 := eq_true q128
     go_wp2_with (first | (go_at_call 27; (with_reducible refine (headgateref03_Name.calls k1 ((rd_T53 qc qe).f0) false _ A11.out).mono ?_); rintro e w' ⟨rfl, ⟨nd, rfl⟩⟩; (try first | exact ⟨rfl, _, World.drewN_drewN _ _ _⟩ | exact ⟨rfl, _, Eq.trans (World.drewN_drewN _ _ _) (congrArg (World.drewN _) (Nat.add_assoc _ _ _))⟩)))
     repeat (go_quiet (first | (go_at_call 27; (with_reducible refine (headgateref03_Name.calls k1 ((rd_T53 qc qe).f0) false _ A11.out).mono ?_); rintro e w' ⟨rfl, ⟨nd, rfl⟩⟩; (try first | exact ⟨rfl, _, World.drewN_drewN _ _ _⟩ | exact ⟨rfl, _, Eq.trans (World.drewN_drewN _ _ _) (congrArg (World.drewN _) (Nat.add_assoc _ _ _))⟩))); try go_wp2_with (first | (go_at_call 27; (with_reducible refine (headgateref03_Name.calls k1 ((rd_T53 qc qe).f0) false _ A11.out).mono ?_); rintro e w' ⟨rfl, ⟨nd, rfl⟩⟩; (try first | exact ⟨rfl, _, World.drewN_drewN _ _ _⟩ | exact ⟨rfl, _, Eq.trans (World.drewN_drewN _ _ _) (congrArg (World.drewN _) (Nat.add_assoc _ _ _))⟩))))
     go_meet
     case rel => exact ⟨_, (true), (by first | rfl | (simp; done) | (simp [*]; done)), H', ⟨by have := HK1.out; first | omega | exact Nat.le_refl _⟩, ⟨bk_ qa⟩, ⟨hb_ HB⟩⟩
    subst c12;have H1 := H;rw [if_pos rfl] at H1;clear H;have H := H1;clear H1;have H' := aS_ H;clear H;have qbn : wr.cell? ⟨qb, 0, none⟩ = some (.slice qi qc.length qj) := bC_ qa.out 0 rfl;have qbo : wr.cell? ⟨qb, 1, none⟩ = some (.int .i64 qd) := bC_ qa.out 1 rfl;have qbp : wr.cell? ⟨qb, 2, none⟩ = some (.string qf) := bC_ qa.out 2 rfl;have qbq : wr.cell? ⟨qb, 3, none⟩ = some (.int .u32 qg) := bC_ qa.out 3 rfl;have qbr : wr.cell? ⟨qb, 4, none⟩ = some (.bool qh) := bC_ qa.out 4 rfl;have qbs := bF_ qa.out 0;have qbt := bF_ qa.out 1;have qbu := bF_ qa.out 2;have qbv := bF_ qa.out 3;have qbw := bF_ qa.out 4;have p128 : 0 ≤ (qe : Int) := of_decide_eq_true (by first | (with_reducible assumption) | assumption);have q128 : qe < (qc.length : Int) := of_decide_eq_true (by first | (with_reducible assumption) | assumption);obtain ⟨qbm, e128, qp, qq⟩ := at_T53 qr.out qe p128 q128;cases e128;replace qp := cB_ HB.out qp;replace qq := cB_ HB.out qq;replace p128 := eq_true p128;replace q128 := eq_true q128
    go_wp2_with (first | (go_at_call 27; (with_reducible refine (headgateref03_Name.calls k1 ((rd_T53 qc qe).f0) true _ A11.out).mono ?_); rintro e w' ⟨rfl, ⟨nd, rfl⟩⟩; (try first | exact ⟨rfl, _, World.drewN_drewN _ _ _⟩ | exact ⟨rfl, _, Eq.trans (World.drewN_drewN _ _ _) (congrArg (World.drewN _) (Nat.add_assoc _ _ _))⟩); have p130 : 0 ≤ (qe : Int) := of_decide_eq_true (by first | (with_reducible assumption) | assumption); have q130 : qe < (qc.length : Int) := of_decide_eq_true (by first | (with_reducible assumption) | assumption); obtain ⟨qba, e130, qk, ql⟩ := at_T53 qr.out qe p130 q130; obtain rfl : qbm = qba := (by injection e130); replace qk := cB_ HB.out qk; replace ql := cB_ HB.out ql; replace p130 := eq_true p130; replace q130 := eq_true q130))
    repeat (go_quiet (first | (go_at_call 27; (with_reducible refine (headgateref03_Name.calls k1 ((rd_T53 qc qe).f0) true _ A11.out).mono ?_); rintro e w' ⟨rfl, ⟨nd, rfl⟩⟩; (try first | exact ⟨rfl, _, World.drewN_drewN _ _ _⟩ | exact ⟨rfl, _, Eq.trans (World.drewN_drewN _ _ _) (congrArg (World.drewN _) (Nat.add_assoc _ _ _))⟩); have p130 : 0 ≤ (qe : Int) := of_decide_eq_true (by first | (with_reducible assumption) | assumption); have q130 : qe < (qc.length : Int) := of_decide_eq_true (by first | (with_reducible assumption) | assumption); obtain ⟨qba, e130, qk, ql⟩ := at_T53 qr.out qe p130 q130; obtain rfl : qbm = qba := (by injection e130); replace qk := cB_ HB.out qk; replace ql := cB_ HB.out ql; replace p130 := eq_true p130; replace q130 := eq_true q130)); try go_wp2_with (first | (go_at_call 27; (with_reducible refine (headgateref03_Name.calls k1 ((rd_T53 qc qe).f0) true _ A11.out).mono ?_); rintro e w' ⟨rfl, ⟨nd, rfl⟩⟩; (try first | exact ⟨rfl, _, World.drewN_drewN _ _ _⟩ | exact ⟨rfl, _, Eq.trans (World.drewN_drewN _ _ _) (congrArg (World.drewN _) (Nat.add_assoc _ _ _))⟩); have p130 : 0 ≤ (qe : Int) := of_decide_eq_true (by first | (with_reducible assumption) | assumption); have q130 : qe < (qc.length : Int) := of_decide_eq_true (by first | (with_reducible assumption) | assumption); obtain ⟨qba, e130, qk, ql⟩ := at_T53 qr.out qe p130 q130; obtain rfl : qbm = qba := (by injection e130); replace qk := cB_ HB.out qk; replace ql := cB_ HB.out ql; replace p130 := eq_true p130; replace q130 := eq_true q130)))
    go_meet
    case rel => exact ⟨_, ((((rd_T53 qc qe).f1) == 0)), (by first | rfl | (simp; done) | (simp [*]; done)), H', ⟨by have := HK1.out; first | omega | exact Nat.le_refl _⟩, ⟨bk_ qa⟩, ⟨hb_ HB⟩⟩
   case rest =>
    clear HC8
    try clear c1
    try clear p1
    try clear q1
    try clear hx1
    try clear c2
    try clear c2b0
    try clear c2b1
    try clear p2
    try clear c7
    try clear c7b0
    try clear c10
    try clear c10b0
    try clear c12
    try clear p12
    try clear q12
    try clear hx12
    try clear p13
    try clear q13
    try clear hx13
    try clear qbn
    try clear qbo
    try clear qbp
    try clear qbq
    try clear qbr
    try clear qbc
    try clear qbd
    try clear qbe
    try clear qbf
    try clear qbg
    try clear qw
    try clear qx
    try clear qy
    try clear qz
    try clear q0
    try clear q3
    try clear q4
    try clear q5
    try clear q6
    try clear q7
    try clear qby
    try clear qbz
    try clear qb0
    try clear qb1
    try clear qb2
    try clear qbs
    try clear qbt
    try clear qbu
    try clear qbv
    try clear qbw
    try clear qbh
    try clear qbi
    try clear qbj
    try clear qbk
    try clear qbl
    try clear q2
    try clear q8
    try clear qb3
    try clear qb4
    try clear qb5
    try clear qb6
    try clear qb7
    try clear qp
    try clear qq
    try clear qk
    try clear ql
    try clear p128
    try clear p130
    try clear p2
    try clear q128
    try clear q130
    obtain ⟨kq, qbb, rfl, HA, HJ7, qa, HB⟩ := hcut
    cases kq with
    | zero => exact absurd HA.out (by simp [headgateref11_Good.j1])
    | succ kj7 =>
     have H := HA.out;clear HA;simp only [headgateref11_Good.j1] at H;by_cases c15 : qbb = true
     ·subst c15;have H1 := H;rw [if_pos rfl] at H1;clear H;have H := H1;clear H1;obtain rfl := Option.some.inj H;go_wp2
      repeat (go_quiet (fail); try go_wp2)
      go_ret;exact ⟨by first | rfl | (simp [errW_none, errW_some] <;> rfl) | (simp [*, errW_none, errW_some] <;> rfl) | (simp [bt, *]; done) | (unfold bt; simp [*]; done), by repeat (first | (with_reducible first | exact HB.out | apply below_alloc | apply pw_below_drewN | apply below_drew1 | refine below_set ?_ qn.out) | exact HB.out)⟩
     replace c15 := Bool.eq_false_iff.mpr c15;subst c15;have H1 := H;rw [if_neg (show ¬ (false = true) by decide)] at H1;clear H;have H := H1;clear H1;have H' := aS_ H;clear H;go_wp2
     repeat (go_quiet (fail); try go_wp2)
     go_loopg [4] kj7 (fun kq v4 w' => ∃ (qm : Int), v4 = .int .i64 qm ∧ Aside0 (headgateref11_Good.l1 kq qe qm qc qd qf qg qh = some r) ∧ Aside0 (kq ≤ kj7) ∧ Aside0 (w'.heap[qb]? = some (.cells #[(.slice qi qc.length qj), .int .i64 qd, .string qf, .int .u32 qg, .bool qh] 27 (0, 0))) ∧ Aside0 (Below w.heap.size w w'))
     case atStart => exact ⟨(0), (by first | rfl | (simp; done) | (simp [*]; done)), H', ⟨Nat.le_refl _⟩, ⟨bk_ qa⟩, ⟨hb_ HB⟩⟩
     case round =>
      clear H'
      try clear c1
      try clear p1
      try clear q1
      try clear hx1
      try clear c2
      try clear c2b0
      try clear c2b1
      try clear p2
      try clear c7
      try clear c7b0
      try clear c10
      try clear c10b0
      try clear c12
      try clear p12
      try clear q12
      try clear hx12
      try clear p13
      try clear q13
      try clear hx13
      try clear c15
      try clear qbn
      try clear qbo
      try clear qbp
      try clear qbq
      try clear qbr
      try clear qbc
      try clear qbd
      try clear qbe
      try clear qbf
      try clear qbg
      try clear qw
      try clear qx
      try clear qy
      try clear qz
      try clear q0
      try clear q3
      try clear q4
      try clear q5
      try clear q6
      try clear q7
      try clear qby
      try clear qbz
      try clear qb0
      try clear qb1
      try clear qb2
      try clear qbs
      try clear qbt
      try clear qbu
      try clear qbv
      try clear qbw
      try clear qbh
      try clear qbi
      try clear qbj
      try clear qbk
      try clear qbl
      try clear q2
      try clear q8
      try clear qb3
      try clear qb4
      try clear qb5
      try clear qb6
      try clear qb7
      try clear qp
      try clear qq
      try clear qk
      try clear ql
      try clear p1
      try clear p12
      try clear p128
      try clear p13
      try clear p130
      try clear p2
      try clear q1
      try clear q12
      try clear q128
      try clear q13
      try clear q130
      obtain ⟨qm, rfl, HA, HK3, qa, HB⟩ := hrel
      cases gk with
      | zero => exact absurd HA.out (by simp [headgateref11_Good.l1])
      | succ k3 =>
       have H := HA.out;clear HA;simp only [headgateref11_Good.l1] at H;refine neg_first (p := (qm < qe)) (fun c16 => ?_) (fun c16 => ?_)
       ·rw [if_neg c16] at H;have c16b0 : decide (qm < qe) = false := decide_eq_false c16;clear c16;have H' := aS_ H;clear H;go_wp2
        repeat (go_quiet (fail); try go_wp2)
        go_roundg k3
        case measure => have := HK1.out; have := HJ7.out; have := HK3.out; omega
        case rel => exact ⟨(wrap64 (qe + 1)), (by first | rfl | (simp; done) | (simp [*]; done)), H', ⟨by have := HK1.out; have := HJ7.out; have := HK3.out; omega⟩, ⟨bk_ qa⟩, ⟨hb_ HB⟩⟩
       rw [if_pos c16] at H;have c16b0 : decide (qm < qe) = true := decide_eq_true c16;clear c16;refine neg_first (p := (0 ≤ qm)) (fun c17 => ?_) (fun c17 => ?_)
       ·rw [if_neg c17] at H;exact absurd H (by simp)
       rw [if_pos c17] at H;have c17b0 : decide (0 ≤ qm) = true := decide_eq_true c17;clear c17;refine neg_first (p := (qm < (qc.length : Int))) (fun c18 => ?_) (fun c18 => ?_)
       ·rw [if_neg c18] at H;exact absurd H (by simp)
       rw [if_pos c18] at H;have c18b0 : decide (qm < (qc.length : Int)) = true := decide_eq_true c18;clear c18;refine neg_first (p := (0 ≤ qe)) (fun c19 => ?_) (fun c19 => ?_)
       ·rw [if_neg c19] at H;exact absurd H (by simp)
       rw [if_pos c19] at H;have c19b0 : decide (0 ≤ qe) = true := decide_eq_true c19;clear c19;refine neg_first (p := (qe < (qc.length : Int))) (fun c20 => ?_) (fun c20 => ?_)
       ·rw [if_neg c20] at H;exact absurd H (by simp)
       rw [if_pos c20] at H;have c20b0 : decide (qe < (qc.length : Int)) = true := decide_eq_true c20;clear c20;refine neg_first (p := (((rd_T53 qc qm).f0).toList = ((rd_T53 qc qe).f0).toList)) (fun c21 => ?_) (fun c21 => ?_)
       ·rw [if_neg c21] at H;have c21b0 : (((rd_T53 qc qm).f0).toList == ((rd_T53 qc qe).f0).toList) = false := beq_eq_false_iff_ne.mpr c21;have c21b1 : (((rd_T53 qc qm).f0).toList != ((rd_T53 qc qe).f0).toList) = true := bne_iff_ne.mpr c21;have H' := aS_ H;clear H;have hcz23_0 : wr.cell? ⟨qb, 0, none⟩ = some (.slice qi qc.length qj) := bC_ qa.out 0 rfl;have hcz23_1 : wr.cell? ⟨qb, 1, none⟩ = some (.int .i64 qd) := bC_ qa.out 1 rfl;have hcz23_2 : wr.cell? ⟨qb, 2, none⟩ = some (.string qf) := bC_ qa.out 2 rfl;have hcz23_3 : wr.cell? ⟨qb, 3, none⟩ = some (.int .u32 qg) := bC_ qa.out 3 rfl;have hcz23_4 : wr.cell? ⟨qb, 4, none⟩ = some (.bool qh) := bC_ qa.out 4 rfl;have hfz23_0 := bF_ qa.out 0;have hfz23_1 := bF_ qa.out 1;have hfz23_2 := bF_ qa.out 2;have hfz23_3 := bF_ qa.out 3;have hfz23_4 := bF_ qa.out 4;have p131 : 0 ≤ (qm : Int) := of_decide_eq_true (by first | (with_reducible assumption) | assumption);have q131 : qm < (qc.length : Int) := of_decide_eq_true (by first | (with_reducible assumption) | assumption);obtain ⟨qb8, e131, qs, qt⟩ := at_T53 qr.out qm p131 q131;cases e131;replace qs := cB_ HB.out qs;replace qt := cB_ HB.out qt;replace p131 := eq_true p131;replace q131 := eq_true q131;have p132 : 0 ≤ (qe : Int) := of_decide_eq_true (by first | (with_reducible assumption) | assumption);have q132 : qe < (qc.length : Int) := of_decide_eq_true (by first | (with_reducible assumption) | assumption);obtain ⟨qb9, e132, qu, qv⟩ := at_T53 qr.out qe p132 q132
        obtain rfl : qb8 = qb9 := (by injection e132)
        replace qu := cB_ HB.out qu;replace qv := cB_ HB.out qv;replace p132 := eq_true p132;replace q132 := eq_true q132;go_wp2
        repeat (go_quiet (fail); try go_wp2)
        go_roundg k3
        case measure => have := HK1.out; have := HJ7.out; have := HK3.out; omega
        case rel => exact ⟨(wrap64 (qm + 1)), (by first | rfl | (simp; done) | (simp [*]; done)), H', ⟨by have := HK1.out; have := HJ7.out; have := HK3.out; omega⟩, ⟨bk_ qa⟩, ⟨hb_ HB⟩⟩
       rw [if_pos c21] at H;have c21b0 : (((rd_T53 qc qm).f0).toList == ((rd_T53 qc qe).f0).toList) = true := beq_iff_eq.mpr c21;have c21b1 : (((rd_T53 qc qm).f0).toList != ((rd_T53 qc qe).f0).toList) = false := bne_eq_false_iff_eq.mpr c21;clear c21;obtain rfl := Option.some.inj H;have hcz22_0 : wr.cell? ⟨qb, 0, none⟩ = some (.slice qi qc.length qj) := bC_ qa.out 0 rfl;have hcz22_1 : wr.cell? ⟨qb, 1, none⟩ = some (.int .i64 qd) := bC_ qa.out 1 rfl;have hcz22_2 : wr.cell? ⟨qb, 2, none⟩ = some (.string qf) := bC_ qa.out 2 rfl;have hcz22_3 : wr.cell? ⟨qb, 3, none⟩ = some (.int .u32 qg) := bC_ qa.out 3 rfl;have hcz22_4 : wr.cell? ⟨qb, 4, none⟩ = some (.bool qh) := bC_ qa.out 4 rfl;have hfz22_0 := bF_ qa.out 0;have hfz22_1 := bF_ qa.out 1;have hfz22_2 := bF_ qa.out 2;have hfz22_3 := bF_ qa.out 3;have hfz22_4 := bF_ qa.out 4;have p131 : 0 ≤ (qm : Int) := of_decide_eq_true (by first | (with_reducible assumption) | assumption);have q131 : qm < (qc.length : Int) := of_decide_eq_true (by first | (with_reducible assumption) | assumption);obtain ⟨qb8, e131, qs, qt⟩ := at_T53 qr.out qm p131 q131;cases e131;replace qs := cB_ HB.out qs;replace qt := cB_ HB.out qt;replace p131 := eq_true p131;replace q131 := eq_true q131;have p132 : 0 ≤ (qe : Int) := of_decide_eq_true (by first | (with_reducible assumption) | assumption);have q132 : qe < (qc.length : Int) := of_decide_eq_true (by first | (with_reducible assumption) | assumption);obtain ⟨qb9, e132, qu, qv⟩ := at_T53 qr.out qe p132 q132
       obtain rfl : qb8 = qb9 := (by injection e132)
       replace qu := cB_ HB.out qu;replace qv := cB_ HB.out qv;replace p132 := eq_true p132;replace q132 := eq_true q132;go_wp2
       repeat (go_quiet (fail); try go_wp2)
       go_ret;exact ⟨by first | rfl | (simp [errW_none, errW_some] <;> rfl) | (simp [*, errW_none, errW_some] <;> rfl) | (simp [bt, *]; done) | (unfold bt; simp [*]; done), by repeat (first | (with_reducible first | exact HB.out | apply below_alloc | apply pw_below_drewN | apply below_drew1 | refine below_set ?_ qn.out) | exact HB.out)⟩
def headgateref11_events.l0 : Nat → List (S53) → ByteArray → Int → List (S46) → Int → Option ((List (S46)))
  | 0, _, _, _, _, _ => none
  | k + 1, x0, x1, x2, x7, x8 => if x8 < (x0.length : Int) then (if 0 ≤ x8 then (if ((rd_T53 x0 x8).f0).toList = x1.toList then (headgateref11_events.l0 k x0 x1 x2 x7 (wrap64 (x8 + 1))) else (if x7.length < 5864062014805 then (headgateref11_events.l0 k x0 x1 x2 (x7 ++ [(⟨(rd_T53 x0 x8).f0, x2⟩ : S46)]) (wrap64 (x8 + 1))) else (none))) else (none)) else (some x7)
def headgateref11_events.f (k : Nat) (l0 : List (S53)) (a1 : ByteArray) (a2 : Int) : Option ((List (S46))) := headgateref11_events.l0 k l0 a1 a2 ([] : List (S46)) 0
theorem headgateref11_events.mono_l : ∀ k, (∀ y0 y1 y2 y3 y4, LeO (headgateref11_events.l0 k y0 y1 y2 y3 y4) (headgateref11_events.l0 (k + 1) y0 y1 y2 y3 y4))
 | 0 => fun _ _ _ _ _ r h => by simp [headgateref11_events.l0] at h
 | k + 1 => by
  have ih0 := headgateref11_events.mono_l k
  ·intro y0 y1 y2 y3 y4
   unfold headgateref11_events.l0
   repeat' first
   | (with_reducible exact ih0 _ _ _ _ _)
   | (with_reducible exact LeO.refl _)
   | (with_reducible exact LeO.none _)
   | (with_reducible refine LeO.ite ?_ ?_)
   | (with_reducible refine LeO.bind ?_ (fun _ => ?_))
   | exact ih0 _ _ _ _ _
   | exact LeO.none _
   | refine LeO.ite ?_ ?_
   | refine LeO.bind ?_ (fun _ => ?_)
theorem headgateref11_events.mono : ∀ a0 a1 a2 k, LeO (headgateref11_events.f k a0 a1 a2) (headgateref11_events.f (k + 1) a0 a1 a2) := by
 intro a0 a1 a2 k;have ih0 := headgateref11_events.mono_l k;unfold headgateref11_events.f
 repeat' first
   | (with_reducible exact ih0 _ _ _ _ _)
   | (with_reducible exact LeO.refl _)
   | (with_reducible exact LeO.none _)
   | (with_reducible refine LeO.ite ?_ ?_)
   | (with_reducible refine LeO.bind ?_ (fun _ => ?_))
   | exact ih0 _ _ _ _ _
   | exact LeO.none _
   | refine LeO.ite ?_ ?_
   | refine LeO.bind ?_ (fun _ => ?_)
theorem headgateref11_events.calls (k : Nat) (A0 : Option Addr) (c0 : Nat) (l0 : List (S53)) (a1 : ByteArray) (a2 : Int) (r : List (S46)) (w : World) (hr0 : Kd.C k53 w A0 l0.length l0) (hc0 : l0.length ≤ c0) (h : headgateref11_events.f k l0 a1 a2 = some r) :
  Calls Tryd.prog 41 #[.slice A0 l0.length c0, .string a1, .int .i64 a2] w fun e w' => ∃ v0_ : Value, e = .returned (v0_) ∧ Kd.R k46 46 w' w.heap.size (fun _ => True) v0_ r ∧ Below w.heap.size w w' := by
 have hu46 := Tryd.underlying46;have HR0 := aS_ hr0;have HC0 := aS_ hc0;clear hr0 hc0;have HB := aS_ (Below.refl w.heap.size w);have H : (headgateref11_events.l0 k l0 a1 a2 ([] : List (S46)) 0) = some r := h;clear h;have H' := aS_ H;clear H;go_enter Tryd.func41, Tryd.ntmps41;go_wp2
 go_loopg [7, 8] k (fun kq v7 v8 w' => ∃ (x7_1 : List (S46)) (x8_1 : Int), v8 = .int .i64 x8_1 ∧ Aside0 (headgateref11_events.l0 kq l0 a1 a2 x7_1 x8_1 = some r) ∧ Aside0 (kq ≤ k) ∧ Aside0 (Kd.R k46 46 w' w.heap.size (fun _ => True) v7 x7_1) ∧ Aside0 (Below w.heap.size w w'))
 case atStart => exact ⟨(([] : List (S46))), (0), (by first | rfl | (simp; done) | (simp [*]; done)), H', ⟨Nat.le_refl _⟩, ⟨by first | exact Kd.R_nil _ _ _ _ _ | exact Kd.N_nil _ _ _ _ _ | exact Kd.V_nil _ _ _ _ _ | exact Kd.Q_nil _ _ _ _ _ | exact Kd.S_nil _ _ _ _ _⟩, ⟨by repeat (first | (with_reducible first | exact HB.out | apply below_alloc | apply pw_below_drewN | apply below_drew1) | exact HB.out)⟩⟩
 case round =>
  clear H'
  try clear p2
  obtain ⟨x7_1, x8_1, rfl, HA, HK1, HO_7, HB⟩ := hrel
  cases gk with
  | zero => exact absurd HA.out (by simp [headgateref11_events.l0])
  | succ k1 =>
   have H := HA.out;clear HA;simp only [headgateref11_events.l0] at H;by_cases c4 : x8_1 < (l0.length : Int)
   ·rw [if_pos c4] at H;have c4b0 : decide (x8_1 < (l0.length : Int)) = true := decide_eq_true c4;clear c4;by_cases c5 : 0 ≤ x8_1
    ·rw [if_pos c5] at H;have c5b0 : decide (0 ≤ x8_1) = true := decide_eq_true c5;clear c5;by_cases c6 : ((rd_T53 l0 x8_1).f0).toList = a1.toList
     ·rw [if_pos c6] at H;have c6b0 : (((rd_T53 l0 x8_1).f0).toList == a1.toList) = true := beq_iff_eq.mpr c6;have c6b1 : (((rd_T53 l0 x8_1).f0).toList != a1.toList) = false := bne_eq_false_iff_eq.mpr c6;clear c6;have H' := aS_ H;clear H;have p136 : 0 ≤ (x8_1 : Int) := of_decide_eq_true (by first | (with_reducible assumption) | assumption);have q136 : x8_1 < (l0.length : Int) := of_decide_eq_true (by first | (with_reducible assumption) | assumption);obtain ⟨ad136, e136, hx136_0, hx136_1⟩ := at_T53 HR0.out x8_1 p136 q136;cases e136;replace hx136_0 := cB_ HB.out hx136_0;replace hx136_1 := cB_ HB.out hx136_1;replace p136 := eq_true p136;replace q136 := eq_true q136;go_wp2
      go_roundg k1
      case measure => have := HK1.out; omega
      case rel => exact ⟨(x7_1), (wrap64 (x8_1 + 1)), (by first | rfl | (simp; done) | (simp [*]; done)), H', ⟨by have := HK1.out; omega⟩, ⟨by (with_reducible repeat (first | apply Kd.R_alloc | apply Kd.R_drewN | apply Kd.R_drew)); exact HO_7.out⟩, ⟨by repeat (first | (with_reducible first | exact HB.out | apply below_alloc | apply pw_below_drewN | apply below_drew1) | exact HB.out)⟩⟩
     ·rw [if_neg c6] at H;have c6b0 : (((rd_T53 l0 x8_1).f0).toList == a1.toList) = false := beq_eq_false_iff_ne.mpr c6;have c6b1 : (((rd_T53 l0 x8_1).f0).toList != a1.toList) = true := bne_iff_ne.mpr c6;by_cases c7 : x7_1.length < 5864062014805
      ·rw [if_pos c7] at H;have LMc7 := aS_ c7;clear c7
       obtain ⟨y138, hy138⟩ : ∃ y_ : List (S46), y_ = (x7_1 ++ [(⟨(rd_T53 l0 x8_1).f0, a2⟩ : S46)]) := ⟨_, rfl⟩
       replace H : (headgateref11_events.l0 k1 l0 a1 a2 y138 (wrap64 (x8_1 + 1))) = some r := by first | (rw [hy138]; with_reducible exact H) | (have H2_ := (Option.bind_some _ _).symm.trans H; rw [hy138]; with_reducible exact H2_) | (have H2_ := (Option.bind_some _ _).symm.trans H; with_reducible exact H2_) | with_reducible exact H | (rw [hy138]; exact H) | exact H
       have Ny138 := aS_ hy138;clear hy138;have H' := aS_ H;clear H;have p136 : 0 ≤ (x8_1 : Int) := of_decide_eq_true (by first | (with_reducible assumption) | assumption);have q136 : x8_1 < (l0.length : Int) := of_decide_eq_true (by first | (with_reducible assumption) | assumption);obtain ⟨ad136, e136, hx136_0, hx136_1⟩ := at_T53 HR0.out x8_1 p136 q136;cases e136;replace hx136_0 := cB_ HB.out hx136_0;replace hx136_1 := cB_ HB.out hx136_1;replace p136 := eq_true p136;replace q136 := eq_true q136;have p137 : 0 ≤ (x8_1 : Int) := of_decide_eq_true (by first | (with_reducible assumption) | assumption);have q137 : x8_1 < (l0.length : Int) := of_decide_eq_true (by first | (with_reducible assumption) | assumption);obtain ⟨ad137, e137, hx137_0, hx137_1⟩ := at_T53 HR0.out x8_1 p137 q137
       obtain rfl : ad136 = ad137 := (by injection e137)
       replace hx137_0 := cB_ HB.out hx137_0;replace hx137_1 := cB_ HB.out hx137_1;replace p137 := eq_true p137;replace q137 := eq_true q137
       go_wp2_with (first | ((with_reducible refine gate_builtin (b := .append) (xs := #[.tmp 22, .tmp 30]) rfl ?_); at_builtin; refine Kd.R_append k46 (w0 := w) w.heap.size rfl (.tmp 22) (.tmp 30) 36 46 (.agg #[(.string ⟨#[]⟩), (.int .i64 0)]) 24 rfl Tryd.underlying36 info46 rfl (by decide) (by omega) u7 x7_1 (⟨(rd_T53 l0 x8_1).f0, a2⟩ : S46) [.string ((rd_T53 l0 x8_1).f0), .int .i64 a2] (fun _ => True) (fun _ => False) rfl rfl ?aP (fun _ hk => hk.elim) ?aF ?aO ?aB ?aS ?aL ?_; (case aP => exact k46_mkM _ _ _ (⟨(rd_T53 l0 x8_1).f0, a2⟩ : S46)); (case aB => exact (by repeat (first | (with_reducible first | exact HB.out | apply below_alloc | apply pw_below_drewN | apply below_drew1) | exact HB.out))); (case aF => exact (fun _ _ => trivial)); (case aO => exact (by (with_reducible repeat (first | apply Kd.R_alloc | apply Kd.R_drewN | apply Kd.R_drew)); exact HO_7.out)); (case aS => exact (below_size (by repeat (first | (with_reducible first | exact HB.out | apply below_alloc | apply pw_below_drewN | apply below_drew1) | exact HB.out)))); (case aL => have := LMc7.out; omega); intro v139 w8 ho hb hg hat; rw [← Ny138.out] at ho; have n0_ := aS_ (hb); have n1_ := aS_ (ho); clear HB; clear HO_7; have HB := n0_; have HO140 := n1_; clear n0_ n1_; clear ho hb hg hat))
       go_roundg k1
       case measure => have := HK1.out; omega
       case rel => exact ⟨(y138), (wrap64 (x8_1 + 1)), (by first | rfl | (simp; done) | (simp [*]; done)), H', ⟨by have := HK1.out; omega⟩, ⟨by (with_reducible repeat (first | apply Kd.R_alloc | apply Kd.R_drewN | apply Kd.R_drew)); exact HO140.out⟩, ⟨by repeat (first | (with_reducible first | exact HB.out | apply below_alloc | apply pw_below_drewN | apply below_drew1) | exact HB.out)⟩⟩
      ·rw [if_neg c7] at H;exact absurd H (by simp)
    ·rw [if_neg c5] at H;exact absurd H (by simp)
   ·rw [if_neg c4] at H;have c4b0 : decide (x8_1 < (l0.length : Int)) = false := decide_eq_false c4;clear c4;obtain rfl := Option.some.inj H;go_wp2;go_ret;exact ⟨_, by first | rfl | (simp [errW_none, errW_some] <;> rfl) | (simp [*, errW_none, errW_some] <;> rfl) | (simp [bt, *]; done) | (unfold bt; simp [*]; done), by (with_reducible repeat (first | apply Kd.R_alloc | apply Kd.R_drewN | apply Kd.R_drew)); exact HO_7.out, by repeat (first | (with_reducible first | exact HB.out | apply below_alloc | apply pw_below_drewN | apply below_drew1) | exact HB.out)⟩
end Go.Proofs.YtjogkfcjlljjcaaDoor.P
namespace Go.Proofs.YtjogkfcjlljjcaaDoor.P
open Go.RowKit Go.Proofs.YtjogkfcjlljjcaaDoorW.PrintWords Go.Proofs.YtjogkfcjlljjcaaDoorW.PrintLast Go.Proofs.YtjogkfcjlljjcaaDoorW.PrintMore
attribute [local go_sem] max2_int min2_int max_two min_two max_three min_three max_four min_four   -- for this text's walks alone
set_option linter.unusedVariables false
set_option linter.unusedSimpArgs false
set_option linter.unnecessarySimpa false
def headgateref11_without.l0 : Nat → List (S53) → ByteArray → List (S53) → Int → Option ((List (S53)))
  | 0, _, _, _, _ => none
  | k + 1, x0, x1, x5, x6 => if x6 < (x0.length : Int) then (if 0 ≤ x6 then (if ((rd_T53 x0 x6).f0).toList = x1.toList then (headgateref11_without.l0 k x0 x1 x5 (wrap64 (x6 + 1))) else (if x5.length < 5864062014805 then (headgateref11_without.l0 k x0 x1 (x5 ++ [(⟨(rd_T53 x0 x6).f0, (rd_T53 x0 x6).f1⟩ : S53)]) (wrap64 (x6 + 1))) else (none))) else (none)) else (some x5)
def headgateref11_without.f (k : Nat) (l0 : List (S53)) (a1 : ByteArray) : Option ((List (S53))) := headgateref11_without.l0 k l0 a1 ([] : List (S53)) 0
theorem headgateref11_without.mono_l : ∀ k, (∀ y0 y1 y2 y3, LeO (headgateref11_without.l0 k y0 y1 y2 y3) (headgateref11_without.l0 (k + 1) y0 y1 y2 y3))
 | 0 => fun _ _ _ _ r h => by simp [headgateref11_without.l0] at h
 | k + 1 => by
  have ih0 := headgateref11_without.mono_l k
  ·intro y0 y1 y2 y3
   unfold headgateref11_without.l0
   repeat' first
   | (with_reducible exact ih0 _ _ _ _)
   | (with_reducible exact LeO.refl _)
   | (with_reducible exact LeO.none _)
   | (with_reducible refine LeO.ite ?_ ?_)
   | (with_reducible refine LeO.bind ?_ (fun _ => ?_))
   | exact ih0 _ _ _ _
   | exact LeO.none _
   | refine LeO.ite ?_ ?_
   | refine LeO.bind ?_ (fun _ => ?_)
theorem headgateref11_without.mono : ∀ a0 a1 k, LeO (headgateref11_without.f k a0 a1) (headgateref11_without.f (k + 1) a0 a1) := by
 intro a0 a1 k;have ih0 := headgateref11_without.mono_l k;unfold headgateref11_without.f
 repeat' first
   | (with_reducible exact ih0 _ _ _ _)
   | (with_reducible exact LeO.refl _)
   | (with_reducible exact LeO.none _)
   | (with_reducible refine LeO.ite ?_ ?_)
   | (with_reducible refine LeO.bind ?_ (fun _ => ?_))
   | exact ih0 _ _ _ _
   | exact LeO.none _
   | refine LeO.ite ?_ ?_
   | refine LeO.bind ?_ (fun _ => ?_)
theorem headgateref11_without.calls (k : Nat) (A0 : Option Addr) (c0 : Nat) (l0 : List (S53)) (a1 : ByteArray) (r : List (S53)) (w : World) (hr0 : Kd.C k53 w A0 l0.length l0) (hc0 : l0.length ≤ c0) (h : headgateref11_without.f k l0 a1 = some r) :
  Calls Tryd.prog 62 #[.slice A0 l0.length c0, .string a1] w fun e w' => ∃ v0_ : Value, e = .returned (v0_) ∧ Kd.R k53 53 w' w.heap.size (fun _ => True) v0_ r ∧ Below w.heap.size w w' := by
 have hu53 := Tryd.underlying53;have HR0 := aS_ hr0;have HC0 := aS_ hc0;clear hr0 hc0;have HB := aS_ (Below.refl w.heap.size w);have H : (headgateref11_without.l0 k l0 a1 ([] : List (S53)) 0) = some r := h;clear h;have H' := aS_ H;clear H;go_enter Tryd.func62, Tryd.ntmps62;go_wp2
 go_loopg [5, 6] k (fun kq v5 v6 w' => ∃ (x5_1 : List (S53)) (x6_1 : Int), v6 = .int .i64 x6_1 ∧ Aside0 (headgateref11_without.l0 kq l0 a1 x5_1 x6_1 = some r) ∧ Aside0 (kq ≤ k) ∧ Aside0 (Kd.R k53 53 w' w.heap.size (fun _ => True) v5 x5_1) ∧ Aside0 (Below w.heap.size w w'))
 case atStart => exact ⟨(([] : List (S53))), (0), (by first | rfl | (simp; done) | (simp [*]; done)), H', ⟨Nat.le_refl _⟩, ⟨by first | exact Kd.R_nil _ _ _ _ _ | exact Kd.N_nil _ _ _ _ _ | exact Kd.V_nil _ _ _ _ _ | exact Kd.Q_nil _ _ _ _ _ | exact Kd.S_nil _ _ _ _ _⟩, ⟨by repeat (first | (with_reducible first | exact HB.out | apply below_alloc | apply pw_below_drewN | apply below_drew1) | exact HB.out)⟩⟩
 case round =>
  clear H'
  try clear p2
  obtain ⟨x5_1, x6_1, rfl, HA, HK1, HO_5, HB⟩ := hrel
  cases gk with
  | zero => exact absurd HA.out (by simp [headgateref11_without.l0])
  | succ k1 =>
   have H := HA.out;clear HA;simp only [headgateref11_without.l0] at H;by_cases c3 : x6_1 < (l0.length : Int)
   ·rw [if_pos c3] at H;have c3b0 : decide (x6_1 < (l0.length : Int)) = true := decide_eq_true c3;clear c3;by_cases c4 : 0 ≤ x6_1
    ·rw [if_pos c4] at H;have c4b0 : decide (0 ≤ x6_1) = true := decide_eq_true c4;clear c4;by_cases c5 : ((rd_T53 l0 x6_1).f0).toList = a1.toList
     ·rw [if_pos c5] at H;have c5b0 : (((rd_T53 l0 x6_1).f0).toList == a1.toList) = true := beq_iff_eq.mpr c5;have c5b1 : (((rd_T53 l0 x6_1).f0).toList != a1.toList) = false := bne_eq_false_iff_eq.mpr c5;clear c5;have H' := aS_ H;clear H;have p141 : 0 ≤ (x6_1 : Int) := of_decide_eq_true (by first | (with_reducible assumption) | assumption);have q141 : x6_1 < (l0.length : Int) := of_decide_eq_true (by first | (with_reducible assumption) | assumption);obtain ⟨ad141, e141, hx141_0, hx141_1⟩ := at_T53 HR0.out x6_1 p141 q141;cases e141;replace hx141_0 := cB_ HB.out hx141_0;replace hx141_1 := cB_ HB.out hx141_1;replace p141 := eq_true p141;replace q141 := eq_true q141;go_wp2
      go_roundg k1
      case measure => have := HK1.out; omega
      case rel => exact ⟨(x5_1), (wrap64 (x6_1 + 1)), (by first | rfl | (simp; done) | (simp [*]; done)), H', ⟨by have := HK1.out; omega⟩, ⟨by (with_reducible repeat (first | apply Kd.R_alloc | apply Kd.R_drewN | apply Kd.R_drew)); exact HO_5.out⟩, ⟨by repeat (first | (with_reducible first | exact HB.out | apply below_alloc | apply pw_below_drewN | apply below_drew1) | exact HB.out)⟩⟩
     ·rw [if_neg c5] at H;have c5b0 : (((rd_T53 l0 x6_1).f0).toList == a1.toList) = false := beq_eq_false_iff_ne.mpr c5;have c5b1 : (((rd_T53 l0 x6_1).f0).toList != a1.toList) = true := bne_iff_ne.mpr c5;by_cases c6 : x5_1.length < 5864062014805
      ·rw [if_pos c6] at H;have LMc6 := aS_ c6;clear c6
       obtain ⟨y143, hy143⟩ : ∃ y_ : List (S53), y_ = (x5_1 ++ [(⟨(rd_T53 l0 x6_1).f0, (rd_T53 l0 x6_1).f1⟩ : S53)]) := ⟨_, rfl⟩
       replace H : (headgateref11_without.l0 k1 l0 a1 y143 (wrap64 (x6_1 + 1))) = some r := by first | (rw [hy143]; with_reducible exact H) | (have H2_ := (Option.bind_some _ _).symm.trans H; rw [hy143]; with_reducible exact H2_) | (have H2_ := (Option.bind_some _ _).symm.trans H; with_reducible exact H2_) | with_reducible exact H | (rw [hy143]; exact H) | exact H
       have Ny143 := aS_ hy143;clear hy143;have H' := aS_ H;clear H;have p141 : 0 ≤ (x6_1 : Int) := of_decide_eq_true (by first | (with_reducible assumption) | assumption);have q141 : x6_1 < (l0.length : Int) := of_decide_eq_true (by first | (with_reducible assumption) | assumption);obtain ⟨ad141, e141, hx141_0, hx141_1⟩ := at_T53 HR0.out x6_1 p141 q141;cases e141;replace hx141_0 := cB_ HB.out hx141_0;replace hx141_1 := cB_ HB.out hx141_1;replace p141 := eq_true p141;replace q141 := eq_true q141;have p142 : 0 ≤ (x6_1 : Int) := of_decide_eq_true (by first | (with_reducible assumption) | assumption);have q142 : x6_1 < (l0.length : Int) := of_decide_eq_true (by first | (with_reducible assumption) | assumption);obtain ⟨ad142, e142, hx142_0, hx142_1⟩ := at_T53 HR0.out x6_1 p142 q142
       obtain rfl : ad141 = ad142 := (by injection e142)
       replace hx142_0 := cB_ HB.out hx142_0;replace hx142_1 := cB_ HB.out hx142_1;replace p142 := eq_true p142;replace q142 := eq_true q142
       go_wp2_with (first | ((with_reducible refine gate_builtin (b := .append) (xs := #[.tmp 20, .tmp 25]) rfl ?_); at_builtin; refine Kd.R_append k53 (w0 := w) w.heap.size rfl (.tmp 20) (.tmp 25) 22 53 (.agg #[(.string ⟨#[]⟩), (.int .u64 0)]) 24 rfl Tryd.underlying22 info53 rfl (by decide) (by omega) u5 x5_1 (⟨(rd_T53 l0 x6_1).f0, (rd_T53 l0 x6_1).f1⟩ : S53) [.string ((rd_T53 l0 x6_1).f0), .int .u64 ((rd_T53 l0 x6_1).f1)] (fun _ => True) (fun _ => False) rfl rfl ?aP (fun _ hk => hk.elim) ?aF ?aO ?aB ?aS ?aL ?_; (case aP => exact k53_mkM _ _ _ (⟨(rd_T53 l0 x6_1).f0, (rd_T53 l0 x6_1).f1⟩ : S53)); (case aB => exact (by repeat (first | (with_reducible first | exact HB.out | apply below_alloc | apply pw_below_drewN | apply below_drew1) | exact HB.out))); (case aF => exact (fun _ _ => trivial)); (case aO => exact (by (with_reducible repeat (first | apply Kd.R_alloc | apply Kd.R_drewN | apply Kd.R_drew)); exact HO_5.out)); (case aS => exact (below_size (by repeat (first | (with_reducible first | exact HB.out | apply below_alloc | apply pw_below_drewN | apply below_drew1) | exact HB.out)))); (case aL => have := LMc6.out; omega); intro v144 w7 ho hb hg hat; rw [← Ny143.out] at ho; have n0_ := aS_ (hb); have n1_ := aS_ (ho); clear HB; clear HO_5; have HB := n0_; have HO145 := n1_; clear n0_ n1_; clear ho hb hg hat))
       go_roundg k1
       case measure => have := HK1.out; omega
       case rel => exact ⟨(y143), (wrap64 (x6_1 + 1)), (by first | rfl | (simp; done) | (simp [*]; done)), H', ⟨by have := HK1.out; omega⟩, ⟨by (with_reducible repeat (first | apply Kd.R_alloc | apply Kd.R_drewN | apply Kd.R_drew)); exact HO145.out⟩, ⟨by repeat (first | (with_reducible first | exact HB.out | apply below_alloc | apply pw_below_drewN | apply below_drew1) | exact HB.out)⟩⟩
      ·rw [if_neg c6] at H;exact absurd H (by simp)
    ·rw [if_neg c4] at H;exact absurd H (by simp)
   ·rw [if_neg c3] at H;have c3b0 : decide (x6_1 < (l0.length : Int)) = false := decide_eq_false c3;clear c3;obtain rfl := Option.some.inj H;go_wp2;go_ret;exact ⟨_, by first | rfl | (simp [errW_none, errW_some] <;> rfl) | (simp [*, errW_none, errW_some] <;> rfl) | (simp [bt, *]; done) | (unfold bt; simp [*]; done), by (with_reducible repeat (first | apply Kd.R_alloc | apply Kd.R_drewN | apply Kd.R_drew)); exact HO_5.out, by repeat (first | (with_reducible first | exact HB.out | apply below_alloc | apply pw_below_drewN | apply below_drew1) | exact HB.out)⟩
def headgateref11_hold.f (a0 : Int) (a1 : ByteArray) : Option (Int × ByteArray) := (headgateref11_alone.f a0).bind fun t163 => (if t163 = true then (some (a0, a1)) else (some (a0, (⟨#[]⟩ : ByteArray))))
theorem headgateref11_hold.calls (a0 : Int) (a1 : ByteArray) (r1 : Int) (r2 : ByteArray) (w : World) (h : headgateref11_hold.f a0 a1 = some (r1, r2)) :
  Calls Tryd.prog 63 #[.int .i64 a0, .string a1] w fun e w' => e = .returned (.agg #[.int .i64 r1, .string r2]) ∧ Below w.heap.size w w' := by
 have hu24 := Tryd.underlying24;have HB := aS_ (Below.refl w.heap.size w);have H : ((headgateref11_alone.f a0).bind fun t163 => (if t163 = true then (some (a0, a1)) else (some (a0, (⟨#[]⟩ : ByteArray))))) = some (r1, r2) := h;clear h;replace H := Option.bind_eq_some_iff.mp H;obtain ⟨t163, A30, H⟩ := H;replace H : (if t163 = true then (some (a0, a1)) else (some (a0, (⟨#[]⟩ : ByteArray)))) = some (r1, r2) := H;have A3 := aS_ A30;clear A30;by_cases c4 : t163 = true
 ·subst c4
  have H1 : (some (a0, a1)) = some (r1, r2) := by rw [if_pos rfl] at H; exact H
  clear H;have H := H1;clear H1;simp only [Option.some.injEq, Prod.mk.injEq] at H;obtain ⟨rfl, rfl⟩ := H;go_enter Tryd.func63, Tryd.ntmps63
  go_wp2_with (first | ((with_reducible refine gate_dst (N := 4) rfl ?_); refine bX_ (N := 4) (cs := #[.int .i64 0, .string (⟨#[]⟩ : ByteArray)]) (t := 24) ?hr ?_; (case hr => first | (go_simp; done) | (go_simp; rfl)); intro gb162 hg w5 hbox hb; have n0_ := aS_ (below_step (by repeat (first | (with_reducible first | exact HB.out | apply below_alloc | apply pw_below_drewN | apply below_drew1) | exact HB.out)) hb); have n1_ := aS_ (hbox); have n2_ := aS_ ((by rw [hg]; exact (below_size (by repeat (first | (with_reducible first | exact HB.out | apply below_alloc | apply pw_below_drewN | apply below_drew1) | exact HB.out))) : w.heap.size ≤ gb162)); have n3_ := aS_ ((by rw [hg]; exact (below_size (by repeat (first | (with_reducible first | exact HB.out | apply below_alloc | apply pw_below_drewN | apply below_drew1) | exact HB.out))) : w.heap.size ≤ gb162)); clear HB; have HB := n0_; have BK162 := n1_; have GW162 := n2_; have GE162 := n3_; clear n0_ n1_ n2_ n3_; clear hb hbox hg) | ((with_reducible refine gate_callee (f := 43) rfl ?_); refine goesL_ (some 6) rfl rfl Tryd.func43 (by kernel_rfl) rfl #[.int .i64 a0] rfl (by (try simp only [List.map_toArray, List.map_cons, List.map_nil]); first | done | rfl | (simp only [List.length_drop, List.length_take]; rfl)) ?_; (with_reducible refine (headgateref11_alone.calls a0 true _ A3.out).mono ?_); rintro e w' ⟨rfl, ⟨nd, rfl⟩⟩; refine ⟨_, rfl, ?_⟩; (try (rw [drewN_self w5]; generalize hq_ : World.drewN w5 _ = w5; have n0_ : Aside0 (w5.heap[gb162]? = some (.cells #[.int .i64 0, .string (⟨#[]⟩ : ByteArray)] 24 (0, 0))) := ⟨by rw [← hq_]; exact (by (with_reducible repeat (first | refine blk_drewN ?_ _ | refine blk_drew ?_ | refine blk_alloc ?_ _)); exact BK162.out)⟩; have n1_ : Aside0 (Below w.heap.size w w5) := ⟨by rw [← hq_]; exact (by repeat (first | (with_reducible first | exact HB.out | apply below_alloc | apply pw_below_drewN | apply below_drew1 | refine below_set ?_ GE162.out) | exact HB.out))⟩; clear BK162 HB hq_; have BK162 := n0_; have HB := n1_; clear n0_ n1_)); have hcz6_0 : w5.cell? ⟨gb162, 0, none⟩ = some (.int .i64 0) := bC_ BK162.out 0 rfl; have hcz6_1 : w5.cell? ⟨gb162, 1, none⟩ = some (.string (⟨#[]⟩ : ByteArray)) := bC_ BK162.out 1 rfl; have hfz6_0 := bF_ BK162.out))
  refine bodyPost_ret (results_cell_row rfl _ _ gb162 24 #[.int .i64 a0, .string a1] (0, 0) _ rfl (by (with_reducible repeat (first | refine blk_drewN ?_ _ | refine blk_drew ?_ | refine blk_alloc ?_ _)); refine blk_put (cs := #[.int .i64 a0, .string (⟨#[]⟩ : ByteArray)]) ?_ 1 _ rfl; (with_reducible repeat (first | refine blk_drewN ?_ _ | refine blk_drew ?_ | refine blk_alloc ?_ _)); refine blk_put (cs := #[.int .i64 0, .string (⟨#[]⟩ : ByteArray)]) ?_ 0 _ rfl; (with_reducible repeat (first | refine blk_drewN ?_ _ | refine blk_drew ?_ | refine blk_alloc ?_ _)); exact BK162.out) Tryd.underlying24 rfl (by kernel_rfl)) rfl ?_;exact ⟨by first | rfl | (simp [errW_none, errW_some] <;> rfl) | (simp [*, errW_none, errW_some] <;> rfl) | (simp [bt, *]; done) | (unfold bt; simp [*]; done), by repeat (first | (with_reducible first | exact HB.out | apply below_alloc | apply pw_below_drewN | apply below_drew1 | refine below_set ?_ GE162.out) | exact HB.out)⟩
 ·replace c4 := Bool.eq_false_iff.mpr c4;subst c4
  have H1 : (some (a0, (⟨#[]⟩ : ByteArray))) = some (r1, r2) := by rw [if_neg (show ¬ (false = true) by decide)] at H; exact H
  clear H;have H := H1;clear H1;simp only [Option.some.injEq, Prod.mk.injEq] at H;obtain ⟨rfl, rfl⟩ := H;go_enter Tryd.func63, Tryd.ntmps63
  go_wp2_with (first | ((with_reducible refine gate_dst (N := 4) rfl ?_); refine bX_ (N := 4) (cs := #[.int .i64 0, .string (⟨#[]⟩ : ByteArray)]) (t := 24) ?hr ?_; (case hr => first | (go_simp; done) | (go_simp; rfl)); intro gb162 hg w7 hbox hb; have n0_ := aS_ (below_step (by repeat (first | (with_reducible first | exact HB.out | apply below_alloc | apply pw_below_drewN | apply below_drew1) | exact HB.out)) hb); have n1_ := aS_ (hbox); have n2_ := aS_ ((by rw [hg]; exact (below_size (by repeat (first | (with_reducible first | exact HB.out | apply below_alloc | apply pw_below_drewN | apply below_drew1) | exact HB.out))) : w.heap.size ≤ gb162)); have n3_ := aS_ ((by rw [hg]; exact (below_size (by repeat (first | (with_reducible first | exact HB.out | apply below_alloc | apply pw_below_drewN | apply below_drew1) | exact HB.out))) : w.heap.size ≤ gb162)); clear HB; have HB := n0_; have BK162 := n1_; have GW162 := n2_; have GE162 := n3_; clear n0_ n1_ n2_ n3_; clear hb hbox hg) | ((with_reducible refine gate_callee (f := 43) rfl ?_); refine goesL_ (some 6) rfl rfl Tryd.func43 (by kernel_rfl) rfl #[.int .i64 a0] rfl (by (try simp only [List.map_toArray, List.map_cons, List.map_nil]); first | done | rfl | (simp only [List.length_drop, List.length_take]; rfl)) ?_; (with_reducible refine (headgateref11_alone.calls a0 false _ A3.out).mono ?_); rintro e w' ⟨rfl, ⟨nd, rfl⟩⟩; refine ⟨_, rfl, ?_⟩; (try (rw [drewN_self w7]; generalize hq_ : World.drewN w7 _ = w7; have n0_ : Aside0 (w7.heap[gb162]? = some (.cells #[.int .i64 0, .string (⟨#[]⟩ : ByteArray)] 24 (0, 0))) := ⟨by rw [← hq_]; exact (by (with_reducible repeat (first | refine blk_drewN ?_ _ | refine blk_drew ?_ | refine blk_alloc ?_ _)); exact BK162.out)⟩; have n1_ : Aside0 (Below w.heap.size w w7) := ⟨by rw [← hq_]; exact (by repeat (first | (with_reducible first | exact HB.out | apply below_alloc | apply pw_below_drewN | apply below_drew1 | refine below_set ?_ GE162.out) | exact HB.out))⟩; clear BK162 HB hq_; have BK162 := n0_; have HB := n1_; clear n0_ n1_)); have hcz8_0 : w7.cell? ⟨gb162, 0, none⟩ = some (.int .i64 0) := bC_ BK162.out 0 rfl; have hcz8_1 : w7.cell? ⟨gb162, 1, none⟩ = some (.string (⟨#[]⟩ : ByteArray)) := bC_ BK162.out 1 rfl; have hfz8_0 := bF_ BK162.out))
  refine bodyPost_ret (results_cell_row rfl _ _ gb162 24 #[.int .i64 a0, .string (⟨#[]⟩ : ByteArray)] (0, 0) _ rfl (by (with_reducible repeat (first | refine blk_drewN ?_ _ | refine blk_drew ?_ | refine blk_alloc ?_ _)); refine blk_put (cs := #[.int .i64 a0, .string (⟨#[]⟩ : ByteArray)]) ?_ 1 _ rfl; (with_reducible repeat (first | refine blk_drewN ?_ _ | refine blk_drew ?_ | refine blk_alloc ?_ _)); refine blk_put (cs := #[.int .i64 0, .string (⟨#[]⟩ : ByteArray)]) ?_ 0 _ rfl; (with_reducible repeat (first | refine blk_drewN ?_ _ | refine blk_drew ?_ | refine blk_alloc ?_ _)); exact BK162.out) Tryd.underlying24 rfl (by kernel_rfl)) rfl ?_;exact ⟨by first | rfl | (simp [errW_none, errW_some] <;> rfl) | (simp [*, errW_none, errW_some] <;> rfl) | (simp [bt, *]; done) | (unfold bt; simp [*]; done), by repeat (first | (with_reducible first | exact HB.out | apply below_alloc | apply pw_below_drewN | apply below_drew1 | refine below_set ?_ GE162.out) | exact HB.out)⟩
def headgateref10_Holds.j0 : Nat → ByteArray → Int → Bool → List (S53) → Int → ByteArray → Int → Bool → Option (Bool)
 | 0, _, _, _, _, _, _, _, _ => none
 | k + 1, x1, x7, x8, x165000, x165001, x165002, x165003, x165004 => if x8 = true then (some (x165002.toList == x1.toList)) else (if x7 = 5 then ((headgateref10_Registered.f k x165000 x165001 x165002 x165003 x165004 x1).bind fun t165 => (some t165)) else (if x7 = 6 then ((headgateref10_Registered.f k x165000 x165001 x165002 x165003 x165004 x1).bind fun t166 => (some t166)) else (some false)))
def headgateref10_Holds.f (k : Nat) (l0_0 : List (S53)) (a0_1 : Int) (a0_2 : ByteArray) (a0_3 : Int) (a0_4 : Bool) (a1 : ByteArray) : Option (Bool) := if a0_1 = 1 then (headgateref10_Holds.j0 k a1 a0_1 (a0_1 == 1) l0_0 a0_1 a0_2 a0_3 a0_4) else (if a0_1 = 2 then (headgateref10_Holds.j0 k a1 a0_1 (a0_1 == 2) l0_0 a0_1 a0_2 a0_3 a0_4) else (if a0_1 = 3 then (headgateref10_Holds.j0 k a1 a0_1 (a0_1 == 3) l0_0 a0_1 a0_2 a0_3 a0_4) else (headgateref10_Holds.j0 k a1 a0_1 (a0_1 == 4) l0_0 a0_1 a0_2 a0_3 a0_4)))
theorem headgateref10_Holds.mono_l : ∀ k, (∀ y0 y1 y2 y3 y4 y5 y6 y7, LeO (headgateref10_Holds.j0 k y0 y1 y2 y3 y4 y5 y6 y7) (headgateref10_Holds.j0 (k + 1) y0 y1 y2 y3 y4 y5 y6 y7))
 | 0 => fun _ _ _ _ _ _ _ _ r h => by simp [headgateref10_Holds.j0] at h
 | k + 1 => by
  have ih0 := headgateref10_Holds.mono_l k
  ·intro y0 y1 y2 y3 y4 y5 y6 y7
   unfold headgateref10_Holds.j0
   repeat' first
   | (with_reducible exact ih0 _ _ _ _ _ _ _ _)
   | (with_reducible exact headgateref10_Registered.mono _ _ _ _ _ _ _)
   | (with_reducible exact LeO.refl _)
   | (with_reducible exact LeO.none _)
   | (with_reducible refine LeO.ite ?_ ?_)
   | (with_reducible refine LeO.bind ?_ (fun _ => ?_))
   | exact ih0 _ _ _ _ _ _ _ _
   | exact headgateref10_Registered.mono _ _ _ _ _ _ _
   | exact LeO.none _
   | refine LeO.ite ?_ ?_
   | refine LeO.bind ?_ (fun _ => ?_)
theorem headgateref10_Holds.mono : ∀ a0 a1 a2 a3 a4 a5 k, LeO (headgateref10_Holds.f k a0 a1 a2 a3 a4 a5) (headgateref10_Holds.f (k + 1) a0 a1 a2 a3 a4 a5) := by
 intro a0 a1 a2 a3 a4 a5 k;have ih0 := headgateref10_Holds.mono_l k;unfold headgateref10_Holds.f
 repeat' first
   | (with_reducible exact ih0 _ _ _ _ _ _ _ _)
   | (with_reducible exact headgateref10_Registered.mono _ _ _ _ _ _ _)
   | (with_reducible exact LeO.refl _)
   | (with_reducible exact LeO.none _)
   | (with_reducible refine LeO.ite ?_ ?_)
   | (with_reducible refine LeO.bind ?_ (fun _ => ?_))
   | exact ih0 _ _ _ _ _ _ _ _
   | exact headgateref10_Registered.mono _ _ _ _ _ _ _
   | exact LeO.none _
   | refine LeO.ite ?_ ?_
   | refine LeO.bind ?_ (fun _ => ?_)
theorem headgateref10_Holds.calls (k : Nat) (qh : Option Addr) (qi : Nat) (qd : List (S53)) (qb : Int) (qe : ByteArray) (qf : Int) (qg : Bool) (a1 : ByteArray) (r : Bool) (w : World) (hr0_0 : Kd.C k53 w qh qd.length qd) (ql : qd.length ≤ qi) (h : headgateref10_Holds.f k qd qb qe qf qg a1 = some r) :
  Calls Tryd.prog 64 #[.agg #[.slice qh qd.length qi, .int .i64 qb, .string qe, .int .u32 qf, .bool qg], .string a1] w fun e w' => e = .returned (.bool r) ∧ Below w.heap.size w w' := by
 have hu27 := Tryd.underlying27;have qm := aS_ hr0_0;have qn := aS_ ql;clear hr0_0 ql;have HB := aS_ (Below.refl w.heap.size w);have H : (if qb = 1 then (headgateref10_Holds.j0 k a1 qb (qb == 1) qd qb qe qf qg) else (if qb = 2 then (headgateref10_Holds.j0 k a1 qb (qb == 2) qd qb qe qf qg) else (if qb = 3 then (headgateref10_Holds.j0 k a1 qb (qb == 3) qd qb qe qf qg) else (headgateref10_Holds.j0 k a1 qb (qb == 4) qd qb qe qf qg)))) = some r := h;clear h;have HC3 := aS_ H;clear H;go_enter Tryd.func64, Tryd.ntmps64
 go_upto_if 8 with (first | ((with_reducible refine gate_dst (N := 2) rfl ?_); refine bX_ (N := 2) (cs := #[.slice qh qd.length qi, .int .i64 qb, .string qe, .int .u32 qf, .bool qg]) (t := 27) ?hr ?_; (case hr => first | (go_simp; done) | (go_simp; rfl)); intro qc hg w4 hbox hb; have n0_ := aS_ (below_step (hb_ HB) hb); have n1_ := aS_ (hbox); have n2_ := aS_ ((by rw [hg]; exact (below_size (hb_ HB)) : w.heap.size ≤ qc)); have n3_ := aS_ ((by rw [hg]; exact (below_size (hb_ HB)) : w.heap.size ≤ qc)); clear HB; have HB := n0_; have qa := n1_; have GW164 := n2_; have qj := n3_; clear n0_ n1_ n2_ n3_; clear hb hbox hg; have qp : w4.cell? ⟨qc, 0, none⟩ = some (.slice qh qd.length qi) := bC_ qa.out 0 rfl; have qq : w4.cell? ⟨qc, 1, none⟩ = some (.int .i64 qb) := bC_ qa.out 1 rfl; have qr : w4.cell? ⟨qc, 2, none⟩ = some (.string qe) := bC_ qa.out 2 rfl; have qs : w4.cell? ⟨qc, 3, none⟩ = some (.int .u32 qf) := bC_ qa.out 3 rfl; have qt : w4.cell? ⟨qc, 4, none⟩ = some (.bool qg) := bC_ qa.out 4 rfl; have qu := bF_ qa.out))
 (try simp only [Act.put, la_, lb_, lc_])
 go_cut [8] (fun v8 wc => ∃ (kq : Nat) (qk : Bool), v8 = .bool qk ∧ Aside0 (headgateref10_Holds.j0 kq a1 qb qk qd qb qe qf qg = some r) ∧ Aside0 (kq ≤ k) ∧ Aside0 (wc.heap[qc]? = some (.cells #[(.slice qh qd.length qi), .int .i64 qb, .string qe, .int .u32 qf, .bool qg] 27 (0, 0))) ∧ Aside0 (Below w.heap.size w wc))
 case first =>
  have H := HC3.out;clear HC3;by_cases c6 : qb = 1
  ·rw [if_pos c6] at H;have c6b0 : (qb == 1) = true := beq_iff_eq.mpr c6;have c6b1 : (qb != 1) = false := bne_eq_false_iff_eq.mpr c6;clear c6
   (first | rw [c6b0] | (simp only [i64_w, i32_w]; rw [c6b0]) | skip)
   have H' := aS_ H;clear H;go_wp2;go_meet
   case rel => exact ⟨_, ((qb == 1)), (by first | rfl | (simp; done) | (simp [*]; done)), H', ⟨by first | omega | exact Nat.le_refl _⟩, ⟨bk_ qa⟩, ⟨hb_ HB⟩⟩
  rw [if_neg c6] at H;have c6b0 : (qb == 1) = false := beq_eq_false_iff_ne.mpr c6;have c6b1 : (qb != 1) = true := bne_iff_ne.mpr c6
  (first | rw [c6b0] | (simp only [i64_w, i32_w]; rw [c6b0]) | skip)
  by_cases c7 : qb = 2
  ·rw [if_pos c7] at H;have c7b0 : (qb == 2) = true := beq_iff_eq.mpr c7;have c7b1 : (qb != 2) = false := bne_eq_false_iff_eq.mpr c7;clear c7;have H' := aS_ H;clear H;go_wp2;go_meet
   case rel => exact ⟨_, ((qb == 2)), (by first | rfl | (simp; done) | (simp [*]; done)), H', ⟨by first | omega | exact Nat.le_refl _⟩, ⟨bk_ qa⟩, ⟨hb_ HB⟩⟩
  rw [if_neg c7] at H;have c7b0 : (qb == 2) = false := beq_eq_false_iff_ne.mpr c7;have c7b1 : (qb != 2) = true := bne_iff_ne.mpr c7;refine neg_first (p := (qb = 3)) (fun c8 => ?_) (fun c8 => ?_)
  ·rw [if_neg c8] at H;have c8b0 : (qb == 3) = false := beq_eq_false_iff_ne.mpr c8;have c8b1 : (qb != 3) = true := bne_iff_ne.mpr c8;have H' := aS_ H;clear H;go_wp2;go_meet
   case rel => exact ⟨_, ((qb == 4)), (by first | rfl | (simp; done) | (simp [*]; done)), H', ⟨by first | omega | exact Nat.le_refl _⟩, ⟨bk_ qa⟩, ⟨hb_ HB⟩⟩
  rw [if_pos c8] at H;have c8b0 : (qb == 3) = true := beq_iff_eq.mpr c8;have c8b1 : (qb != 3) = false := bne_eq_false_iff_eq.mpr c8;clear c8;have H' := aS_ H;clear H;go_wp2;go_meet
  case rel => exact ⟨_, ((qb == 3)), (by first | rfl | (simp; done) | (simp [*]; done)), H', ⟨by first | omega | exact Nat.le_refl _⟩, ⟨bk_ qa⟩, ⟨hb_ HB⟩⟩
 case rest =>
  clear HC3
  try clear p2
  try clear c6
  try clear c6b0
  try clear c6b1
  try clear c7
  try clear c7b0
  try clear c7b1
  try clear c8
  try clear c8b0
  try clear c8b1
  try clear qp
  try clear qq
  try clear qr
  try clear qs
  try clear qt
  try clear qu
  obtain ⟨kq, qk, rfl, HA, HJ2, qa, HB⟩ := hcut
  cases kq with
  | zero => exact absurd HA.out (by simp [headgateref10_Holds.j0])
  | succ kj2 =>
   have H := HA.out;clear HA;simp only [headgateref10_Holds.j0] at H;by_cases c9 : qk = true
   ·subst c9;have H1 := H;rw [if_pos rfl] at H1;clear H;have H := H1;clear H1;obtain rfl := Option.some.inj H;have hcz10_0 : wc.cell? ⟨qc, 0, none⟩ = some (.slice qh qd.length qi) := bC_ qa.out 0 rfl;have hcz10_1 : wc.cell? ⟨qc, 1, none⟩ = some (.int .i64 qb) := bC_ qa.out 1 rfl;have hcz10_2 : wc.cell? ⟨qc, 2, none⟩ = some (.string qe) := bC_ qa.out 2 rfl;have hcz10_3 : wc.cell? ⟨qc, 3, none⟩ = some (.int .u32 qf) := bC_ qa.out 3 rfl;have hcz10_4 : wc.cell? ⟨qc, 4, none⟩ = some (.bool qg) := bC_ qa.out 4 rfl;have hfz10_0 := bF_ qa.out 0;have hfz10_1 := bF_ qa.out 1;have hfz10_2 := bF_ qa.out 2;have hfz10_3 := bF_ qa.out 3;have hfz10_4 := bF_ qa.out 4;go_wp2;go_ret;exact ⟨by first | rfl | (simp [errW_none, errW_some] <;> rfl) | (simp [*, errW_none, errW_some] <;> rfl) | (simp [bt, *]; done) | (unfold bt; simp [*]; done), by repeat (first | (with_reducible first | exact HB.out | apply below_alloc | apply pw_below_drewN | apply below_drew1 | refine below_set ?_ qj.out) | exact HB.out)⟩
   replace c9 := Bool.eq_false_iff.mpr c9;subst c9;have H1 := H;rw [if_neg (show ¬ (false = true) by decide)] at H1;clear H;have H := H1;clear H1;by_cases c11 : qb = 5
   ·rw [if_pos c11] at H;have c11b0 : (qb == 5) = true := beq_iff_eq.mpr c11;have c11b1 : (qb != 5) = false := bne_eq_false_iff_eq.mpr c11;clear c11;replace H := Option.bind_eq_some_iff.mp H;obtain ⟨t165, A120, H⟩ := H
    try dsimp only at H
    have A12 := aS_ A120;clear A120;obtain rfl := Option.some.inj H;have hcz13_0 : wc.cell? ⟨qc, 0, none⟩ = some (.slice qh qd.length qi) := bC_ qa.out 0 rfl;have hcz13_1 : wc.cell? ⟨qc, 1, none⟩ = some (.int .i64 qb) := bC_ qa.out 1 rfl;have hcz13_2 : wc.cell? ⟨qc, 2, none⟩ = some (.string qe) := bC_ qa.out 2 rfl;have hcz13_3 : wc.cell? ⟨qc, 3, none⟩ = some (.int .u32 qf) := bC_ qa.out 3 rfl;have hcz13_4 : wc.cell? ⟨qc, 4, none⟩ = some (.bool qg) := bC_ qa.out 4 rfl;have hfz13_0 := bF_ qa.out 0;have hfz13_1 := bF_ qa.out 1;have hfz13_2 := bF_ qa.out 2;have hfz13_3 := bF_ qa.out 3;have hfz13_4 := bF_ qa.out 4
    go_wp2_with (first | ((with_reducible refine gate_callee (f := 44) rfl ?_); refine goesL_ (some 23) rfl rfl Tryd.func44 (by kernel_rfl) rfl #[.agg #[.slice qh qd.length qi, .int .i64 qb, .string qe, .int .u32 qf, .bool qg], .string a1] rfl (by (try simp only [List.map_toArray, List.map_cons, List.map_nil]); first | done | rfl | (simp only [List.length_drop, List.length_take]; rfl)) ?_; (with_reducible refine (headgateref10_Registered.calls kj2 _ _ qd qb qe qf qg a1 t165 _ ?side1 ?side2 A12.out).mono ?_); (case side1 => repeat (first | exact (Kd.C_below qm.out HB.out) | (with_reducible refine Kd.C_alloc ?_ _) | (with_reducible refine Kd.C_drewN ?_ _) | (with_reducible refine Kd.C_drew ?_))); (case side2 => exact qn.out); rintro e w14 ⟨rfl, hb⟩; refine ⟨_, rfl, ?_⟩; have n0_ := aS_ (blk_below (bk_ qa) hb); have n1_ := aS_ (below_step (hb_ HB) hb); clear qa; clear HB; have qa := n0_; have HB := n1_; clear n0_ n1_; (try clear hb); (try clear hb2); (try clear hk); (try clear hi)))
    go_ret;exact ⟨by first | rfl | (simp [errW_none, errW_some] <;> rfl) | (simp [*, errW_none, errW_some] <;> rfl) | (simp [bt, *]; done) | (unfold bt; simp [*]; done), by repeat (first | (with_reducible first | exact HB.out | apply below_alloc | apply pw_below_drewN | apply below_drew1 | refine below_set ?_ qj.out) | exact HB.out)⟩
   rw [if_neg c11] at H;have c11b0 : (qb == 5) = false := beq_eq_false_iff_ne.mpr c11;have c11b1 : (qb != 5) = true := bne_iff_ne.mpr c11;refine neg_first (p := (qb = 6)) (fun c15 => ?_) (fun c15 => ?_)
   ·rw [if_neg c15] at H;have c15b0 : (qb == 6) = false := beq_eq_false_iff_ne.mpr c15;have c15b1 : (qb != 6) = true := bne_iff_ne.mpr c15;obtain rfl := Option.some.inj H;go_wp2;go_ret;exact ⟨by first | rfl | (simp [errW_none, errW_some] <;> rfl) | (simp [*, errW_none, errW_some] <;> rfl) | (simp [bt, *]; done) | (unfold bt; simp [*]; done), by repeat (first | (with_reducible first | exact HB.out | apply below_alloc | apply pw_below_drewN | apply below_drew1 | refine below_set ?_ qj.out) | exact HB.out)⟩
   rw [if_pos c15] at H;have c15b0 : (qb == 6) = true := beq_iff_eq.mpr c15;have c15b1 : (qb != 6) = false := bne_eq_false_iff_eq.mpr c15;clear c15;replace H := Option.bind_eq_some_iff.mp H;obtain ⟨t166, A160, H⟩ := H
   try dsimp only at H
   have A16 := aS_ A160;clear A160;obtain rfl := Option.some.inj H;have hcz17_0 : wc.cell? ⟨qc, 0, none⟩ = some (.slice qh qd.length qi) := bC_ qa.out 0 rfl;have hcz17_1 : wc.cell? ⟨qc, 1, none⟩ = some (.int .i64 qb) := bC_ qa.out 1 rfl;have hcz17_2 : wc.cell? ⟨qc, 2, none⟩ = some (.string qe) := bC_ qa.out 2 rfl;have hcz17_3 : wc.cell? ⟨qc, 3, none⟩ = some (.int .u32 qf) := bC_ qa.out 3 rfl;have hcz17_4 : wc.cell? ⟨qc, 4, none⟩ = some (.bool qg) := bC_ qa.out 4 rfl;have hfz17_0 := bF_ qa.out 0;have hfz17_1 := bF_ qa.out 1;have hfz17_2 := bF_ qa.out 2;have hfz17_3 := bF_ qa.out 3;have hfz17_4 := bF_ qa.out 4
   go_wp2_with (first | ((with_reducible refine gate_callee (f := 44) rfl ?_); refine goesL_ (some 23) rfl rfl Tryd.func44 (by kernel_rfl) rfl #[.agg #[.slice qh qd.length qi, .int .i64 qb, .string qe, .int .u32 qf, .bool qg], .string a1] rfl (by (try simp only [List.map_toArray, List.map_cons, List.map_nil]); first | done | rfl | (simp only [List.length_drop, List.length_take]; rfl)) ?_; (with_reducible refine (headgateref10_Registered.calls kj2 _ _ qd qb qe qf qg a1 t166 _ ?side1 ?side2 A16.out).mono ?_); (case side1 => repeat (first | exact (Kd.C_below qm.out HB.out) | (with_reducible refine Kd.C_alloc ?_ _) | (with_reducible refine Kd.C_drewN ?_ _) | (with_reducible refine Kd.C_drew ?_))); (case side2 => exact qn.out); rintro e w18 ⟨rfl, hb⟩; refine ⟨_, rfl, ?_⟩; have n0_ := aS_ (blk_below (bk_ qa) hb); have n1_ := aS_ (below_step (hb_ HB) hb); clear qa; clear HB; have qa := n0_; have HB := n1_; clear n0_ n1_; (try clear hb); (try clear hb2); (try clear hk); (try clear hi)))
   go_ret;exact ⟨by first | rfl | (simp [errW_none, errW_some] <;> rfl) | (simp [*, errW_none, errW_some] <;> rfl) | (simp [bt, *]; done) | (unfold bt; simp [*]; done), by repeat (first | (with_reducible first | exact HB.out | apply below_alloc | apply pw_below_drewN | apply below_drew1 | refine below_set ?_ qj.out) | exact HB.out)⟩
end Go.Proofs.YtjogkfcjlljjcaaDoor.P
namespace Go.Proofs.YtjogkfcjlljjcaaDoor.P
open Go.RowKit Go.Proofs.YtjogkfcjlljjcaaDoorW.PrintWords Go.Proofs.YtjogkfcjlljjcaaDoorW.PrintLast Go.Proofs.YtjogkfcjlljjcaaDoorW.PrintMore
attribute [local go_sem] max2_int min2_int max_two min_two max_three min_three max_four min_four   -- for this text's walks alone
set_option linter.unusedVariables false
set_option linter.unusedSimpArgs false
set_option linter.unnecessarySimpa false
def headgatekeep_Regs.l0 : Nat → List (S53) → List (S53) → Int → Option (Bool)
  | 0, _, _, _ => none
  | k + 1, x0, x1, x5 => if x5 < (x0.length : Int) then (if 0 ≤ x5 then (if x5 < (x1.length : Int) then (if ((rd_T53 x0 x5).f0).toList = ((rd_T53 x1 x5).f0).toList then (if ((rd_T53 x0 x5).f1) = ((rd_T53 x1 x5).f1) then (headgatekeep_Regs.l0 k x0 x1 (wrap64 (x5 + 1))) else (some false)) else (some false)) else (none)) else (none)) else (some true)
def headgatekeep_Regs.f (k : Nat) (l0 : List (S53)) (l1 : List (S53)) : Option (Bool) := if (l0.length : Int) = (l1.length : Int) then (headgatekeep_Regs.l0 k l0 l1 0) else (some false)
theorem headgatekeep_Regs.mono_l : ∀ k, (∀ y0 y1 y2, LeO (headgatekeep_Regs.l0 k y0 y1 y2) (headgatekeep_Regs.l0 (k + 1) y0 y1 y2))
 | 0 => fun _ _ _ r h => by simp [headgatekeep_Regs.l0] at h
 | k + 1 => by
  have ih0 := headgatekeep_Regs.mono_l k
  ·intro y0 y1 y2
   unfold headgatekeep_Regs.l0
   repeat' first
   | (with_reducible exact ih0 _ _ _)
   | (with_reducible exact LeO.refl _)
   | (with_reducible exact LeO.none _)
   | (with_reducible refine LeO.ite ?_ ?_)
   | (with_reducible refine LeO.bind ?_ (fun _ => ?_))
   | exact ih0 _ _ _
   | exact LeO.none _
   | refine LeO.ite ?_ ?_
   | refine LeO.bind ?_ (fun _ => ?_)
theorem headgatekeep_Regs.mono : ∀ a0 a1 k, LeO (headgatekeep_Regs.f k a0 a1) (headgatekeep_Regs.f (k + 1) a0 a1) := by
 intro a0 a1 k;have ih0 := headgatekeep_Regs.mono_l k;unfold headgatekeep_Regs.f
 repeat' first
   | (with_reducible exact ih0 _ _ _)
   | (with_reducible exact LeO.refl _)
   | (with_reducible exact LeO.none _)
   | (with_reducible refine LeO.ite ?_ ?_)
   | (with_reducible refine LeO.bind ?_ (fun _ => ?_))
   | exact ih0 _ _ _
   | exact LeO.none _
   | refine LeO.ite ?_ ?_
   | refine LeO.bind ?_ (fun _ => ?_)
theorem headgatekeep_Regs.calls (k : Nat) (A0 : Option Addr) (c0 : Nat) (l0 : List (S53)) (A1 : Option Addr) (c1 : Nat) (l1 : List (S53)) (r : Bool) (w : World) (hr0 : Kd.C k53 w A0 l0.length l0) (hc0 : l0.length ≤ c0) (hr1 : Kd.C k53 w A1 l1.length l1) (hc1 : l1.length ≤ c1) (h : headgatekeep_Regs.f k l0 l1 = some r) :
  Calls Tryd.prog 23 #[.slice A0 l0.length c0, .slice A1 l1.length c1] w fun e w' => e = .returned (.bool r) ∧ Drawn0 w w' := by
 have qn := aS_ hr0;have HC0 := aS_ hc0;clear hr0 hc0;have qp := aS_ hr1;have HC1 := aS_ hc1;clear hr1 hc1;have H : (if (l0.length : Int) = (l1.length : Int) then (headgatekeep_Regs.l0 k l0 l1 0) else (some false)) = some r := h;clear h
 by_cases c3 : (l0.length : Int) = (l1.length : Int)
 ·rw [if_pos c3] at H;have c3b0 : ((l0.length : Int) == (l1.length : Int)) = true := beq_iff_eq.mpr c3;have c3b1 : ((l0.length : Int) != (l1.length : Int)) = false := bne_eq_false_iff_eq.mpr c3
  have c3b2 : (l0.length == l1.length) = true := by first | simpa using c3 | (simp at c3 ⊢; omega)
  clear c3;have H' := aS_ H;clear H;go_enter Tryd.func23, Tryd.ntmps23;go_wp2
  repeat (go_quiet (fail); try go_wp2)
  go_loopg [5] k (fun kq v5 w' => ∃ (qa : Int), v5 = .int .i64 qa ∧ Aside0 (headgatekeep_Regs.l0 kq l0 l1 qa = some r) ∧ Aside0 (kq ≤ k) ∧ Drawn0 w w')
  case atStart => exact ⟨(0), (by first | rfl | (simp; done) | (simp [*]; done)), H', ⟨Nat.le_refl _⟩, by repeat (first | exact Drawn0.refl _ | apply Drawn0.step)⟩
  case round =>
   clear H'
   try clear c1
   try clear c2
   try clear p2
   try clear c3
   try clear c3b0
   try clear c3b1
   try clear c3b2
   obtain ⟨qa, rfl, HA, HK1, ⟨m1, rfl⟩⟩ := hrel
   cases gk with
   | zero => exact absurd HA.out (by simp [headgatekeep_Regs.l0])
   | succ k1 =>
    have H := HA.out;clear HA;simp only [headgatekeep_Regs.l0] at H;by_cases c4 : qa < (l0.length : Int)
    ·rw [if_pos c4] at H;have c4b0 : decide (qa < (l0.length : Int)) = true := decide_eq_true c4;clear c4;by_cases c5 : 0 ≤ qa
     ·rw [if_pos c5] at H;have c5b0 : decide (0 ≤ qa) = true := decide_eq_true c5;clear c5;by_cases c6 : qa < (l1.length : Int)
      ·rw [if_pos c6] at H;have c6b0 : decide (qa < (l1.length : Int)) = true := decide_eq_true c6;clear c6;by_cases c7 : ((rd_T53 l0 qa).f0).toList = ((rd_T53 l1 qa).f0).toList
       ·rw [if_pos c7] at H;have c7b0 : (((rd_T53 l0 qa).f0).toList == ((rd_T53 l1 qa).f0).toList) = true := beq_iff_eq.mpr c7;have c7b1 : (((rd_T53 l0 qa).f0).toList != ((rd_T53 l1 qa).f0).toList) = false := bne_eq_false_iff_eq.mpr c7;clear c7
        by_cases c8 : ((rd_T53 l0 qa).f1) = ((rd_T53 l1 qa).f1)
        ·rw [if_pos c8] at H;have c8b0 : (((rd_T53 l0 qa).f1) == ((rd_T53 l1 qa).f1)) = true := beq_iff_eq.mpr c8;have c8b1 : (((rd_T53 l0 qa).f1) != ((rd_T53 l1 qa).f1)) = false := bne_eq_false_iff_eq.mpr c8;clear c8;have H' := aS_ H;clear H;have p223 : 0 ≤ (qa : Int) := of_decide_eq_true (by first | (with_reducible assumption) | assumption);have q223 : qa < (l0.length : Int) := of_decide_eq_true (by first | (with_reducible assumption) | assumption);obtain ⟨qb, e223, qc, qd⟩ := at_T53 qn.out qa p223 q223;cases e223;replace p223 := eq_true p223;replace q223 := eq_true q223;have p224 : 0 ≤ (qa : Int) := of_decide_eq_true (by first | (with_reducible assumption) | assumption);have q224 : qa < (l1.length : Int) := of_decide_eq_true (by first | (with_reducible assumption) | assumption);obtain ⟨qe, e224, qf, qg⟩ := at_T53 qp.out qa p224 q224;cases e224;replace p224 := eq_true p224;replace q224 := eq_true q224;have p225 : 0 ≤ (qa : Int) := of_decide_eq_true (by first | (with_reducible assumption) | assumption);have q225 : qa < (l0.length : Int) := of_decide_eq_true (by first | (with_reducible assumption) | assumption);obtain ⟨qh, e225, qj, qk⟩ := at_T53 qn.out qa p225 q225
         obtain rfl : qb = qh := (by injection e225)
         replace p225 := eq_true p225;replace q225 := eq_true q225;have p226 : 0 ≤ (qa : Int) := of_decide_eq_true (by first | (with_reducible assumption) | assumption);have q226 : qa < (l1.length : Int) := of_decide_eq_true (by first | (with_reducible assumption) | assumption);obtain ⟨qi, e226, ql, qm⟩ := at_T53 qp.out qa p226 q226
         obtain rfl : qe = qi := (by injection e226)
         replace p226 := eq_true p226;replace q226 := eq_true q226;go_wp2
         repeat (go_quiet (fail); try go_wp2)
         go_roundg k1
         case measure => have := HK1.out; omega
         case rel => exact ⟨(wrap64 (qa + 1)), (by first | rfl | (simp; done) | (simp [*]; done)), H', ⟨by have := HK1.out; omega⟩, by repeat (first | exact Drawn0.refl _ | apply Drawn0.step)⟩
        ·rw [if_neg c8] at H;have c8b0 : (((rd_T53 l0 qa).f1) == ((rd_T53 l1 qa).f1)) = false := beq_eq_false_iff_ne.mpr c8;have c8b1 : (((rd_T53 l0 qa).f1) != ((rd_T53 l1 qa).f1)) = true := bne_iff_ne.mpr c8;obtain rfl := Option.some.inj H;have p223 : 0 ≤ (qa : Int) := of_decide_eq_true (by first | (with_reducible assumption) | assumption);have q223 : qa < (l0.length : Int) := of_decide_eq_true (by first | (with_reducible assumption) | assumption);obtain ⟨qb, e223, qc, qd⟩ := at_T53 qn.out qa p223 q223;cases e223;replace p223 := eq_true p223;replace q223 := eq_true q223;have p224 : 0 ≤ (qa : Int) := of_decide_eq_true (by first | (with_reducible assumption) | assumption);have q224 : qa < (l1.length : Int) := of_decide_eq_true (by first | (with_reducible assumption) | assumption);obtain ⟨qe, e224, qf, qg⟩ := at_T53 qp.out qa p224 q224;cases e224;replace p224 := eq_true p224;replace q224 := eq_true q224;have p225 : 0 ≤ (qa : Int) := of_decide_eq_true (by first | (with_reducible assumption) | assumption);have q225 : qa < (l0.length : Int) := of_decide_eq_true (by first | (with_reducible assumption) | assumption);obtain ⟨qh, e225, qj, qk⟩ := at_T53 qn.out qa p225 q225
         obtain rfl : qb = qh := (by injection e225)
         replace p225 := eq_true p225;replace q225 := eq_true q225;have p226 : 0 ≤ (qa : Int) := of_decide_eq_true (by first | (with_reducible assumption) | assumption);have q226 : qa < (l1.length : Int) := of_decide_eq_true (by first | (with_reducible assumption) | assumption);obtain ⟨qi, e226, ql, qm⟩ := at_T53 qp.out qa p226 q226
         obtain rfl : qe = qi := (by injection e226)
         replace p226 := eq_true p226;replace q226 := eq_true q226;go_wp2
         repeat (go_quiet (fail); try go_wp2)
         go_ret;exact ⟨by first | rfl | (simp; done) | (simp [*]; done), by repeat (first | exact Drawn0.refl _ | apply Drawn0.step)⟩
       ·rw [if_neg c7] at H;have c7b0 : (((rd_T53 l0 qa).f0).toList == ((rd_T53 l1 qa).f0).toList) = false := beq_eq_false_iff_ne.mpr c7;have c7b1 : (((rd_T53 l0 qa).f0).toList != ((rd_T53 l1 qa).f0).toList) = true := bne_iff_ne.mpr c7;obtain rfl := Option.some.inj H;have p223 : 0 ≤ (qa : Int) := of_decide_eq_true (by first | (with_reducible assumption) | assumption);have q223 : qa < (l0.length : Int) := of_decide_eq_true (by first | (with_reducible assumption) | assumption);obtain ⟨qb, e223, qc, qd⟩ := at_T53 qn.out qa p223 q223;cases e223;replace p223 := eq_true p223;replace q223 := eq_true q223;have p224 : 0 ≤ (qa : Int) := of_decide_eq_true (by first | (with_reducible assumption) | assumption);have q224 : qa < (l1.length : Int) := of_decide_eq_true (by first | (with_reducible assumption) | assumption);obtain ⟨qe, e224, qf, qg⟩ := at_T53 qp.out qa p224 q224;cases e224;replace p224 := eq_true p224;replace q224 := eq_true q224;go_wp2
        repeat (go_quiet (fail); try go_wp2)
        go_ret;exact ⟨by first | rfl | (simp; done) | (simp [*]; done), by repeat (first | exact Drawn0.refl _ | apply Drawn0.step)⟩
      ·rw [if_neg c6] at H;exact absurd H (by simp)
     ·rw [if_neg c5] at H;exact absurd H (by simp)
    ·rw [if_neg c4] at H;have c4b0 : decide (qa < (l0.length : Int)) = false := decide_eq_false c4;clear c4;obtain rfl := Option.some.inj H;go_wp2
     repeat (go_quiet (fail); try go_wp2)
     go_ret;exact ⟨by first | rfl | (simp; done) | (simp [*]; done), by repeat (first | exact Drawn0.refl _ | apply Drawn0.step)⟩
 ·rw [if_neg c3] at H;have c3b0 : ((l0.length : Int) == (l1.length : Int)) = false := beq_eq_false_iff_ne.mpr c3;have c3b1 : ((l0.length : Int) != (l1.length : Int)) = true := bne_iff_ne.mpr c3
  have c3b2 : (l0.length == l1.length) = false := by first | simpa using c3 | (simp at c3 ⊢; omega)
  obtain rfl := Option.some.inj H;go_enter Tryd.func23, Tryd.ntmps23;go_wp2
  repeat (go_quiet (fail); try go_wp2)
  go_ret;exact ⟨by first | rfl | (simp; done) | (simp [*]; done), by repeat (first | exact Drawn0.refl _ | apply Drawn0.step)⟩
def headgatekeep_Tables.f (k : Nat) (l0_0 : List (S53)) (a0_1 : Int) (a0_2 : ByteArray) (a0_3 : Int) (a0_4 : Bool) (l1_0 : List (S53)) (a1_1 : Int) (a1_2 : ByteArray) (a1_3 : Int) (a1_4 : Bool) : Option (Bool) := (headgatekeep_Regs.f k l0_0 l1_0).bind fun t229 => (if t229 = true then (if a0_1 = a1_1 then (if a0_2.toList = a1_2.toList then (if a0_3 = a1_3 then (some (a0_4 == a1_4)) else (some false)) else (some false)) else (some false)) else (some false))
theorem headgatekeep_Tables.mono : ∀ a0 a1 a2 a3 a4 a5 a6 a7 a8 a9 k, LeO (headgatekeep_Tables.f k a0 a1 a2 a3 a4 a5 a6 a7 a8 a9) (headgatekeep_Tables.f (k + 1) a0 a1 a2 a3 a4 a5 a6 a7 a8 a9) := by
 intro a0 a1 a2 a3 a4 a5 a6 a7 a8 a9 k;unfold headgatekeep_Tables.f
 repeat' first
   | (with_reducible exact headgatekeep_Regs.mono _ _ _)
   | (with_reducible exact LeO.refl _)
   | (with_reducible exact LeO.none _)
   | (with_reducible refine LeO.ite ?_ ?_)
   | (with_reducible refine LeO.bind ?_ (fun _ => ?_))
   | exact headgatekeep_Regs.mono _ _ _
   | exact LeO.none _
   | refine LeO.ite ?_ ?_
   | refine LeO.bind ?_ (fun _ => ?_)
theorem headgatekeep_Tables.calls (k : Nat) (qk : Option Addr) (ql : Nat) (qe : List (S53)) (qh : Int) (qi : ByteArray) (qj : Int) (qn : Bool) (qs : Option Addr) (qt : Nat) (qm : List (S53)) (qp : Int) (qq : ByteArray) (qr : Int) (qw : Bool) (r : Bool) (w : World) (hr0_0 : Kd.C k53 w qk qe.length qe) (q3 : qe.length ≤ ql) (hr1_0 : Kd.C k53 w qs qm.length qm) (q4 : qm.length ≤ qt) (h : headgatekeep_Tables.f k qe qh qi qj qn qm qp qq qr qw = some r) :
  Calls Tryd.prog 17 #[.agg #[.slice qk qe.length ql, .int .i64 qh, .string qi, .int .u32 qj, .bool qn], .agg #[.slice qs qm.length qt, .int .i64 qp, .string qq, .int .u32 qr, .bool qw]] w fun e w' => e = .returned (.bool r) ∧ Below w.heap.size w w' := by
 have hu27 := Tryd.underlying27;have qx := aS_ hr0_0;have qy := aS_ q3;clear hr0_0 q3;have qz := aS_ hr1_0;have q0 := aS_ q4;clear hr1_0 q4;have HB := aS_ (Below.refl w.heap.size w);have H : ((headgatekeep_Regs.f k qe qm).bind fun t229 => (if t229 = true then (if qh = qp then (if qi.toList = qq.toList then (if qj = qr then (some (qn == qw)) else (some false)) else (some false)) else (some false)) else (some false))) = some r := h;clear h;replace H := Option.bind_eq_some_iff.mp H;obtain ⟨t229, A30, H⟩ := H
 try dsimp only at H
 have A3 := aS_ A30;clear A30;refine neg_first (p := (t229 = true)) (fun c4 => ?_) (fun c4 => ?_)
 ·replace c4 := Bool.eq_false_iff.mpr c4;subst c4;have H1 := H;rw [if_neg (show ¬ (false = true) by decide)] at H1;clear H;have H := H1;clear H1;obtain rfl := Option.some.inj H;go_enter Tryd.func17, Tryd.ntmps17
  go_wp2_with (first | ((with_reducible refine gate_dst (N := 2) rfl ?_); refine bX_ (N := 2) (cs := #[.slice qk qe.length ql, .int .i64 qh, .string qi, .int .u32 qj, .bool qn]) (t := 27) ?hr ?_; (case hr => first | (go_simp; done) | (go_simp; rfl)); intro qa hg w28 hbox hb; have n0_ := aS_ (below_step (hb_ HB) hb); have n1_ := aS_ (hbox); have n2_ := aS_ ((by rw [hg]; exact (below_size (hb_ HB)) : w.heap.size ≤ qa)); have n3_ := aS_ ((by rw [hg]; exact (below_size (hb_ HB)) : w.heap.size ≤ qa)); clear HB; have HB := n0_; have qb := n1_; have q1 := n2_; have qu := n3_; clear n0_ n1_ n2_ n3_; clear hb hbox hg) | ((with_reducible refine gate_dst (N := 3) rfl ?_); refine bX_ (N := 3) (cs := #[.slice qs qm.length qt, .int .i64 qp, .string qq, .int .u32 qr, .bool qw]) (t := 27) ?hr ?_; (case hr => first | (go_simp; done) | (go_simp; rfl)); intro qc hg w29 hbox hb; have n0_ := aS_ (blk_below (bk_ qb) hb); have n1_ := aS_ (below_step (hb_ HB) hb); have n2_ := aS_ (hbox); have n3_ := aS_ ((by rw [hg]; exact (below_size (hb_ HB)) : w.heap.size ≤ qc)); have n4_ := aS_ ((by rw [hg]; exact (below_size (hb_ HB)) : w.heap.size ≤ qc)); have n5_ := aS_ ((by rw [hg]; exact Nat.ne_of_lt (blk_lt (g := qa) (o := .cells #[.slice qk qe.length ql, .int .i64 qh, .string qi, .int .u32 qj, .bool qn] 27 (0, 0)) (bk_ qb)) : qa ≠ qc)); have n6_ := aS_ ((by rw [hg]; exact Nat.ne_of_gt (blk_lt (g := qa) (o := .cells #[.slice qk qe.length ql, .int .i64 qh, .string qi, .int .u32 qj, .bool qn] 27 (0, 0)) (bk_ qb)) : qc ≠ qa)); clear qb; clear HB; have qb := n0_; have HB := n1_; have qd := n2_; have q2 := n3_; have qv := n4_; have qf := n5_; have qg := n6_; clear n0_ n1_ n2_ n3_ n4_ n5_ n6_; clear hb hbox hg; have hnb30 := qf.out; have hnc30 := qg.out; have hcz31_0 : w29.cell? ⟨qa, 0, none⟩ = some (.slice qk qe.length ql) := bC_ qb.out 0 rfl; have hcz31_1 : w29.cell? ⟨qa, 1, none⟩ = some (.int .i64 qh) := bC_ qb.out 1 rfl; have hcz31_2 : w29.cell? ⟨qa, 2, none⟩ = some (.string qi) := bC_ qb.out 2 rfl; have hcz31_3 : w29.cell? ⟨qa, 3, none⟩ = some (.int .u32 qj) := bC_ qb.out 3 rfl; have hcz31_4 : w29.cell? ⟨qa, 4, none⟩ = some (.bool qn) := bC_ qb.out 4 rfl; have hfz31_0 := bF_ qb.out; have hcz32_0 : w29.cell? ⟨qc, 0, none⟩ = some (.slice qs qm.length qt) := bC_ qd.out 0 rfl; have hcz32_1 : w29.cell? ⟨qc, 1, none⟩ = some (.int .i64 qp) := bC_ qd.out 1 rfl; have hcz32_2 : w29.cell? ⟨qc, 2, none⟩ = some (.string qq) := bC_ qd.out 2 rfl; have hcz32_3 : w29.cell? ⟨qc, 3, none⟩ = some (.int .u32 qr) := bC_ qd.out 3 rfl; have hcz32_4 : w29.cell? ⟨qc, 4, none⟩ = some (.bool qw) := bC_ qd.out 4 rfl; have hfz32_0 := bF_ qd.out) | ((with_reducible refine gate_callee (f := 23) rfl ?_); refine goesL_ (some 9) rfl rfl Tryd.func23 (by kernel_rfl) rfl #[.slice qk qe.length ql, .slice qs qm.length qt] rfl (by (try simp only [List.map_toArray, List.map_cons, List.map_nil]); first | done | rfl | (simp only [List.length_drop, List.length_take]; rfl)) ?_; (with_reducible refine (headgatekeep_Regs.calls k _ _ qe _ _ qm false _ ?side1 ?side2 ?side3 ?side4 A3.out).mono ?_); (case side1 => repeat (first | exact (Kd.C_below qx.out HB.out) | (with_reducible refine Kd.C_alloc ?_ _) | (with_reducible refine Kd.C_drewN ?_ _) | (with_reducible refine Kd.C_drew ?_))); (case side2 => exact qy.out); (case side3 => repeat (first | exact (Kd.C_below qz.out HB.out) | (with_reducible refine Kd.C_alloc ?_ _) | (with_reducible refine Kd.C_drewN ?_ _) | (with_reducible refine Kd.C_drew ?_))); (case side4 => exact q0.out); rintro e w' ⟨rfl, ⟨nd, rfl⟩⟩; refine ⟨_, rfl, ?_⟩))
  go_ret;exact ⟨by first | rfl | (simp [errW_none, errW_some] <;> rfl) | (simp [*, errW_none, errW_some] <;> rfl) | (simp [bt, *]; done) | (unfold bt; simp [*]; done), by repeat (first | (with_reducible first | exact HB.out | apply below_alloc | apply pw_below_drewN | apply below_drew1 | refine below_set ?_ qu.out | refine below_set ?_ qv.out) | exact HB.out)⟩
 subst c4;have H1 := H;rw [if_pos rfl] at H1;clear H;have H := H1;clear H1;refine neg_first (p := (qh = qp)) (fun c5 => ?_) (fun c5 => ?_)
 ·rw [if_neg c5] at H;have c5b0 : (qh == qp) = false := beq_eq_false_iff_ne.mpr c5;have c5b1 : (qh != qp) = true := bne_iff_ne.mpr c5;obtain rfl := Option.some.inj H;go_enter Tryd.func17, Tryd.ntmps17
  go_wp2_with (first | ((with_reducible refine gate_dst (N := 2) rfl ?_); refine bX_ (N := 2) (cs := #[.slice qk qe.length ql, .int .i64 qh, .string qi, .int .u32 qj, .bool qn]) (t := 27) ?hr ?_; (case hr => first | (go_simp; done) | (go_simp; rfl)); intro qa hg w23 hbox hb; have n0_ := aS_ (below_step (hb_ HB) hb); have n1_ := aS_ (hbox); have n2_ := aS_ ((by rw [hg]; exact (below_size (hb_ HB)) : w.heap.size ≤ qa)); have n3_ := aS_ ((by rw [hg]; exact (below_size (hb_ HB)) : w.heap.size ≤ qa)); clear HB; have HB := n0_; have qb := n1_; have q1 := n2_; have qu := n3_; clear n0_ n1_ n2_ n3_; clear hb hbox hg) | ((with_reducible refine gate_dst (N := 3) rfl ?_); refine bX_ (N := 3) (cs := #[.slice qs qm.length qt, .int .i64 qp, .string qq, .int .u32 qr, .bool qw]) (t := 27) ?hr ?_; (case hr => first | (go_simp; done) | (go_simp; rfl)); intro qc hg w24 hbox hb; have n0_ := aS_ (blk_below (bk_ qb) hb); have n1_ := aS_ (below_step (hb_ HB) hb); have n2_ := aS_ (hbox); have n3_ := aS_ ((by rw [hg]; exact (below_size (hb_ HB)) : w.heap.size ≤ qc)); have n4_ := aS_ ((by rw [hg]; exact (below_size (hb_ HB)) : w.heap.size ≤ qc)); have n5_ := aS_ ((by rw [hg]; exact Nat.ne_of_lt (blk_lt (g := qa) (o := .cells #[.slice qk qe.length ql, .int .i64 qh, .string qi, .int .u32 qj, .bool qn] 27 (0, 0)) (bk_ qb)) : qa ≠ qc)); have n6_ := aS_ ((by rw [hg]; exact Nat.ne_of_gt (blk_lt (g := qa) (o := .cells #[.slice qk qe.length ql, .int .i64 qh, .string qi, .int .u32 qj, .bool qn] 27 (0, 0)) (bk_ qb)) : qc ≠ qa)); clear qb; clear HB; have qb := n0_; have HB := n1_; have qd := n2_; have q2 := n3_; have qv := n4_; have qf := n5_; have qg := n6_; clear n0_ n1_ n2_ n3_ n4_ n5_ n6_; clear hb hbox hg; have hnb25 := qf.out; have hnc25 := qg.out; have hcz26_0 : w24.cell? ⟨qa, 0, none⟩ = some (.slice qk qe.length ql) := bC_ qb.out 0 rfl; have hcz26_1 : w24.cell? ⟨qa, 1, none⟩ = some (.int .i64 qh) := bC_ qb.out 1 rfl; have hcz26_2 : w24.cell? ⟨qa, 2, none⟩ = some (.string qi) := bC_ qb.out 2 rfl; have hcz26_3 : w24.cell? ⟨qa, 3, none⟩ = some (.int .u32 qj) := bC_ qb.out 3 rfl; have hcz26_4 : w24.cell? ⟨qa, 4, none⟩ = some (.bool qn) := bC_ qb.out 4 rfl; have hfz26_0 := bF_ qb.out; have hcz27_0 : w24.cell? ⟨qc, 0, none⟩ = some (.slice qs qm.length qt) := bC_ qd.out 0 rfl; have hcz27_1 : w24.cell? ⟨qc, 1, none⟩ = some (.int .i64 qp) := bC_ qd.out 1 rfl; have hcz27_2 : w24.cell? ⟨qc, 2, none⟩ = some (.string qq) := bC_ qd.out 2 rfl; have hcz27_3 : w24.cell? ⟨qc, 3, none⟩ = some (.int .u32 qr) := bC_ qd.out 3 rfl; have hcz27_4 : w24.cell? ⟨qc, 4, none⟩ = some (.bool qw) := bC_ qd.out 4 rfl; have hfz27_0 := bF_ qd.out) | ((with_reducible refine gate_callee (f := 23) rfl ?_); refine goesL_ (some 9) rfl rfl Tryd.func23 (by kernel_rfl) rfl #[.slice qk qe.length ql, .slice qs qm.length qt] rfl (by (try simp only [List.map_toArray, List.map_cons, List.map_nil]); first | done | rfl | (simp only [List.length_drop, List.length_take]; rfl)) ?_; (with_reducible refine (headgatekeep_Regs.calls k _ _ qe _ _ qm true _ ?side1 ?side2 ?side3 ?side4 A3.out).mono ?_); (case side1 => repeat (first | exact (Kd.C_below qx.out HB.out) | (with_reducible refine Kd.C_alloc ?_ _) | (with_reducible refine Kd.C_drewN ?_ _) | (with_reducible refine Kd.C_drew ?_))); (case side2 => exact qy.out); (case side3 => repeat (first | exact (Kd.C_below qz.out HB.out) | (with_reducible refine Kd.C_alloc ?_ _) | (with_reducible refine Kd.C_drewN ?_ _) | (with_reducible refine Kd.C_drew ?_))); (case side4 => exact q0.out); rintro e w' ⟨rfl, ⟨nd, rfl⟩⟩; refine ⟨_, rfl, ?_⟩))
  go_ret;exact ⟨by first | rfl | (simp [errW_none, errW_some] <;> rfl) | (simp [*, errW_none, errW_some] <;> rfl) | (simp [bt, *]; done) | (unfold bt; simp [*]; done), by repeat (first | (with_reducible first | exact HB.out | apply below_alloc | apply pw_below_drewN | apply below_drew1 | refine below_set ?_ qu.out | refine below_set ?_ qv.out) | exact HB.out)⟩
 rw [if_pos c5] at H;have c5b0 : (qh == qp) = true := beq_iff_eq.mpr c5;have c5b1 : (qh != qp) = false := bne_eq_false_iff_eq.mpr c5;clear c5;refine neg_first (p := (qi.toList = qq.toList)) (fun c6 => ?_) (fun c6 => ?_)
 ·rw [if_neg c6] at H;have c6b0 : (qi.toList == qq.toList) = false := beq_eq_false_iff_ne.mpr c6;have c6b1 : (qi.toList != qq.toList) = true := bne_iff_ne.mpr c6;obtain rfl := Option.some.inj H;go_enter Tryd.func17, Tryd.ntmps17
  go_wp2_with (first | ((with_reducible refine gate_dst (N := 2) rfl ?_); refine bX_ (N := 2) (cs := #[.slice qk qe.length ql, .int .i64 qh, .string qi, .int .u32 qj, .bool qn]) (t := 27) ?hr ?_; (case hr => first | (go_simp; done) | (go_simp; rfl)); intro qa hg w18 hbox hb; have n0_ := aS_ (below_step (hb_ HB) hb); have n1_ := aS_ (hbox); have n2_ := aS_ ((by rw [hg]; exact (below_size (hb_ HB)) : w.heap.size ≤ qa)); have n3_ := aS_ ((by rw [hg]; exact (below_size (hb_ HB)) : w.heap.size ≤ qa)); clear HB; have HB := n0_; have qb := n1_; have q1 := n2_; have qu := n3_; clear n0_ n1_ n2_ n3_; clear hb hbox hg) | ((with_reducible refine gate_dst (N := 3) rfl ?_); refine bX_ (N := 3) (cs := #[.slice qs qm.length qt, .int .i64 qp, .string qq, .int .u32 qr, .bool qw]) (t := 27) ?hr ?_; (case hr => first | (go_simp; done) | (go_simp; rfl)); intro qc hg w19 hbox hb; have n0_ := aS_ (blk_below (bk_ qb) hb); have n1_ := aS_ (below_step (hb_ HB) hb); have n2_ := aS_ (hbox); have n3_ := aS_ ((by rw [hg]; exact (below_size (hb_ HB)) : w.heap.size ≤ qc)); have n4_ := aS_ ((by rw [hg]; exact (below_size (hb_ HB)) : w.heap.size ≤ qc)); have n5_ := aS_ ((by rw [hg]; exact Nat.ne_of_lt (blk_lt (g := qa) (o := .cells #[.slice qk qe.length ql, .int .i64 qh, .string qi, .int .u32 qj, .bool qn] 27 (0, 0)) (bk_ qb)) : qa ≠ qc)); have n6_ := aS_ ((by rw [hg]; exact Nat.ne_of_gt (blk_lt (g := qa) (o := .cells #[.slice qk qe.length ql, .int .i64 qh, .string qi, .int .u32 qj, .bool qn] 27 (0, 0)) (bk_ qb)) : qc ≠ qa)); clear qb; clear HB; have qb := n0_; have HB := n1_; have qd := n2_; have q2 := n3_; have qv := n4_; have qf := n5_; have qg := n6_; clear n0_ n1_ n2_ n3_ n4_ n5_ n6_; clear hb hbox hg; have hnb20 := qf.out; have hnc20 := qg.out; have hcz21_0 : w19.cell? ⟨qa, 0, none⟩ = some (.slice qk qe.length ql) := bC_ qb.out 0 rfl; have hcz21_1 : w19.cell? ⟨qa, 1, none⟩ = some (.int .i64 qh) := bC_ qb.out 1 rfl; have hcz21_2 : w19.cell? ⟨qa, 2, none⟩ = some (.string qi) := bC_ qb.out 2 rfl; have hcz21_3 : w19.cell? ⟨qa, 3, none⟩ = some (.int .u32 qj) := bC_ qb.out 3 rfl; have hcz21_4 : w19.cell? ⟨qa, 4, none⟩ = some (.bool qn) := bC_ qb.out 4 rfl; have hfz21_0 := bF_ qb.out; have hcz22_0 : w19.cell? ⟨qc, 0, none⟩ = some (.slice qs qm.length qt) := bC_ qd.out 0 rfl; have hcz22_1 : w19.cell? ⟨qc, 1, none⟩ = some (.int .i64 qp) := bC_ qd.out 1 rfl; have hcz22_2 : w19.cell? ⟨qc, 2, none⟩ = some (.string qq) := bC_ qd.out 2 rfl; have hcz22_3 : w19.cell? ⟨qc, 3, none⟩ = some (.int .u32 qr) := bC_ qd.out 3 rfl; have hcz22_4 : w19.cell? ⟨qc, 4, none⟩ = some (.bool qw) := bC_ qd.out 4 rfl; have hfz22_0 := bF_ qd.out) | ((with_reducible refine gate_callee (f := 23) rfl ?_); refine goesL_ (some 9) rfl rfl Tryd.func23 (by kernel_rfl) rfl #[.slice qk qe.length ql, .slice qs qm.length qt] rfl (by (try simp only [List.map_toArray, List.map_cons, List.map_nil]); first | done | rfl | (simp only [List.length_drop, List.length_take]; rfl)) ?_; (with_reducible refine (headgatekeep_Regs.calls k _ _ qe _ _ qm true _ ?side1 ?side2 ?side3 ?side4 A3.out).mono ?_); (case side1 => repeat (first | exact (Kd.C_below qx.out HB.out) | (with_reducible refine Kd.C_alloc ?_ _) | (with_reducible refine Kd.C_drewN ?_ _) | (with_reducible refine Kd.C_drew ?_))); (case side2 => exact qy.out); (case side3 => repeat (first | exact (Kd.C_below qz.out HB.out) | (with_reducible refine Kd.C_alloc ?_ _) | (with_reducible refine Kd.C_drewN ?_ _) | (with_reducible refine Kd.C_drew ?_))); (case side4 => exact q0.out); rintro e w' ⟨rfl, ⟨nd, rfl⟩⟩; refine ⟨_, rfl, ?_⟩))
  go_ret;exact ⟨by first | rfl | (simp [errW_none, errW_some] <;> rfl) | (simp [*, errW_none, errW_some] <;> rfl) | (simp [bt, *]; done) | (unfold bt; simp [*]; done), by repeat (first | (with_reducible first | exact HB.out | apply below_alloc | apply pw_below_drewN | apply below_drew1 | refine below_set ?_ qu.out | refine below_set ?_ qv.out) | exact HB.out)⟩
 rw [if_pos c6] at H;have c6b0 : (qi.toList == qq.toList) = true := beq_iff_eq.mpr c6;have c6b1 : (qi.toList != qq.toList) = false := bne_eq_false_iff_eq.mpr c6;clear c6;refine neg_first (p := (qj = qr)) (fun c7 => ?_) (fun c7 => ?_)
 ·rw [if_neg c7] at H;have c7b0 : (qj == qr) = false := beq_eq_false_iff_ne.mpr c7;have c7b1 : (qj != qr) = true := bne_iff_ne.mpr c7;obtain rfl := Option.some.inj H;go_enter Tryd.func17, Tryd.ntmps17
  go_wp2_with (first | ((with_reducible refine gate_dst (N := 2) rfl ?_); refine bX_ (N := 2) (cs := #[.slice qk qe.length ql, .int .i64 qh, .string qi, .int .u32 qj, .bool qn]) (t := 27) ?hr ?_; (case hr => first | (go_simp; done) | (go_simp; rfl)); intro qa hg w13 hbox hb; have n0_ := aS_ (below_step (hb_ HB) hb); have n1_ := aS_ (hbox); have n2_ := aS_ ((by rw [hg]; exact (below_size (hb_ HB)) : w.heap.size ≤ qa)); have n3_ := aS_ ((by rw [hg]; exact (below_size (hb_ HB)) : w.heap.size ≤ qa)); clear HB; have HB := n0_; have qb := n1_; have q1 := n2_; have qu := n3_; clear n0_ n1_ n2_ n3_; clear hb hbox hg) | ((with_reducible refine gate_dst (N := 3) rfl ?_); refine bX_ (N := 3) (cs := #[.slice qs qm.length qt, .int .i64 qp, .string qq, .int .u32 qr, .bool qw]) (t := 27) ?hr ?_; (case hr => first | (go_simp; done) | (go_simp; rfl)); intro qc hg w14 hbox hb; have n0_ := aS_ (blk_below (bk_ qb) hb); have n1_ := aS_ (below_step (hb_ HB) hb); have n2_ := aS_ (hbox); have n3_ := aS_ ((by rw [hg]; exact (below_size (hb_ HB)) : w.heap.size ≤ qc)); have n4_ := aS_ ((by rw [hg]; exact (below_size (hb_ HB)) : w.heap.size ≤ qc)); have n5_ := aS_ ((by rw [hg]; exact Nat.ne_of_lt (blk_lt (g := qa) (o := .cells #[.slice qk qe.length ql, .int .i64 qh, .string qi, .int .u32 qj, .bool qn] 27 (0, 0)) (bk_ qb)) : qa ≠ qc)); have n6_ := aS_ ((by rw [hg]; exact Nat.ne_of_gt (blk_lt (g := qa) (o := .cells #[.slice qk qe.length ql, .int .i64 qh, .string qi, .int .u32 qj, .bool qn] 27 (0, 0)) (bk_ qb)) : qc ≠ qa)); clear qb; clear HB; have qb := n0_; have HB := n1_; have qd := n2_; have q2 := n3_; have qv := n4_; have qf := n5_; have qg := n6_; clear n0_ n1_ n2_ n3_ n4_ n5_ n6_; clear hb hbox hg; have hnb15 := qf.out; have hnc15 := qg.out; have hcz16_0 : w14.cell? ⟨qa, 0, none⟩ = some (.slice qk qe.length ql) := bC_ qb.out 0 rfl; have hcz16_1 : w14.cell? ⟨qa, 1, none⟩ = some (.int .i64 qh) := bC_ qb.out 1 rfl; have hcz16_2 : w14.cell? ⟨qa, 2, none⟩ = some (.string qi) := bC_ qb.out 2 rfl; have hcz16_3 : w14.cell? ⟨qa, 3, none⟩ = some (.int .u32 qj) := bC_ qb.out 3 rfl; have hcz16_4 : w14.cell? ⟨qa, 4, none⟩ = some (.bool qn) := bC_ qb.out 4 rfl; have hfz16_0 := bF_ qb.out; have hcz17_0 : w14.cell? ⟨qc, 0, none⟩ = some (.slice qs qm.length qt) := bC_ qd.out 0 rfl; have hcz17_1 : w14.cell? ⟨qc, 1, none⟩ = some (.int .i64 qp) := bC_ qd.out 1 rfl; have hcz17_2 : w14.cell? ⟨qc, 2, none⟩ = some (.string qq) := bC_ qd.out 2 rfl; have hcz17_3 : w14.cell? ⟨qc, 3, none⟩ = some (.int .u32 qr) := bC_ qd.out 3 rfl; have hcz17_4 : w14.cell? ⟨qc, 4, none⟩ = some (.bool qw) := bC_ qd.out 4 rfl; have hfz17_0 := bF_ qd.out) | ((with_reducible refine gate_callee (f := 23) rfl ?_); refine goesL_ (some 9) rfl rfl Tryd.func23 (by kernel_rfl) rfl #[.slice qk qe.length ql, .slice qs qm.length qt] rfl (by (try simp only [List.map_toArray, List.map_cons, List.map_nil]); first | done | rfl | (simp only [List.length_drop, List.length_take]; rfl)) ?_; (with_reducible refine (headgatekeep_Regs.calls k _ _ qe _ _ qm true _ ?side1 ?side2 ?side3 ?side4 A3.out).mono ?_); (case side1 => repeat (first | exact (Kd.C_below qx.out HB.out) | (with_reducible refine Kd.C_alloc ?_ _) | (with_reducible refine Kd.C_drewN ?_ _) | (with_reducible refine Kd.C_drew ?_))); (case side2 => exact qy.out); (case side3 => repeat (first | exact (Kd.C_below qz.out HB.out) | (with_reducible refine Kd.C_alloc ?_ _) | (with_reducible refine Kd.C_drewN ?_ _) | (with_reducible refine Kd.C_drew ?_))); (case side4 => exact q0.out); rintro e w' ⟨rfl, ⟨nd, rfl⟩⟩; refine ⟨_, rfl, ?_⟩))
  go_ret;exact ⟨by first | rfl | (simp [errW_none, errW_some] <;> rfl) | (simp [*, errW_none, errW_some] <;> rfl) | (simp [bt, *]; done) | (unfold bt; simp [*]; done), by repeat (first | (with_reducible first | exact HB.out | apply below_alloc | apply pw_below_drewN | apply below_drew1 | refine below_set ?_ qu.out | refine below_set ?_ qv.out) | exact HB.out)⟩
 rw [if_pos c7] at H;have c7b0 : (qj == qr) = true := beq_iff_eq.mpr c7;have c7b1 : (qj != qr) = false := bne_eq_false_iff_eq.mpr c7;clear c7;obtain rfl := Option.some.inj H;go_enter Tryd.func17, Tryd.ntmps17
 go_wp2_with (first | ((with_reducible refine gate_dst (N := 2) rfl ?_); refine bX_ (N := 2) (cs := #[.slice qk qe.length ql, .int .i64 qh, .string qi, .int .u32 qj, .bool qn]) (t := 27) ?hr ?_; (case hr => first | (go_simp; done) | (go_simp; rfl)); intro qa hg w8 hbox hb; have n0_ := aS_ (below_step (hb_ HB) hb); have n1_ := aS_ (hbox); have n2_ := aS_ ((by rw [hg]; exact (below_size (hb_ HB)) : w.heap.size ≤ qa)); have n3_ := aS_ ((by rw [hg]; exact (below_size (hb_ HB)) : w.heap.size ≤ qa)); clear HB; have HB := n0_; have qb := n1_; have q1 := n2_; have qu := n3_; clear n0_ n1_ n2_ n3_; clear hb hbox hg) | ((with_reducible refine gate_dst (N := 3) rfl ?_); refine bX_ (N := 3) (cs := #[.slice qs qm.length qt, .int .i64 qp, .string qq, .int .u32 qr, .bool qw]) (t := 27) ?hr ?_; (case hr => first | (go_simp; done) | (go_simp; rfl)); intro qc hg w9 hbox hb; have n0_ := aS_ (blk_below (bk_ qb) hb); have n1_ := aS_ (below_step (hb_ HB) hb); have n2_ := aS_ (hbox); have n3_ := aS_ ((by rw [hg]; exact (below_size (hb_ HB)) : w.heap.size ≤ qc)); have n4_ := aS_ ((by rw [hg]; exact (below_size (hb_ HB)) : w.heap.size ≤ qc)); have n5_ := aS_ ((by rw [hg]; exact Nat.ne_of_lt (blk_lt (g := qa) (o := .cells #[.slice qk qe.length ql, .int .i64 qh, .string qi, .int .u32 qj, .bool qn] 27 (0, 0)) (bk_ qb)) : qa ≠ qc)); have n6_ := aS_ ((by rw [hg]; exact Nat.ne_of_gt (blk_lt (g := qa) (o := .cells #[.slice qk qe.length ql, .int .i64 qh, .string qi, .int .u32 qj, .bool qn] 27 (0, 0)) (bk_ qb)) : qc ≠ qa)); clear qb; clear HB; have qb := n0_; have HB := n1_; have qd := n2_; have q2 := n3_; have qv := n4_; have qf := n5_; have qg := n6_; clear n0_ n1_ n2_ n3_ n4_ n5_ n6_; clear hb hbox hg; have hnb10 := qf.out; have hnc10 := qg.out; have hcz11_0 : w9.cell? ⟨qa, 0, none⟩ = some (.slice qk qe.length ql) := bC_ qb.out 0 rfl; have hcz11_1 : w9.cell? ⟨qa, 1, none⟩ = some (.int .i64 qh) := bC_ qb.out 1 rfl; have hcz11_2 : w9.cell? ⟨qa, 2, none⟩ = some (.string qi) := bC_ qb.out 2 rfl; have hcz11_3 : w9.cell? ⟨qa, 3, none⟩ = some (.int .u32 qj) := bC_ qb.out 3 rfl; have hcz11_4 : w9.cell? ⟨qa, 4, none⟩ = some (.bool qn) := bC_ qb.out 4 rfl; have hfz11_0 := bF_ qb.out; have hcz12_0 : w9.cell? ⟨qc, 0, none⟩ = some (.slice qs qm.length qt) := bC_ qd.out 0 rfl; have hcz12_1 : w9.cell? ⟨qc, 1, none⟩ = some (.int .i64 qp) := bC_ qd.out 1 rfl; have hcz12_2 : w9.cell? ⟨qc, 2, none⟩ = some (.string qq) := bC_ qd.out 2 rfl; have hcz12_3 : w9.cell? ⟨qc, 3, none⟩ = some (.int .u32 qr) := bC_ qd.out 3 rfl; have hcz12_4 : w9.cell? ⟨qc, 4, none⟩ = some (.bool qw) := bC_ qd.out 4 rfl; have hfz12_0 := bF_ qd.out) | ((with_reducible refine gate_callee (f := 23) rfl ?_); refine goesL_ (some 9) rfl rfl Tryd.func23 (by kernel_rfl) rfl #[.slice qk qe.length ql, .slice qs qm.length qt] rfl (by (try simp only [List.map_toArray, List.map_cons, List.map_nil]); first | done | rfl | (simp only [List.length_drop, List.length_take]; rfl)) ?_; (with_reducible refine (headgatekeep_Regs.calls k _ _ qe _ _ qm true _ ?side1 ?side2 ?side3 ?side4 A3.out).mono ?_); (case side1 => repeat (first | exact (Kd.C_below qx.out HB.out) | (with_reducible refine Kd.C_alloc ?_ _) | (with_reducible refine Kd.C_drewN ?_ _) | (with_reducible refine Kd.C_drew ?_))); (case side2 => exact qy.out); (case side3 => repeat (first | exact (Kd.C_below qz.out HB.out) | (with_reducible refine Kd.C_alloc ?_ _) | (with_reducible refine Kd.C_drewN ?_ _) | (with_reducible refine Kd.C_drew ?_))); (case side4 => exact q0.out); rintro e w' ⟨rfl, ⟨nd, rfl⟩⟩; refine ⟨_, rfl, ?_⟩))
 go_ret;exact ⟨by first | rfl | (simp [errW_none, errW_some] <;> rfl) | (simp [*, errW_none, errW_some] <;> rfl) | (simp [bt, *]; done) | (unfold bt; simp [*]; done), by repeat (first | (with_reducible first | exact HB.out | apply below_alloc | apply pw_below_drewN | apply below_drew1 | refine below_set ?_ qu.out | refine below_set ?_ qv.out) | exact HB.out)⟩
def headgateref11_Events.l0 : Nat → List (S46) → List (S46) → Int → Option (Bool)
  | 0, _, _, _ => none
  | k + 1, x0, x1, x5 => if x5 < (x0.length : Int) then (if 0 ≤ x5 then (if x5 < (x1.length : Int) then (if ((rd_T46 x0 x5).f0).toList = ((rd_T46 x1 x5).f0).toList then (if ((rd_T46 x0 x5).f1) = ((rd_T46 x1 x5).f1) then (headgateref11_Events.l0 k x0 x1 (wrap64 (x5 + 1))) else (some false)) else (some false)) else (none)) else (none)) else (some true)
def headgateref11_Events.f (k : Nat) (l0 : List (S46)) (l1 : List (S46)) : Option (Bool) := if (l0.length : Int) = (l1.length : Int) then (headgateref11_Events.l0 k l0 l1 0) else (some false)
theorem headgateref11_Events.mono_l : ∀ k, (∀ y0 y1 y2, LeO (headgateref11_Events.l0 k y0 y1 y2) (headgateref11_Events.l0 (k + 1) y0 y1 y2))
 | 0 => fun _ _ _ r h => by simp [headgateref11_Events.l0] at h
 | k + 1 => by
  have ih0 := headgateref11_Events.mono_l k
  ·intro y0 y1 y2
   unfold headgateref11_Events.l0
   repeat' first
   | (with_reducible exact ih0 _ _ _)
   | (with_reducible exact LeO.refl _)
   | (with_reducible exact LeO.none _)
   | (with_reducible refine LeO.ite ?_ ?_)
   | (with_reducible refine LeO.bind ?_ (fun _ => ?_))
   | exact ih0 _ _ _
   | exact LeO.none _
   | refine LeO.ite ?_ ?_
   | refine LeO.bind ?_ (fun _ => ?_)
theorem headgateref11_Events.mono : ∀ a0 a1 k, LeO (headgateref11_Events.f k a0 a1) (headgateref11_Events.f (k + 1) a0 a1) := by
 intro a0 a1 k;have ih0 := headgateref11_Events.mono_l k;unfold headgateref11_Events.f
 repeat' first
   | (with_reducible exact ih0 _ _ _)
   | (with_reducible exact LeO.refl _)
   | (with_reducible exact LeO.none _)
   | (with_reducible refine LeO.ite ?_ ?_)
   | (with_reducible refine LeO.bind ?_ (fun _ => ?_))
   | exact ih0 _ _ _
   | exact LeO.none _
   | refine LeO.ite ?_ ?_
   | refine LeO.bind ?_ (fun _ => ?_)
theorem headgateref11_Events.calls (k : Nat) (A0 : Option Addr) (c0 : Nat) (l0 : List (S46)) (A1 : Option Addr) (c1 : Nat) (l1 : List (S46)) (r : Bool) (w : World) (hr0 : Kd.C k46 w A0 l0.length l0) (hc0 : l0.length ≤ c0) (hr1 : Kd.C k46 w A1 l1.length l1) (hc1 : l1.length ≤ c1) (h : headgateref11_Events.f k l0 l1 = some r) :
  Calls Tryd.prog 18 #[.slice A0 l0.length c0, .slice A1 l1.length c1] w fun e w' => e = .returned (.bool r) ∧ Drawn0 w w' := by
 have qn := aS_ hr0;have HC0 := aS_ hc0;clear hr0 hc0;have qp := aS_ hr1;have HC1 := aS_ hc1;clear hr1 hc1;have H : (if (l0.length : Int) = (l1.length : Int) then (headgateref11_Events.l0 k l0 l1 0) else (some false)) = some r := h;clear h
 by_cases c3 : (l0.length : Int) = (l1.length : Int)
 ·rw [if_pos c3] at H;have c3b0 : ((l0.length : Int) == (l1.length : Int)) = true := beq_iff_eq.mpr c3;have c3b1 : ((l0.length : Int) != (l1.length : Int)) = false := bne_eq_false_iff_eq.mpr c3
  have c3b2 : (l0.length == l1.length) = true := by first | simpa using c3 | (simp at c3 ⊢; omega)
  clear c3;have H' := aS_ H;clear H;go_enter Tryd.func18, Tryd.ntmps18;go_wp2
  repeat (go_quiet (fail); try go_wp2)
  go_loopg [5] k (fun kq v5 w' => ∃ (qa : Int), v5 = .int .i64 qa ∧ Aside0 (headgateref11_Events.l0 kq l0 l1 qa = some r) ∧ Aside0 (kq ≤ k) ∧ Drawn0 w w')
  case atStart => exact ⟨(0), (by first | rfl | (simp; done) | (simp [*]; done)), H', ⟨Nat.le_refl _⟩, by repeat (first | exact Drawn0.refl _ | apply Drawn0.step)⟩
  case round =>
   clear H'
   try clear c1
   try clear p2
   try clear c3
   try clear c3b0
   try clear c3b1
   try clear c3b2
   obtain ⟨qa, rfl, HA, HK1, ⟨m1, rfl⟩⟩ := hrel
   cases gk with
   | zero => exact absurd HA.out (by simp [headgateref11_Events.l0])
   | succ k1 =>
    have H := HA.out;clear HA;simp only [headgateref11_Events.l0] at H;by_cases c4 : qa < (l0.length : Int)
    ·rw [if_pos c4] at H;have c4b0 : decide (qa < (l0.length : Int)) = true := decide_eq_true c4;clear c4;by_cases c5 : 0 ≤ qa
     ·rw [if_pos c5] at H;have c5b0 : decide (0 ≤ qa) = true := decide_eq_true c5;clear c5;by_cases c6 : qa < (l1.length : Int)
      ·rw [if_pos c6] at H;have c6b0 : decide (qa < (l1.length : Int)) = true := decide_eq_true c6;clear c6;by_cases c7 : ((rd_T46 l0 qa).f0).toList = ((rd_T46 l1 qa).f0).toList
       ·rw [if_pos c7] at H;have c7b0 : (((rd_T46 l0 qa).f0).toList == ((rd_T46 l1 qa).f0).toList) = true := beq_iff_eq.mpr c7;have c7b1 : (((rd_T46 l0 qa).f0).toList != ((rd_T46 l1 qa).f0).toList) = false := bne_eq_false_iff_eq.mpr c7;clear c7
        by_cases c8 : ((rd_T46 l0 qa).f1) = ((rd_T46 l1 qa).f1)
        ·rw [if_pos c8] at H;have c8b0 : (((rd_T46 l0 qa).f1) == ((rd_T46 l1 qa).f1)) = true := beq_iff_eq.mpr c8;have c8b1 : (((rd_T46 l0 qa).f1) != ((rd_T46 l1 qa).f1)) = false := bne_eq_false_iff_eq.mpr c8;clear c8;have H' := aS_ H;clear H;have p230 : 0 ≤ (qa : Int) := of_decide_eq_true (by first | (with_reducible assumption) | assumption);have q230 : qa < (l0.length : Int) := of_decide_eq_true (by first | (with_reducible assumption) | assumption);obtain ⟨qb, e230, qc, qd⟩ := at_T46 qn.out qa p230 q230;cases e230;replace p230 := eq_true p230;replace q230 := eq_true q230;have p231 : 0 ≤ (qa : Int) := of_decide_eq_true (by first | (with_reducible assumption) | assumption);have q231 : qa < (l1.length : Int) := of_decide_eq_true (by first | (with_reducible assumption) | assumption);obtain ⟨qe, e231, qf, qg⟩ := at_T46 qp.out qa p231 q231;cases e231;replace p231 := eq_true p231;replace q231 := eq_true q231;have p232 : 0 ≤ (qa : Int) := of_decide_eq_true (by first | (with_reducible assumption) | assumption);have q232 : qa < (l0.length : Int) := of_decide_eq_true (by first | (with_reducible assumption) | assumption);obtain ⟨qh, e232, qj, qk⟩ := at_T46 qn.out qa p232 q232
         obtain rfl : qb = qh := (by injection e232)
         replace p232 := eq_true p232;replace q232 := eq_true q232;have p233 : 0 ≤ (qa : Int) := of_decide_eq_true (by first | (with_reducible assumption) | assumption);have q233 : qa < (l1.length : Int) := of_decide_eq_true (by first | (with_reducible assumption) | assumption);obtain ⟨qi, e233, ql, qm⟩ := at_T46 qp.out qa p233 q233
         obtain rfl : qe = qi := (by injection e233)
         replace p233 := eq_true p233;replace q233 := eq_true q233;go_wp2
         repeat (go_quiet (fail); try go_wp2)
         go_roundg k1
         case measure => have := HK1.out; omega
         case rel => exact ⟨(wrap64 (qa + 1)), (by first | rfl | (simp; done) | (simp [*]; done)), H', ⟨by have := HK1.out; omega⟩, by repeat (first | exact Drawn0.refl _ | apply Drawn0.step)⟩
        ·rw [if_neg c8] at H;have c8b0 : (((rd_T46 l0 qa).f1) == ((rd_T46 l1 qa).f1)) = false := beq_eq_false_iff_ne.mpr c8;have c8b1 : (((rd_T46 l0 qa).f1) != ((rd_T46 l1 qa).f1)) = true := bne_iff_ne.mpr c8;obtain rfl := Option.some.inj H;have p230 : 0 ≤ (qa : Int) := of_decide_eq_true (by first | (with_reducible assumption) | assumption);have q230 : qa < (l0.length : Int) := of_decide_eq_true (by first | (with_reducible assumption) | assumption);obtain ⟨qb, e230, qc, qd⟩ := at_T46 qn.out qa p230 q230;cases e230;replace p230 := eq_true p230;replace q230 := eq_true q230;have p231 : 0 ≤ (qa : Int) := of_decide_eq_true (by first | (with_reducible assumption) | assumption);have q231 : qa < (l1.length : Int) := of_decide_eq_true (by first | (with_reducible assumption) | assumption);obtain ⟨qe, e231, qf, qg⟩ := at_T46 qp.out qa p231 q231;cases e231;replace p231 := eq_true p231;replace q231 := eq_true q231;have p232 : 0 ≤ (qa : Int) := of_decide_eq_true (by first | (with_reducible assumption) | assumption);have q232 : qa < (l0.length : Int) := of_decide_eq_true (by first | (with_reducible assumption) | assumption);obtain ⟨qh, e232, qj, qk⟩ := at_T46 qn.out qa p232 q232
         obtain rfl : qb = qh := (by injection e232)
         replace p232 := eq_true p232;replace q232 := eq_true q232;have p233 : 0 ≤ (qa : Int) := of_decide_eq_true (by first | (with_reducible assumption) | assumption);have q233 : qa < (l1.length : Int) := of_decide_eq_true (by first | (with_reducible assumption) | assumption);obtain ⟨qi, e233, ql, qm⟩ := at_T46 qp.out qa p233 q233
         obtain rfl : qe = qi := (by injection e233)
         replace p233 := eq_true p233;replace q233 := eq_true q233;go_wp2
         repeat (go_quiet (fail); try go_wp2)
         go_ret;exact ⟨by first | rfl | (simp; done) | (simp [*]; done), by repeat (first | exact Drawn0.refl _ | apply Drawn0.step)⟩
       ·rw [if_neg c7] at H;have c7b0 : (((rd_T46 l0 qa).f0).toList == ((rd_T46 l1 qa).f0).toList) = false := beq_eq_false_iff_ne.mpr c7;have c7b1 : (((rd_T46 l0 qa).f0).toList != ((rd_T46 l1 qa).f0).toList) = true := bne_iff_ne.mpr c7;obtain rfl := Option.some.inj H;have p230 : 0 ≤ (qa : Int) := of_decide_eq_true (by first | (with_reducible assumption) | assumption);have q230 : qa < (l0.length : Int) := of_decide_eq_true (by first | (with_reducible assumption) | assumption);obtain ⟨qb, e230, qc, qd⟩ := at_T46 qn.out qa p230 q230;cases e230;replace p230 := eq_true p230;replace q230 := eq_true q230;have p231 : 0 ≤ (qa : Int) := of_decide_eq_true (by first | (with_reducible assumption) | assumption);have q231 : qa < (l1.length : Int) := of_decide_eq_true (by first | (with_reducible assumption) | assumption);obtain ⟨qe, e231, qf, qg⟩ := at_T46 qp.out qa p231 q231;cases e231;replace p231 := eq_true p231;replace q231 := eq_true q231;go_wp2
        repeat (go_quiet (fail); try go_wp2)
        go_ret;exact ⟨by first | rfl | (simp; done) | (simp [*]; done), by repeat (first | exact Drawn0.refl _ | apply Drawn0.step)⟩
      ·rw [if_neg c6] at H;exact absurd H (by simp)
     ·rw [if_neg c5] at H;exact absurd H (by simp)
    ·rw [if_neg c4] at H;have c4b0 : decide (qa < (l0.length : Int)) = false := decide_eq_false c4;clear c4;obtain rfl := Option.some.inj H;go_wp2
     repeat (go_quiet (fail); try go_wp2)
     go_ret;exact ⟨by first | rfl | (simp; done) | (simp [*]; done), by repeat (first | exact Drawn0.refl _ | apply Drawn0.step)⟩
 ·rw [if_neg c3] at H;have c3b0 : ((l0.length : Int) == (l1.length : Int)) = false := beq_eq_false_iff_ne.mpr c3;have c3b1 : ((l0.length : Int) != (l1.length : Int)) = true := bne_iff_ne.mpr c3
  have c3b2 : (l0.length == l1.length) = false := by first | simpa using c3 | (simp at c3 ⊢; omega)
  obtain rfl := Option.some.inj H;go_enter Tryd.func18, Tryd.ntmps18;go_wp2
  repeat (go_quiet (fail); try go_wp2)
  go_ret;exact ⟨by first | rfl | (simp; done) | (simp [*]; done), by repeat (first | exact Drawn0.refl _ | apply Drawn0.step)⟩
def resv_Key.l0 : Nat → ByteArray → List (S53) → Int → Int → Option (Int)
 | 0, _, _, _, _ => none
 | k + 1, x1, x8, x9, x10 => if x10 < x9 then (if 0 ≤ x10 then (if x10 < (x8.length : Int) then (if ((rd_T53 x8 x10).f0).toList = x1.toList then (some ((rd_T53 x8 x10).f1)) else (resv_Key.l0 k x1 x8 x9 (wrap64 (x10 + 1)))) else (none)) else (none)) else (some 0)
def resv_Key.f (k : Nat) (l0_0 : List (S53)) (a0_1 : Int) (a0_2 : ByteArray) (a0_3 : Int) (a0_4 : Bool) (a1 : ByteArray) : Option (Int) := resv_Key.l0 k a1 l0_0 (l0_0.length : Int) 0
theorem resv_Key.mono_l : ∀ k, (∀ y0 y1 y2 y3, LeO (resv_Key.l0 k y0 y1 y2 y3) (resv_Key.l0 (k + 1) y0 y1 y2 y3))
 | 0 => fun _ _ _ _ r h => by simp [resv_Key.l0] at h
 | k + 1 => by
  have ih0 := resv_Key.mono_l k
  ·intro y0 y1 y2 y3
   unfold resv_Key.l0
   repeat' first
   | (with_reducible exact ih0 _ _ _ _)
   | (with_reducible exact LeO.refl _)
   | (with_reducible exact LeO.none _)
   | (with_reducible refine LeO.ite ?_ ?_)
   | (with_reducible refine LeO.bind ?_ (fun _ => ?_))
   | exact ih0 _ _ _ _
   | exact LeO.none _
   | refine LeO.ite ?_ ?_
   | refine LeO.bind ?_ (fun _ => ?_)
theorem resv_Key.mono : ∀ a0 a1 a2 a3 a4 a5 k, LeO (resv_Key.f k a0 a1 a2 a3 a4 a5) (resv_Key.f (k + 1) a0 a1 a2 a3 a4 a5) := by
 intro a0 a1 a2 a3 a4 a5 k;have ih0 := resv_Key.mono_l k;unfold resv_Key.f
 repeat' first
   | (with_reducible exact ih0 _ _ _ _)
   | (with_reducible exact LeO.refl _)
   | (with_reducible exact LeO.none _)
   | (with_reducible refine LeO.ite ?_ ?_)
   | (with_reducible refine LeO.bind ?_ (fun _ => ?_))
   | exact ih0 _ _ _ _
   | exact LeO.none _
   | refine LeO.ite ?_ ?_
   | refine LeO.bind ?_ (fun _ => ?_)
theorem resv_Key.calls (k : Nat) (qr : Option Addr) (qk : Nat) (qc : List (S53)) (ql : Int) (qm : ByteArray) (qn : Int) (qp : Bool) (a1 : ByteArray) (r : Int) (w : World) (hr0_0 : Kd.C k53 w qr qc.length qc) (qs : qc.length ≤ qk) (h : resv_Key.f k qc ql qm qn qp a1 = some r) :
  Calls Tryd.prog 24 #[.agg #[.slice qr qc.length qk, .int .i64 ql, .string qm, .int .u32 qn, .bool qp], .string a1] w fun e w' => e = .returned (.int .u64 r) ∧ Below w.heap.size w w' := by
 have hu27 := Tryd.underlying27;have hu53 := Tryd.underlying53;have qt := aS_ hr0_0;have HC0_0 := aS_ qs;clear hr0_0 qs;have HB := aS_ (Below.refl w.heap.size w);have H : (resv_Key.l0 k a1 qc (qc.length : Int) 0) = some r := h;clear h;have H' := aS_ H;clear H;go_enter Tryd.func24, Tryd.ntmps24
 go_wp2_with (first | ((with_reducible refine gate_dst (N := 2) rfl ?_); refine bX_ (N := 2) (cs := #[.slice qr qc.length qk, .int .i64 ql, .string qm, .int .u32 qn, .bool qp]) (t := 27) ?hr ?_; (case hr => first | (go_simp; done) | (go_simp; rfl)); intro qd hg w3 hbox hb; have n0_ := aS_ (below_step (hb_ HB) hb); have n1_ := aS_ (hbox); have n2_ := aS_ ((by rw [hg]; exact (below_size (hb_ HB)) : w.heap.size ≤ qd)); have n3_ := aS_ ((by rw [hg]; exact (below_size (hb_ HB)) : w.heap.size ≤ qd)); clear HB; have HB := n0_; have qb := n1_; have GW253 := n2_; have qu := n3_; clear n0_ n1_ n2_ n3_; clear hb hbox hg; have qw : w3.cell? ⟨qd, 0, none⟩ = some (.slice qr qc.length qk) := bC_ qb.out 0 rfl; have qx : w3.cell? ⟨qd, 1, none⟩ = some (.int .i64 ql) := bC_ qb.out 1 rfl; have qy : w3.cell? ⟨qd, 2, none⟩ = some (.string qm) := bC_ qb.out 2 rfl; have qz : w3.cell? ⟨qd, 3, none⟩ = some (.int .u32 qn) := bC_ qb.out 3 rfl; have q0 : w3.cell? ⟨qd, 4, none⟩ = some (.bool qp) := bC_ qb.out 4 rfl; have q1 := bF_ qb.out))
 go_loopg [10] k (fun kq v10 w' => ∃ (qa : Int), v10 = .int .i64 qa ∧ Aside0 (resv_Key.l0 kq a1 qc (qc.length : Int) qa = some r) ∧ Aside0 (kq ≤ k) ∧ Aside0 (w'.heap[qd]? = some (.cells #[(.slice qr qc.length qk), .int .i64 ql, .string qm, .int .u32 qn, .bool qp] 27 (0, 0))) ∧ Aside0 (Below w.heap.size w w'))
 case atStart => exact ⟨(0), (by first | rfl | (simp; done) | (simp [*]; done)), H', ⟨Nat.le_refl _⟩, ⟨bk_ qb⟩, ⟨hb_ HB⟩⟩
 case round =>
  clear H'
  try clear c2
  try clear p2
  try clear qw
  try clear qx
  try clear qy
  try clear qz
  try clear q0
  try clear q1
  obtain ⟨qa, rfl, HA, HK1, qb, HB⟩ := hrel
  cases gk with
  | zero => exact absurd HA.out (by simp [resv_Key.l0])
  | succ k1 =>
   have H := HA.out;clear HA;simp only [resv_Key.l0] at H;refine neg_first (p := (qa < (qc.length : Int))) (fun c5 => ?_) (fun c5 => ?_)
   ·rw [if_neg c5] at H;have c5b0 : decide (qa < (qc.length : Int)) = false := decide_eq_false c5;clear c5;obtain rfl := Option.some.inj H;go_wp2;go_ret;exact ⟨by first | rfl | (simp [errW_none, errW_some] <;> rfl) | (simp [*, errW_none, errW_some] <;> rfl) | (simp [bt, *]; done) | (unfold bt; simp [*]; done), by repeat (first | (with_reducible first | exact HB.out | apply below_alloc | apply pw_below_drewN | apply below_drew1 | refine below_set ?_ qu.out) | exact HB.out)⟩
   rw [if_pos c5] at H;have c5b0 : decide (qa < (qc.length : Int)) = true := decide_eq_true c5;clear c5;refine neg_first (p := (0 ≤ qa)) (fun c6 => ?_) (fun c6 => ?_)
   ·rw [if_neg c6] at H;exact absurd H (by simp)
   rw [if_pos c6] at H;have c6b0 : decide (0 ≤ qa) = true := decide_eq_true c6;clear c6;refine neg_first (p := (qa < (qc.length : Int))) (fun c7 => ?_) (fun c7 => ?_)
   ·rw [if_neg c7] at H;exact absurd H (by simp)
   rw [if_pos c7] at H;have c7b0 : decide (qa < (qc.length : Int)) = true := decide_eq_true c7;clear c7;refine neg_first (p := (((rd_T53 qc qa).f0).toList = a1.toList)) (fun c8 => ?_) (fun c8 => ?_)
   ·rw [if_neg c8] at H;have c8b0 : (((rd_T53 qc qa).f0).toList == a1.toList) = false := beq_eq_false_iff_ne.mpr c8;have c8b1 : (((rd_T53 qc qa).f0).toList != a1.toList) = true := bne_iff_ne.mpr c8;have H' := aS_ H;clear H;have p254 : 0 ≤ (qa : Int) := of_decide_eq_true (by first | (with_reducible assumption) | assumption);have q254 : qa < (qc.length : Int) := of_decide_eq_true (by first | (with_reducible assumption) | assumption);obtain ⟨qq, e254, qg, qh⟩ := at_T53 qt.out qa p254 q254;cases e254;replace qg := cB_ HB.out qg;replace qh := cB_ HB.out qh;replace p254 := eq_true p254;replace q254 := eq_true q254
    go_wp2_with (first | ((with_reducible refine gate_dst (N := 6) rfl ?_); refine bX_ (N := 6) (cs := #[.string (⟨#[]⟩ : ByteArray), .int .u64 0]) (t := 53) ?hr ?_; (case hr => first | (go_simp; done) | (go_simp; rfl)); intro qe hg w12 hbox hb; have n0_ := aS_ (blk_below (bk_ qb) hb); have n1_ := aS_ (below_step (hb_ HB) hb); have n2_ := aS_ (hbox); have n3_ := aS_ ((by rw [hg]; exact (below_size (hb_ HB)) : w.heap.size ≤ qe)); have n4_ := aS_ ((by rw [hg]; exact (below_size (hb_ HB)) : w.heap.size ≤ qe)); have n5_ := aS_ ((by rw [hg]; exact Nat.ne_of_lt (blk_lt (g := qd) (o := .cells #[.slice (some qq) qc.length qk, .int .i64 ql, .string qm, .int .u32 qn, .bool qp] 27 (0, 0)) (bk_ qb)) : qd ≠ qe)); have n6_ := aS_ ((by rw [hg]; exact Nat.ne_of_gt (blk_lt (g := qd) (o := .cells #[.slice (some qq) qc.length qk, .int .i64 ql, .string qm, .int .u32 qn, .bool qp] 27 (0, 0)) (bk_ qb)) : qe ≠ qd)); clear qb; clear HB; have qb := n0_; have HB := n1_; have qj := n2_; have q2 := n3_; have qv := n4_; have qf := n5_; have qi := n6_; clear n0_ n1_ n2_ n3_ n4_ n5_ n6_; clear hb hbox hg; have hnb13 := qi.out; have hnc13 := qf.out; have hcz14_0 : w12.cell? ⟨qe, 0, none⟩ = some (.string (⟨#[]⟩ : ByteArray)) := bC_ qj.out 0 rfl; have hcz14_1 : w12.cell? ⟨qe, 1, none⟩ = some (.int .u64 0) := bC_ qj.out 1 rfl; have hfz14_0 := bF_ qj.out))
    go_roundg k1
    case measure => have := HK1.out; omega
    case rel => exact ⟨(wrap64 (qa + 1)), (by first | rfl | (simp; done) | (simp [*]; done)), H', ⟨by have := HK1.out; omega⟩, ⟨by (with_reducible repeat (first | refine blk_drewN ?_ _ | refine blk_drew ?_ | refine blk_alloc ?_ _ | refine blk_far ?_ qf.out _)); exact qb.out⟩, ⟨hb_ HB⟩⟩
   rw [if_pos c8] at H;have c8b0 : (((rd_T53 qc qa).f0).toList == a1.toList) = true := beq_iff_eq.mpr c8;have c8b1 : (((rd_T53 qc qa).f0).toList != a1.toList) = false := bne_eq_false_iff_eq.mpr c8;clear c8;obtain rfl := Option.some.inj H;have p254 : 0 ≤ (qa : Int) := of_decide_eq_true (by first | (with_reducible assumption) | assumption);have q254 : qa < (qc.length : Int) := of_decide_eq_true (by first | (with_reducible assumption) | assumption);obtain ⟨qq, e254, qg, qh⟩ := at_T53 qt.out qa p254 q254;cases e254;replace qg := cB_ HB.out qg;replace qh := cB_ HB.out qh;replace p254 := eq_true p254;replace q254 := eq_true q254
   go_wp2_with (first | ((with_reducible refine gate_dst (N := 6) rfl ?_); refine bX_ (N := 6) (cs := #[.string (⟨#[]⟩ : ByteArray), .int .u64 0]) (t := 53) ?hr ?_; (case hr => first | (go_simp; done) | (go_simp; rfl)); intro qe hg w9 hbox hb; have n0_ := aS_ (blk_below (bk_ qb) hb); have n1_ := aS_ (below_step (hb_ HB) hb); have n2_ := aS_ (hbox); have n3_ := aS_ ((by rw [hg]; exact (below_size (hb_ HB)) : w.heap.size ≤ qe)); have n4_ := aS_ ((by rw [hg]; exact (below_size (hb_ HB)) : w.heap.size ≤ qe)); have n5_ := aS_ ((by rw [hg]; exact Nat.ne_of_lt (blk_lt (g := qd) (o := .cells #[.slice (some qq) qc.length qk, .int .i64 ql, .string qm, .int .u32 qn, .bool qp] 27 (0, 0)) (bk_ qb)) : qd ≠ qe)); have n6_ := aS_ ((by rw [hg]; exact Nat.ne_of_gt (blk_lt (g := qd) (o := .cells #[.slice (some qq) qc.length qk, .int .i64 ql, .string qm, .int .u32 qn, .bool qp] 27 (0, 0)) (bk_ qb)) : qe ≠ qd)); clear qb; clear HB; have qb := n0_; have HB := n1_; have qj := n2_; have q2 := n3_; have qv := n4_; have qf := n5_; have qi := n6_; clear n0_ n1_ n2_ n3_ n4_ n5_ n6_; clear hb hbox hg; have hnb10 := qi.out; have hnc10 := qf.out; have hcz11_0 : w9.cell? ⟨qe, 0, none⟩ = some (.string (⟨#[]⟩ : ByteArray)) := bC_ qj.out 0 rfl; have hcz11_1 : w9.cell? ⟨qe, 1, none⟩ = some (.int .u64 0) := bC_ qj.out 1 rfl; have hfz11_0 := bF_ qj.out))
   go_ret;exact ⟨by first | rfl | (simp [errW_none, errW_some] <;> rfl) | (simp [*, errW_none, errW_some] <;> rfl) | (simp [bt, *]; done) | (unfold bt; simp [*]; done), by repeat (first | (with_reducible first | exact HB.out | apply below_alloc | apply pw_below_drewN | apply below_drew1 | refine below_set ?_ qu.out | refine below_set ?_ qv.out) | exact HB.out)⟩
end Go.Proofs.YtjogkfcjlljjcaaDoor.P
namespace Go.Proofs.YtjogkfcjlljjcaaDoor.P
open Go.RowKit Go.Proofs.YtjogkfcjlljjcaaDoorW.PrintWords Go.Proofs.YtjogkfcjlljjcaaDoorW.PrintLast Go.Proofs.YtjogkfcjlljjcaaDoorW.PrintMore
attribute [local go_sem] max2_int min2_int max_two min_two max_three min_three max_four min_four   -- for this text's walks alone
set_option linter.unusedVariables false
set_option linter.unusedSimpArgs false
set_option linter.unnecessarySimpa false
def access_registered.l0 : Nat → ByteArray → List (S53) → Int → Int → Option (Bool)
 | 0, _, _, _, _ => none
 | k + 1, x1, x8, x9, x10 => if x10 < x9 then (if 0 ≤ x10 then (if x10 < (x8.length : Int) then (if ((rd_T53 x8 x10).f0).toList = x1.toList then (some true) else (access_registered.l0 k x1 x8 x9 (wrap64 (x10 + 1)))) else (none)) else (none)) else (some false)
def access_registered.f (k : Nat) (l0_0 : List (S53)) (a0_1 : Int) (a0_2 : ByteArray) (a0_3 : Int) (a0_4 : Bool) (a1 : ByteArray) : Option (Bool) := access_registered.l0 k a1 l0_0 (l0_0.length : Int) 0
theorem access_registered.mono_l : ∀ k, (∀ y0 y1 y2 y3, LeO (access_registered.l0 k y0 y1 y2 y3) (access_registered.l0 (k + 1) y0 y1 y2 y3))
 | 0 => fun _ _ _ _ r h => by simp [access_registered.l0] at h
 | k + 1 => by
  have ih0 := access_registered.mono_l k
  ·intro y0 y1 y2 y3
   unfold access_registered.l0
   repeat' first
   | (with_reducible exact ih0 _ _ _ _)
   | (with_reducible exact LeO.refl _)
   | (with_reducible exact LeO.none _)
   | (with_reducible refine LeO.ite ?_ ?_)
   | (with_reducible refine LeO.bind ?_ (fun _ => ?_))
   | exact ih0 _ _ _ _
   | exact LeO.none _
   | refine LeO.ite ?_ ?_
   | refine LeO.bind ?_ (fun _ => ?_)
theorem access_registered.mono : ∀ a0 a1 a2 a3 a4 a5 k, LeO (access_registered.f k a0 a1 a2 a3 a4 a5) (access_registered.f (k + 1) a0 a1 a2 a3 a4 a5) := by
 intro a0 a1 a2 a3 a4 a5 k;have ih0 := access_registered.mono_l k;unfold access_registered.f
 repeat' first
   | (with_reducible exact ih0 _ _ _ _)
   | (with_reducible exact LeO.refl _)
   | (with_reducible exact LeO.none _)
   | (with_reducible refine LeO.ite ?_ ?_)
   | (with_reducible refine LeO.bind ?_ (fun _ => ?_))
   | exact ih0 _ _ _ _
   | exact LeO.none _
   | refine LeO.ite ?_ ?_
   | refine LeO.bind ?_ (fun _ => ?_)
theorem access_registered.calls (k : Nat) (qr : Option Addr) (qk : Nat) (qc : List (S53)) (ql : Int) (qm : ByteArray) (qn : Int) (qp : Bool) (a1 : ByteArray) (r : Bool) (w : World) (hr0_0 : Kd.C k53 w qr qc.length qc) (qs : qc.length ≤ qk) (h : access_registered.f k qc ql qm qn qp a1 = some r) :
  Calls Tryd.prog 51 #[.agg #[.slice qr qc.length qk, .int .i64 ql, .string qm, .int .u32 qn, .bool qp], .string a1] w fun e w' => e = .returned (.bool r) ∧ Below w.heap.size w w' := by
 have hu27 := Tryd.underlying27;have hu53 := Tryd.underlying53;have qt := aS_ hr0_0;have HC0_0 := aS_ qs;clear hr0_0 qs;have HB := aS_ (Below.refl w.heap.size w);have H : (access_registered.l0 k a1 qc (qc.length : Int) 0) = some r := h;clear h;have H' := aS_ H;clear H;go_enter Tryd.func51, Tryd.ntmps51
 go_wp2_with (first | ((with_reducible refine gate_dst (N := 2) rfl ?_); refine bX_ (N := 2) (cs := #[.slice qr qc.length qk, .int .i64 ql, .string qm, .int .u32 qn, .bool qp]) (t := 27) ?hr ?_; (case hr => first | (go_simp; done) | (go_simp; rfl)); intro qd hg w3 hbox hb; have n0_ := aS_ (below_step (hb_ HB) hb); have n1_ := aS_ (hbox); have n2_ := aS_ ((by rw [hg]; exact (below_size (hb_ HB)) : w.heap.size ≤ qd)); have n3_ := aS_ ((by rw [hg]; exact (below_size (hb_ HB)) : w.heap.size ≤ qd)); clear HB; have HB := n0_; have qb := n1_; have GW274 := n2_; have qu := n3_; clear n0_ n1_ n2_ n3_; clear hb hbox hg; have qw : w3.cell? ⟨qd, 0, none⟩ = some (.slice qr qc.length qk) := bC_ qb.out 0 rfl; have qx : w3.cell? ⟨qd, 1, none⟩ = some (.int .i64 ql) := bC_ qb.out 1 rfl; have qy : w3.cell? ⟨qd, 2, none⟩ = some (.string qm) := bC_ qb.out 2 rfl; have qz : w3.cell? ⟨qd, 3, none⟩ = some (.int .u32 qn) := bC_ qb.out 3 rfl; have q0 : w3.cell? ⟨qd, 4, none⟩ = some (.bool qp) := bC_ qb.out 4 rfl; have q1 := bF_ qb.out))
 go_loopg [10] k (fun kq v10 w' => ∃ (qa : Int), v10 = .int .i64 qa ∧ Aside0 (access_registered.l0 kq a1 qc (qc.length : Int) qa = some r) ∧ Aside0 (kq ≤ k) ∧ Aside0 (w'.heap[qd]? = some (.cells #[(.slice qr qc.length qk), .int .i64 ql, .string qm, .int .u32 qn, .bool qp] 27 (0, 0))) ∧ Aside0 (Below w.heap.size w w'))
 case atStart => exact ⟨(0), (by first | rfl | (simp; done) | (simp [*]; done)), H', ⟨Nat.le_refl _⟩, ⟨bk_ qb⟩, ⟨hb_ HB⟩⟩
 case round =>
  clear H'
  try clear p2
  try clear qw
  try clear qx
  try clear qy
  try clear qz
  try clear q0
  try clear q1
  obtain ⟨qa, rfl, HA, HK1, qb, HB⟩ := hrel
  cases gk with
  | zero => exact absurd HA.out (by simp [access_registered.l0])
  | succ k1 =>
   have H := HA.out;clear HA;simp only [access_registered.l0] at H;refine neg_first (p := (qa < (qc.length : Int))) (fun c5 => ?_) (fun c5 => ?_)
   ·rw [if_neg c5] at H;have c5b0 : decide (qa < (qc.length : Int)) = false := decide_eq_false c5;clear c5;obtain rfl := Option.some.inj H;go_wp2;go_ret;exact ⟨by first | rfl | (simp [errW_none, errW_some] <;> rfl) | (simp [*, errW_none, errW_some] <;> rfl) | (simp [bt, *]; done) | (unfold bt; simp [*]; done), by repeat (first | (with_reducible first | exact HB.out | apply below_alloc | apply pw_below_drewN | apply below_drew1 | refine below_set ?_ qu.out) | exact HB.out)⟩
   rw [if_pos c5] at H;have c5b0 : decide (qa < (qc.length : Int)) = true := decide_eq_true c5;clear c5;refine neg_first (p := (0 ≤ qa)) (fun c6 => ?_) (fun c6 => ?_)
   ·rw [if_neg c6] at H;exact absurd H (by simp)
   rw [if_pos c6] at H;have c6b0 : decide (0 ≤ qa) = true := decide_eq_true c6;clear c6;refine neg_first (p := (qa < (qc.length : Int))) (fun c7 => ?_) (fun c7 => ?_)
   ·rw [if_neg c7] at H;exact absurd H (by simp)
   rw [if_pos c7] at H;have c7b0 : decide (qa < (qc.length : Int)) = true := decide_eq_true c7;clear c7;refine neg_first (p := (((rd_T53 qc qa).f0).toList = a1.toList)) (fun c8 => ?_) (fun c8 => ?_)
   ·rw [if_neg c8] at H;have c8b0 : (((rd_T53 qc qa).f0).toList == a1.toList) = false := beq_eq_false_iff_ne.mpr c8;have c8b1 : (((rd_T53 qc qa).f0).toList != a1.toList) = true := bne_iff_ne.mpr c8;have H' := aS_ H;clear H;have p275 : 0 ≤ (qa : Int) := of_decide_eq_true (by first | (with_reducible assumption) | assumption);have q275 : qa < (qc.length : Int) := of_decide_eq_true (by first | (with_reducible assumption) | assumption);obtain ⟨qq, e275, qg, qh⟩ := at_T53 qt.out qa p275 q275;cases e275;replace qg := cB_ HB.out qg;replace qh := cB_ HB.out qh;replace p275 := eq_true p275;replace q275 := eq_true q275
    go_wp2_with (first | ((with_reducible refine gate_dst (N := 6) rfl ?_); refine bX_ (N := 6) (cs := #[.string (⟨#[]⟩ : ByteArray), .int .u64 0]) (t := 53) ?hr ?_; (case hr => first | (go_simp; done) | (go_simp; rfl)); intro qe hg w12 hbox hb; have n0_ := aS_ (blk_below (bk_ qb) hb); have n1_ := aS_ (below_step (hb_ HB) hb); have n2_ := aS_ (hbox); have n3_ := aS_ ((by rw [hg]; exact (below_size (hb_ HB)) : w.heap.size ≤ qe)); have n4_ := aS_ ((by rw [hg]; exact (below_size (hb_ HB)) : w.heap.size ≤ qe)); have n5_ := aS_ ((by rw [hg]; exact Nat.ne_of_lt (blk_lt (g := qd) (o := .cells #[.slice (some qq) qc.length qk, .int .i64 ql, .string qm, .int .u32 qn, .bool qp] 27 (0, 0)) (bk_ qb)) : qd ≠ qe)); have n6_ := aS_ ((by rw [hg]; exact Nat.ne_of_gt (blk_lt (g := qd) (o := .cells #[.slice (some qq) qc.length qk, .int .i64 ql, .string qm, .int .u32 qn, .bool qp] 27 (0, 0)) (bk_ qb)) : qe ≠ qd)); clear qb; clear HB; have qb := n0_; have HB := n1_; have qj := n2_; have q2 := n3_; have qv := n4_; have qf := n5_; have qi := n6_; clear n0_ n1_ n2_ n3_ n4_ n5_ n6_; clear hb hbox hg; have hnb13 := qi.out; have hnc13 := qf.out; have hcz14_0 : w12.cell? ⟨qe, 0, none⟩ = some (.string (⟨#[]⟩ : ByteArray)) := bC_ qj.out 0 rfl; have hcz14_1 : w12.cell? ⟨qe, 1, none⟩ = some (.int .u64 0) := bC_ qj.out 1 rfl; have hfz14_0 := bF_ qj.out))
    go_roundg k1
    case measure => have := HK1.out; omega
    case rel => exact ⟨(wrap64 (qa + 1)), (by first | rfl | (simp; done) | (simp [*]; done)), H', ⟨by have := HK1.out; omega⟩, ⟨by (with_reducible repeat (first | refine blk_drewN ?_ _ | refine blk_drew ?_ | refine blk_alloc ?_ _ | refine blk_far ?_ qf.out _)); exact qb.out⟩, ⟨hb_ HB⟩⟩
   rw [if_pos c8] at H;have c8b0 : (((rd_T53 qc qa).f0).toList == a1.toList) = true := beq_iff_eq.mpr c8;have c8b1 : (((rd_T53 qc qa).f0).toList != a1.toList) = false := bne_eq_false_iff_eq.mpr c8;clear c8;obtain rfl := Option.some.inj H;have p275 : 0 ≤ (qa : Int) := of_decide_eq_true (by first | (with_reducible assumption) | assumption);have q275 : qa < (qc.length : Int) := of_decide_eq_true (by first | (with_reducible assumption) | assumption);obtain ⟨qq, e275, qg, qh⟩ := at_T53 qt.out qa p275 q275;cases e275;replace qg := cB_ HB.out qg;replace qh := cB_ HB.out qh;replace p275 := eq_true p275;replace q275 := eq_true q275
   go_wp2_with (first | ((with_reducible refine gate_dst (N := 6) rfl ?_); refine bX_ (N := 6) (cs := #[.string (⟨#[]⟩ : ByteArray), .int .u64 0]) (t := 53) ?hr ?_; (case hr => first | (go_simp; done) | (go_simp; rfl)); intro qe hg w9 hbox hb; have n0_ := aS_ (blk_below (bk_ qb) hb); have n1_ := aS_ (below_step (hb_ HB) hb); have n2_ := aS_ (hbox); have n3_ := aS_ ((by rw [hg]; exact (below_size (hb_ HB)) : w.heap.size ≤ qe)); have n4_ := aS_ ((by rw [hg]; exact (below_size (hb_ HB)) : w.heap.size ≤ qe)); have n5_ := aS_ ((by rw [hg]; exact Nat.ne_of_lt (blk_lt (g := qd) (o := .cells #[.slice (some qq) qc.length qk, .int .i64 ql, .string qm, .int .u32 qn, .bool qp] 27 (0, 0)) (bk_ qb)) : qd ≠ qe)); have n6_ := aS_ ((by rw [hg]; exact Nat.ne_of_gt (blk_lt (g := qd) (o := .cells #[.slice (some qq) qc.length qk, .int .i64 ql, .string qm, .int .u32 qn, .bool qp] 27 (0, 0)) (bk_ qb)) : qe ≠ qd)); clear qb; clear HB; have qb := n0_; have HB := n1_; have qj := n2_; have q2 := n3_; have qv := n4_; have qf := n5_; have qi := n6_; clear n0_ n1_ n2_ n3_ n4_ n5_ n6_; clear hb hbox hg; have hnb10 := qi.out; have hnc10 := qf.out; have hcz11_0 : w9.cell? ⟨qe, 0, none⟩ = some (.string (⟨#[]⟩ : ByteArray)) := bC_ qj.out 0 rfl; have hcz11_1 : w9.cell? ⟨qe, 1, none⟩ = some (.int .u64 0) := bC_ qj.out 1 rfl; have hfz11_0 := bF_ qj.out))
   go_ret;exact ⟨by first | rfl | (simp [errW_none, errW_some] <;> rfl) | (simp [*, errW_none, errW_some] <;> rfl) | (simp [bt, *]; done) | (unfold bt; simp [*]; done), by repeat (first | (with_reducible first | exact HB.out | apply below_alloc | apply pw_below_drewN | apply below_drew1 | refine below_set ?_ qu.out | refine below_set ?_ qv.out) | exact HB.out)⟩
def access_Holds.f (k : Nat) (l0_0 : List (S53)) (a0_1 : Int) (a0_2 : ByteArray) (a0_3 : Int) (a0_4 : Bool) (a1 : ByteArray) : Option (Bool) := (access_Type.f a0_1).bind fun t278 => (if t278 = true then (if 0 ≤ a0_1 then (if a0_1 < 7 then (if (Go.bits .and .i64 (rd G_access_lets.tab a0_1) 8) = 0 then (some (a1.toList == a0_2.toList)) else ((access_registered.f k l0_0 a0_1 a0_2 a0_3 a0_4 a1).bind fun t280 => (some t280))) else (none)) else (none)) else (some false))
theorem access_Holds.mono : ∀ a0 a1 a2 a3 a4 a5 k, LeO (access_Holds.f k a0 a1 a2 a3 a4 a5) (access_Holds.f (k + 1) a0 a1 a2 a3 a4 a5) := by
 intro a0 a1 a2 a3 a4 a5 k;unfold access_Holds.f
 repeat' first
   | (with_reducible exact access_registered.mono _ _ _ _ _ _ _)
   | (with_reducible exact LeO.refl _)
   | (with_reducible exact LeO.none _)
   | (with_reducible refine LeO.ite ?_ ?_)
   | (with_reducible refine LeO.bind ?_ (fun _ => ?_))
   | exact access_registered.mono _ _ _ _ _ _ _
   | exact LeO.none _
   | refine LeO.ite ?_ ?_
   | refine LeO.bind ?_ (fun _ => ?_)
theorem access_Holds.calls (k : Nat) (qi : Option Addr) (qj : Nat) (qe : List (S53)) (qa : Int) (qf : ByteArray) (qg : Int) (qh : Bool) (a1 : ByteArray) (r : Bool) (w : World) (hr0_0 : Kd.C k53 w qi qe.length qe) (qm : qe.length ≤ qj) (hG : Glob w) (h : access_Holds.f k qe qa qf qg qh a1 = some r) :
  Calls Tryd.prog 29 #[.agg #[.slice qi qe.length qj, .int .i64 qa, .string qf, .int .u32 qg, .bool qh], .string a1] w fun e w' => e = .returned (.bool r) ∧ Below w.heap.size w w' := by
 have hu27 := Tryd.underlying27;have HRgl0 := aS_ (G_access_lets.reads (Glob.access_lets hG));have HG := aS_ hG;clear hG;have qp := aS_ hr0_0;have qq := aS_ qm;clear hr0_0 qm;have HB := aS_ (Below.refl w.heap.size w);have H : ((access_Type.f qa).bind fun t278 => (if t278 = true then (if 0 ≤ qa then (if qa < 7 then (if (Go.bits .and .i64 (rd G_access_lets.tab qa) 8) = 0 then (some (a1.toList == qf.toList)) else ((access_registered.f k qe qa qf qg qh a1).bind fun t280 => (some t280))) else (none)) else (none)) else (some false))) = some r := h;clear h;replace H := Option.bind_eq_some_iff.mp H;obtain ⟨t278, A30, H⟩ := H
 try dsimp only at H
 have A3 := aS_ A30;clear A30;refine neg_first (p := (t278 = true)) (fun c4 => ?_) (fun c4 => ?_)
 ·replace c4 := Bool.eq_false_iff.mpr c4;subst c4;have H1 := H;rw [if_neg (show ¬ (false = true) by decide)] at H1;clear H;have H := H1;clear H1;obtain rfl := Option.some.inj H;go_enter Tryd.func29, Tryd.ntmps29
  go_wp2_with (first | ((with_reducible refine gate_dst (N := 2) rfl ?_); refine bX_ (N := 2) (cs := #[.slice qi qe.length qj, .int .i64 qa, .string qf, .int .u32 qg, .bool qh]) (t := 27) ?hr ?_; (case hr => first | (go_simp; done) | (go_simp; rfl)); intro qb hg w14 hbox hb; have n0_ := aS_ (below_step (hb_ HB) hb); have n1_ := aS_ (hbox); have n2_ := aS_ ((by rw [hg]; exact (below_size (hb_ HB)) : w.heap.size ≤ qb)); have n3_ := aS_ ((by rw [hg]; exact (below_size (hb_ HB)) : w.heap.size ≤ qb)); clear HB; have HB := n0_; have qc := n1_; have qn := n2_; have qk := n3_; clear n0_ n1_ n2_ n3_; clear hb hbox hg; have hcz15_0 : w14.cell? ⟨qb, 0, none⟩ = some (.slice qi qe.length qj) := bC_ qc.out 0 rfl; have hcz15_1 : w14.cell? ⟨qb, 1, none⟩ = some (.int .i64 qa) := bC_ qc.out 1 rfl; have hcz15_2 : w14.cell? ⟨qb, 2, none⟩ = some (.string qf) := bC_ qc.out 2 rfl; have hcz15_3 : w14.cell? ⟨qb, 3, none⟩ = some (.int .u32 qg) := bC_ qc.out 3 rfl; have hcz15_4 : w14.cell? ⟨qb, 4, none⟩ = some (.bool qh) := bC_ qc.out 4 rfl; have hfz15_0 := bF_ qc.out) | ((with_reducible refine gate_callee (f := 45) rfl ?_); refine goesL_ (some 8) rfl rfl Tryd.func45 (by kernel_rfl) rfl #[.int .i64 qa] rfl (by (try simp only [List.map_toArray, List.map_cons, List.map_nil]); first | done | rfl | (simp only [List.length_drop, List.length_take]; rfl)) ?_; (with_reducible refine (access_Type.calls qa false _ A3.out).mono ?_); rintro e w' ⟨rfl, ⟨nd, rfl⟩⟩; refine ⟨_, rfl, ?_⟩))
  go_ret;exact ⟨by first | rfl | (simp [errW_none, errW_some] <;> rfl) | (simp [*, errW_none, errW_some] <;> rfl) | (simp [bt, *]; done) | (unfold bt; simp [*]; done), by repeat (first | (with_reducible first | exact HB.out | apply below_alloc | apply pw_below_drewN | apply below_drew1 | refine below_set ?_ qk.out) | exact HB.out)⟩
 subst c4;have H1 := H;rw [if_pos rfl] at H1;clear H;have H := H1;clear H1;refine neg_first (p := (0 ≤ qa)) (fun c5 => ?_) (fun c5 => ?_)
 ·rw [if_neg c5] at H;exact absurd H (by simp)
 rw [if_pos c5] at H;have c5b0 : decide (0 ≤ qa) = true := decide_eq_true c5;clear c5;refine neg_first (p := (qa < 7)) (fun c6 => ?_) (fun c6 => ?_)
 ·rw [if_neg c6] at H;exact absurd H (by simp)
 rw [if_pos c6] at H;have c6b0 : decide (qa < 7) = true := decide_eq_true c6;clear c6;by_cases c7 : (Go.bits .and .i64 (rd G_access_lets.tab qa) 8) = 0
 ·rw [if_pos c7] at H;have c7b0 : ((Go.bits .and .i64 (rd G_access_lets.tab qa) 8) == 0) = true := beq_iff_eq.mpr c7;have c7b1 : ((Go.bits .and .i64 (rd G_access_lets.tab qa) 8) != 0) = false := bne_eq_false_iff_eq.mpr c7;clear c7;obtain rfl := Option.some.inj H;go_enter Tryd.func29, Tryd.ntmps29
  go_wp2_with (first | ((with_reducible refine gate_dst (N := 2) rfl ?_); refine bX_ (N := 2) (cs := #[.slice qi qe.length qj, .int .i64 qa, .string qf, .int .u32 qg, .bool qh]) (t := 27) ?hr ?_; (case hr => first | (go_simp; done) | (go_simp; rfl)); intro qb hg w8 hbox hb; have n0_ := aS_ (below_step (hb_ HB) hb); have n1_ := aS_ (hbox); have n2_ := aS_ ((by rw [hg]; exact (below_size (hb_ HB)) : w.heap.size ≤ qb)); have n3_ := aS_ ((by rw [hg]; exact (below_size (hb_ HB)) : w.heap.size ≤ qb)); clear HB; have HB := n0_; have qc := n1_; have qn := n2_; have qk := n3_; clear n0_ n1_ n2_ n3_; clear hb hbox hg; have hcz9_0 : w8.cell? ⟨qb, 0, none⟩ = some (.slice qi qe.length qj) := bC_ qc.out 0 rfl; have hcz9_1 : w8.cell? ⟨qb, 1, none⟩ = some (.int .i64 qa) := bC_ qc.out 1 rfl; have hcz9_2 : w8.cell? ⟨qb, 2, none⟩ = some (.string qf) := bC_ qc.out 2 rfl; have hcz9_3 : w8.cell? ⟨qb, 3, none⟩ = some (.int .u32 qg) := bC_ qc.out 3 rfl; have hcz9_4 : w8.cell? ⟨qb, 4, none⟩ = some (.bool qh) := bC_ qc.out 4 rfl; have hfz9_0 := bF_ qc.out) | ((with_reducible refine gate_callee (f := 45) rfl ?_); refine goesL_ (some 8) rfl rfl Tryd.func45 (by kernel_rfl) rfl #[.int .i64 qa] rfl (by (try simp only [List.map_toArray, List.map_cons, List.map_nil]); first | done | rfl | (simp only [List.length_drop, List.length_take]; rfl)) ?_; (with_reducible refine (access_Type.calls qa true _ A3.out).mono ?_); rintro e w' ⟨rfl, ⟨nd, rfl⟩⟩; refine ⟨_, rfl, ?_⟩; have p279 : 0 ≤ (qa : Int) := of_decide_eq_true (by first | (with_reducible assumption) | assumption); have q279 : qa < (G_access_lets.tab.length : Int) := of_decide_eq_true (by first | (with_reducible assumption) | assumption); have qg279 : (qa < (7 : Int)) = True := eq_true q279; obtain ⟨ql, e279, qd⟩ := Kd.at_int HRgl0.out qa p279 q279; obtain rfl : (⟨0, 0, none⟩ : Addr) = ql := (by injection e279); (first | simp only [add_plain] at qd | simp only [add_at] at qd | simp only [Addr.add, Nat.zero_add] at qd | skip); replace qd := cB_ HB.out qd; replace p279 := eq_true p279; replace q279 := eq_true q279))
  go_ret;exact ⟨by first | rfl | (simp [errW_none, errW_some] <;> rfl) | (simp [*, errW_none, errW_some] <;> rfl) | (simp [bt, *]; done) | (unfold bt; simp [*]; done), by repeat (first | (with_reducible first | exact HB.out | apply below_alloc | apply pw_below_drewN | apply below_drew1 | refine below_set ?_ qk.out) | exact HB.out)⟩
 rw [if_neg c7] at H;have c7b0 : ((Go.bits .and .i64 (rd G_access_lets.tab qa) 8) == 0) = false := beq_eq_false_iff_ne.mpr c7;have c7b1 : ((Go.bits .and .i64 (rd G_access_lets.tab qa) 8) != 0) = true := bne_iff_ne.mpr c7;replace H := Option.bind_eq_some_iff.mp H;obtain ⟨t280, A100, H⟩ := H
 try dsimp only at H
 have A10 := aS_ A100;clear A100;obtain rfl := Option.some.inj H;go_enter Tryd.func29, Tryd.ntmps29
 go_wp2_with (first | ((with_reducible refine gate_dst (N := 2) rfl ?_); refine bX_ (N := 2) (cs := #[.slice qi qe.length qj, .int .i64 qa, .string qf, .int .u32 qg, .bool qh]) (t := 27) ?hr ?_; (case hr => first | (go_simp; done) | (go_simp; rfl)); intro qb hg w11 hbox hb; have n0_ := aS_ (below_step (hb_ HB) hb); have n1_ := aS_ (hbox); have n2_ := aS_ ((by rw [hg]; exact (below_size (hb_ HB)) : w.heap.size ≤ qb)); have n3_ := aS_ ((by rw [hg]; exact (below_size (hb_ HB)) : w.heap.size ≤ qb)); clear HB; have HB := n0_; have qc := n1_; have qn := n2_; have qk := n3_; clear n0_ n1_ n2_ n3_; clear hb hbox hg; have hcz12_0 : w11.cell? ⟨qb, 0, none⟩ = some (.slice qi qe.length qj) := bC_ qc.out 0 rfl; have hcz12_1 : w11.cell? ⟨qb, 1, none⟩ = some (.int .i64 qa) := bC_ qc.out 1 rfl; have hcz12_2 : w11.cell? ⟨qb, 2, none⟩ = some (.string qf) := bC_ qc.out 2 rfl; have hcz12_3 : w11.cell? ⟨qb, 3, none⟩ = some (.int .u32 qg) := bC_ qc.out 3 rfl; have hcz12_4 : w11.cell? ⟨qb, 4, none⟩ = some (.bool qh) := bC_ qc.out 4 rfl; have hfz12_0 := bF_ qc.out) | ((with_reducible refine gate_callee (f := 45) rfl ?_); refine goesL_ (some 8) rfl rfl Tryd.func45 (by kernel_rfl) rfl #[.int .i64 qa] rfl (by (try simp only [List.map_toArray, List.map_cons, List.map_nil]); first | done | rfl | (simp only [List.length_drop, List.length_take]; rfl)) ?_; (with_reducible refine (access_Type.calls qa true _ A3.out).mono ?_); rintro e w' ⟨rfl, ⟨nd, rfl⟩⟩; refine ⟨_, rfl, ?_⟩; have p279 : 0 ≤ (qa : Int) := of_decide_eq_true (by first | (with_reducible assumption) | assumption); have q279 : qa < (G_access_lets.tab.length : Int) := of_decide_eq_true (by first | (with_reducible assumption) | assumption); have qg279 : (qa < (7 : Int)) = True := eq_true q279; obtain ⟨ql, e279, qd⟩ := Kd.at_int HRgl0.out qa p279 q279; obtain rfl : (⟨0, 0, none⟩ : Addr) = ql := (by injection e279); (first | simp only [add_plain] at qd | simp only [add_at] at qd | simp only [Addr.add, Nat.zero_add] at qd | skip); replace qd := cB_ HB.out qd; replace p279 := eq_true p279; replace q279 := eq_true q279) | ((with_reducible refine gate_callee (f := 51) rfl ?_); refine goesL_ (some 19) rfl rfl Tryd.func51 (by kernel_rfl) rfl #[.agg #[.slice qi qe.length qj, .int .i64 qa, .string qf, .int .u32 qg, .bool qh], .string a1] rfl (by (try simp only [List.map_toArray, List.map_cons, List.map_nil]); first | done | rfl | (simp only [List.length_drop, List.length_take]; rfl)) ?_; (with_reducible refine (access_registered.calls k _ _ qe qa qf qg qh a1 t280 _ ?side1 ?side2 A10.out).mono ?_); (case side1 => repeat (first | exact (Kd.C_below qp.out (hb_ HB)) | (with_reducible refine Kd.C_alloc ?_ _) | (with_reducible refine Kd.C_drewN ?_ _) | (with_reducible refine Kd.C_drew ?_))); (case side2 => exact qq.out); rintro e w13 ⟨rfl, hb⟩; refine ⟨_, rfl, ?_⟩; have n0_ := aS_ (blk_below (bk_ qc) hb); have n1_ := aS_ (below_step (hb_ HB) hb); clear qc; clear HB; have qc := n0_; have HB := n1_; clear n0_ n1_; (try clear hb); (try clear hb2); (try clear hk); (try clear hi)))
 go_ret;exact ⟨by first | rfl | (simp [errW_none, errW_some] <;> rfl) | (simp [*, errW_none, errW_some] <;> rfl) | (simp [bt, *]; done) | (unfold bt; simp [*]; done), by repeat (first | (with_reducible first | exact HB.out | apply below_alloc | apply pw_below_drewN | apply below_drew1 | refine below_set ?_ qk.out) | exact HB.out)⟩
end Go.Proofs.YtjogkfcjlljjcaaDoor.P
