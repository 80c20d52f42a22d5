-- joined by this session's wip/tools/pack.py: words of the kit's print, cut to what the claim names; functions printed by a patched copy of the printer; walks and lemmas of this session; Lean checks it
import Derived.Test.YthglbmihbmneaaaGreatDoorBa1
import Derived.Maps.Own
import Derived.Maps.OwnOps
import Derived.Maps.Views
import Derived.Carry
import Derived.Lib.SliceRun
namespace Go.Proofs.YthglbmihbmneaaaGreatDoor.P
open Go.RowKit Go.Proofs.YthglbmihbmneaaaGreatDoorW.PrintWords Go.Proofs.YthglbmihbmneaaaGreatDoorW.PrintLast Go.Proofs.YthglbmihbmneaaaGreatDoorW.PrintMore
attribute [local go_sem] max2_int min2_int max_two min_two max_three min_three max_four min_four   -- for this text's walks alone
set_option linter.unusedVariables false
set_option linter.unusedSimpArgs false
set_option linter.unnecessarySimpa false
def fields_PutBig.f (k : Nat) (a0 : Int) (a1 : Int) : Option (ByteArray) := (fields_put_uint64.f k a0 a1 true).bind fun t137 => (some t137)
theorem fields_PutBig.mono : ∀ a0 a1 k, LeO (fields_PutBig.f k a0 a1) (fields_PutBig.f (k + 1) a0 a1) := by
  intro a0 a1 k
  unfold fields_PutBig.f
  repeat' first
      | (with_reducible exact fields_put_uint64.mono _ _ _ _)
      | (with_reducible exact LeO.refl _)
      | (with_reducible exact LeO.none _)
      | (with_reducible refine LeO.ite ?_ ?_)
      | (with_reducible refine LeO.bind ?_ (fun _ => ?_))
      | exact fields_put_uint64.mono _ _ _ _
      | exact LeO.none _
      | refine LeO.ite ?_ ?_
      | refine LeO.bind ?_ (fun _ => ?_)
set_option maxHeartbeats 8000000 in
set_option maxRecDepth 100000 in
theorem fields_PutBig.calls (k : Nat) (a0 : Int) (a1 : Int) (r : ByteArray) (w : World) (h : fields_PutBig.f k a0 a1 = some r) :
    Calls Tryz.prog 62 #[.int .u64 a0, .int .i64 a1] w fun e w' => e = .returned (.string r) ∧ Below w.heap.size w w' := by
  have HB := Aside0.mk (Below.refl w.heap.size w)
  have H : ((fields_put_uint64.f k a0 a1 true).bind fun t137 => (some t137)) = some r := h
  clear h
  replace H := Option.bind_eq_some_iff.mp H
  obtain ⟨t137, A30, H⟩ := H
  replace H : (some t137) = some r := H
  have A3 := Aside0.mk A30
  clear A30
  obtain rfl := Option.some.inj H
  go_enter Tryz.func62, Tryz.ntmps62
  go_wp2_with (first | ((with_reducible refine gate_callee (f := 77) rfl ?_); refine goesL_ (some 7) rfl rfl Tryz.func77 (by kernel_rfl) rfl #[.int .u64 a0, .int .i64 a1, .bool true] rfl (by (try simp only [List.map_toArray, List.map_cons, List.map_nil]); first | done | rfl | (simp only [List.length_drop, List.length_take]; rfl)) ?_; (with_reducible refine (fields_put_uint64.calls k a0 a1 true t137 _ A3.out).mono ?_); rintro e w4 ⟨rfl, hb⟩; refine ⟨_, rfl, ?_⟩; have n0_ := Aside0.mk (below_step (by repeat (first | (with_reducible first | exact HB.out | apply below_alloc | apply pw_below_drewN | apply below_drew1) | exact HB.out)) hb); clear HB; have HB := n0_; clear n0_; (try clear hb); (try clear hb2); (try clear hk); (try clear hi)))
  go_ret
  exact ⟨by first | rfl | (simp [errW_none, errW_some] <;> rfl) | (simp [*, errW_none, errW_some] <;> rfl) | (simp [bt, *]; done) | (unfold bt; simp [*]; done), by repeat (first | (with_reducible first | exact HB.out | apply below_alloc | apply pw_below_drewN | apply below_drew1) | exact HB.out)⟩
theorem ipdu_set.calls (k g : Nat) (s p t : ByteArray) (at' v n : Int) (ok : Bool) (w : World) (hb : w.heap[g]? = some (.cells #[.string s] 100 (0, 0))) (hp : fields_PutBig.f k v n = some p) (ht : fields_Set.f s at' p = some (t, ok)) :
    Calls Tryz.prog 43 #[.pointer (some ⟨g, 0, none⟩), .int .i64 at', .int .u64 v, .int .i64 n] w fun e w' => e = .returned (.tuple #[]) ∧ w'.heap[g]? = some (.cells #[.string t] 100 (0, 0)) ∧ ∀ (w0 : World) (B : Nat), B ≤ g → Below B w0 w → Below B w0 w' := by
  have hc : w.cell? ⟨g, 0, none⟩ = some (.string s) := (blk_cell hb 0).trans rfl
  have hf := blk_frozen hb 0
  go_enter Tryz.func43, Tryz.ntmps43
  go_region_with (first
    | (go_at_call 62; refine (fields_PutBig.calls k v n p _ hp).mono ?_; rintro e w1 ⟨rfl, hb1⟩; have hh1 : w1.heap[g]? = some (.cells #[.string s] 100 (0, 0)) := blk_below (by first | exact hb | exact blk_drew hb) hb1; have hc1 : w1.cell? ⟨g, 0, none⟩ = some (.string s) := (blk_cell hh1 0).trans rfl; have hf1 := blk_frozen hh1 0)
    | (go_at_call 25; refine (fields_Set.calls s at' p t ok _ ht).mono ?_; rintro e w2 ⟨rfl, ⟨nd, rfl⟩⟩))
  all_goals
    go_end0
    exact ⟨rfl, blk_put (blk_drewN hh1 _) 0 _ rfl, fun w0 B h1 h2 => (pw_below_drewN (h2.drew.trans (hb1.mono (show B ≤ w.heap.size from Nat.le_trans h1 (Nat.le_of_lt (blk_lt hb))))) _).setCell h1 _⟩
def ipdu_Head.f (k : Nat) (a0 : Int) (a1 : Bool) (a2 : Int) (a3 : Int) : Option (ByteArray) :=
  (fields_PutBig.f k (if a1 = true then (Go.bits .or .u64 (IntKind.u64.wrap (Go.bits .and .i64 a0 63)) 64) else (IntKind.u64.wrap (Go.bits .and .i64 a0 63))) 1).bind fun p0 =>
  (fields_Set.f (strOfNums (List.replicate 48 0)) 0 p0).bind fun t0 =>
  (fields_PutBig.f k (IntKind.u64.wrap (Go.bits .and .i64 a2 255)) 1).bind fun p1 =>
  (fields_Set.f t0.1 1 p1).bind fun t1 =>
  (fields_PutBig.f k (IntKind.u64.wrap a3) 4).bind fun p2 =>
  (fields_Set.f t1.1 16 p2).bind fun t2 => some t2.1
theorem ipdu_Head.mono : ∀ a0 a1 a2 a3 k, LeO (ipdu_Head.f k a0 a1 a2 a3) (ipdu_Head.f (k + 1) a0 a1 a2 a3) := by
  intro a0 a1 a2 a3 k
  unfold ipdu_Head.f
  repeat' first
      | (with_reducible exact fields_PutBig.mono _ _ _)
      | (with_reducible exact LeO.refl _)
      | (with_reducible refine LeO.bind ?_ (fun _ => ?_))
theorem ipdu_Head.calls (k : Nat) (a0 : Int) (a1 : Bool) (a2 : Int) (a3 : Int) (r : ByteArray) (w : World) (h : ipdu_Head.f k a0 a1 a2 a3 = some r) :
    Calls Tryz.prog 21 #[.int .i64 a0, .bool a1, .int .i64 a2, .int .u32 a3] w fun e w' => e = .returned (.string r) ∧ Below w.heap.size w w' := by
  unfold ipdu_Head.f at h
  obtain ⟨p0, hp0, h⟩ := Option.bind_eq_some_iff.mp h
  obtain ⟨⟨t0, o0⟩, ht0, h⟩ := Option.bind_eq_some_iff.mp h
  obtain ⟨p1, hp1, h⟩ := Option.bind_eq_some_iff.mp h
  obtain ⟨⟨t1, o1⟩, ht1, h⟩ := Option.bind_eq_some_iff.mp h
  obtain ⟨p2, hp2, h⟩ := Option.bind_eq_some_iff.mp h
  obtain ⟨⟨t2, o2⟩, ht2, h⟩ := Option.bind_eq_some_iff.mp h
  obtain rfl := Option.some.inj h
  clear h
  replace hp0 := Aside0.mk hp0
  replace ht0 := Aside0.mk ht0
  replace hp1 := Aside0.mk hp1
  replace ht1 := Aside0.mk ht1
  replace hp2 := Aside0.mk hp2
  replace ht2 := Aside0.mk ht2
  have HB := Aside0.mk (Below.refl w.heap.size w)
  have hmf : ∀ (fn : Fn) (first cap : Array Value) (w : World), (Instr.makeFunc fn first cap).run Tryz.prog w = .ok (.func fn first cap) w := fun _ _ _ _ => rfl
  obtain ⟨s0, hs0⟩ : ∃ s0, s0 = strOfNums (List.replicate 48 0) := ⟨_, rfl⟩
  rw [← hs0] at ht0
  replace hs0 := Aside0.mk hs0
  cases a1
  all_goals
    go_enter Tryz.func21, Tryz.ntmps21
    go_wp2_with (first
      | ((with_reducible refine gate_dst (N := 12) rfl ?_); refine Kd.R_make (Kd.int .u8) _ 5 rfl (N := 12) rfl 78 _ _ rfl 48 rfl rfl Tryz.underlying78 (.int .u8 0) 1 info5 rfl (by decide) (by omega) 0 (ok := fun _ => True) (okp := fun _ => True) rfl (fun _ hk => hk) trivial (by decide) (by decide) (Below.refl _ _) (Nat.le_refl _) ?_; intro v120 w11 ho12 hb hg_ hnew_; clear hg_ hnew_; have n1_ := Aside0.mk (below_step HB.out hb); clear HB; have HB := n1_; clear n1_; have hcv13 := own_string (P := Tryz.prog) Tryz.underlying78 Tryz.underlying5 Tryz.underlying9 (Kd.own_of_R ho12); simp only [Int.reduceToNat] at hcv13; rw [← hs0.out] at hcv13; clear ho12 hb)
      | ((with_reducible refine gate_dst (N := 15) rfl ?_); refine box_event ?hg (N := 15) ?hd (cs := #[.string s0]) (t := 100) ?hr ?_; (case hd => rfl); (case hg => rfl); (case hr => first | (go_simp; done) | (go_simp; rfl)); intro gb hg w8 hbox hb; have GW := Aside0.mk (show w.heap.size ≤ gb by rw [hg]; exact below_size HB.out); have n1_ := Aside0.mk (below_step HB.out hb); have BK := Aside0.mk hbox; clear HB; have HB := n1_; clear n1_ hb hbox hg)
      | (go_at_call 43; first
          | (refine (ipdu_set.calls k gb s0 p0 t0 0 _ 1 o0 _ BK.out hp0.out ht0.out).mono ?_; rintro e w1 ⟨rfl, hb1, hb2⟩; have BK1 := Aside0.mk hb1; have n1_ := Aside0.mk (hb2 _ _ GW.out HB.out); clear HB BK; have HB := n1_; clear n1_ hb1 hb2)
          | (refine (ipdu_set.calls k gb t0 p1 t1 1 _ 1 o1 _ BK1.out hp1.out ht1.out).mono ?_; rintro e w2 ⟨rfl, hb1, hb2⟩; have BK2 := Aside0.mk hb1; have n1_ := Aside0.mk (hb2 _ _ GW.out HB.out); clear HB BK1; have HB := n1_; clear n1_ hb1 hb2)
          | (refine (ipdu_set.calls k gb t1 p2 t2 16 _ 4 o2 _ BK2.out hp2.out ht2.out).mono ?_; rintro e w3 ⟨rfl, hb1, hb2⟩; have hcz : w3.cell? ⟨gb, 0, none⟩ = some (.string t2) := (blk_cell hb1 0).trans rfl; have n1_ := Aside0.mk (hb2 _ _ GW.out HB.out); clear HB BK2; have HB := n1_; clear n1_ hb1 hb2)))
    go_ret
    exact ⟨rfl, HB.out⟩
mutual
def fields_get_uint64.j0 : Nat → ByteArray → Int → Int → Bool → Bool → Option (Int × Bool)
 | 0, _, _, _, _, _ => none
 | k + 1, x0, x1, x2, x3, x30 => if x30 = true then (some (0, false)) else ((fields_shifts.f k x2 x3).bind fun t119 => (fields_get_uint64.l0 k x0 x1 0 t119 (t119.length : Int) 0))
def fields_get_uint64.l0 : Nat → ByteArray → Int → Int → List Int → Int → Int → Option (Int × Bool)
 | 0, _, _, _, _, _, _ => none
 | k + 1, x0, x1, x10, x33, x34, x35 => if x35 < x34 then (if 0 ≤ x35 then (if x35 < (x33.length : Int) then (if 0 ≤ (wrap64 (x1 + x35)) then (if (wrap64 (x1 + x35)) < (x0.size : Int) then (if 0 ≤ (rd x33 x35) then (fields_get_uint64.l0 k x0 x1 (Go.bits .or .u64 x10 (shl .u64 (IntKind.u64.wrap (bt x0 (wrap64 (x1 + x35)))) (rd x33 x35))) x33 x34 (wrap64 (x35 + 1))) else (none)) else (none)) else (none)) else (none)) else (none)) else (some (x10, true))
end
def fields_get_uint64.f (k : Nat) (a0 : ByteArray) (a1 : Int) (a2 : Int) (a3 : Bool) : Option (Int × Bool) := if a2 < 1 then (fields_get_uint64.j0 k a0 a1 a2 a3 true) else (if a2 > 8 then (fields_get_uint64.j0 k a0 a1 a2 a3 true) else (if a1 < 0 then (fields_get_uint64.j0 k a0 a1 a2 a3 true) else (fields_get_uint64.j0 k a0 a1 a2 a3 (decide (a1 > (wrap64 ((a0.size : Int) - a2)))))))
theorem fields_get_uint64.mono_l : ∀ k, (∀ y0 y1 y2 y3 y4, LeO (fields_get_uint64.j0 k y0 y1 y2 y3 y4) (fields_get_uint64.j0 (k + 1) y0 y1 y2 y3 y4)) ∧ (∀ y0 y1 y2 y3 y4 y5, LeO (fields_get_uint64.l0 k y0 y1 y2 y3 y4 y5) (fields_get_uint64.l0 (k + 1) y0 y1 y2 y3 y4 y5))
 | 0 => ⟨fun _ _ _ _ _ r h => by simp [fields_get_uint64.j0] at h, fun _ _ _ _ _ _ r h => by simp [fields_get_uint64.l0] at h⟩
 | k + 1 => by
  obtain ⟨ih0, ih1⟩ := fields_get_uint64.mono_l k
  refine ⟨?_, ?_⟩
  ·intro y0 y1 y2 y3 y4
   unfold fields_get_uint64.j0
   repeat' first
   | (with_reducible exact ih0 _ _ _ _ _)
   | (with_reducible exact ih1 _ _ _ _ _ _)
   | (with_reducible exact fields_shifts.mono _ _ _)
   | (with_reducible exact LeO.refl _)
   | (with_reducible exact LeO.none _)
   | (with_reducible refine LeO.ite ?_ ?_)
   | (with_reducible refine LeO.bind ?_ (fun _ => ?_))
   | exact ih0 _ _ _ _ _
   | exact ih1 _ _ _ _ _ _
   | exact fields_shifts.mono _ _ _
   | exact LeO.none _
   | refine LeO.ite ?_ ?_
   | refine LeO.bind ?_ (fun _ => ?_)
  ·intro y0 y1 y2 y3 y4 y5
   unfold fields_get_uint64.l0
   repeat' first
   | (with_reducible exact ih0 _ _ _ _ _)
   | (with_reducible exact ih1 _ _ _ _ _ _)
   | (with_reducible exact fields_shifts.mono _ _ _)
   | (with_reducible exact LeO.refl _)
   | (with_reducible exact LeO.none _)
   | (with_reducible refine LeO.ite ?_ ?_)
   | (with_reducible refine LeO.bind ?_ (fun _ => ?_))
   | exact ih0 _ _ _ _ _
   | exact ih1 _ _ _ _ _ _
   | exact fields_shifts.mono _ _ _
   | exact LeO.none _
   | refine LeO.ite ?_ ?_
   | refine LeO.bind ?_ (fun _ => ?_)
theorem fields_get_uint64.mono : ∀ a0 a1 a2 a3 k, LeO (fields_get_uint64.f k a0 a1 a2 a3) (fields_get_uint64.f (k + 1) a0 a1 a2 a3) := by
 intro a0 a1 a2 a3 k
 obtain ⟨ih0, ih1⟩ := fields_get_uint64.mono_l k
 unfold fields_get_uint64.f
 repeat' first
   | (with_reducible exact ih0 _ _ _ _ _)
   | (with_reducible exact ih1 _ _ _ _ _ _)
   | (with_reducible exact fields_shifts.mono _ _ _)
   | (with_reducible exact LeO.refl _)
   | (with_reducible exact LeO.none _)
   | (with_reducible refine LeO.ite ?_ ?_)
   | (with_reducible refine LeO.bind ?_ (fun _ => ?_))
   | exact ih0 _ _ _ _ _
   | exact ih1 _ _ _ _ _ _
   | exact fields_shifts.mono _ _ _
   | exact LeO.none _
   | refine LeO.ite ?_ ?_
   | refine LeO.bind ?_ (fun _ => ?_)
set_option maxHeartbeats 8000000 in
set_option maxRecDepth 100000 in
theorem fields_get_uint64.calls (k : Nat) (a0 : ByteArray) (a1 : Int) (a2 : Int) (a3 : Bool) (r1 : Int) (r2 : Bool) (w : World) (h : fields_get_uint64.f k a0 a1 a2 a3 = some (r1, r2)) :
  Calls Tryz.prog 78 #[.string a0, .int .i64 a1, .int .i64 a2, .bool a3] w fun e w' => e = .returned (.tuple #[.int .u64 r1, .bool r2]) ∧ Below w.heap.size w w' := by
 have HB := Aside0.mk (Below.refl w.heap.size w)
 have H : (if a2 < 1 then (fields_get_uint64.j0 k a0 a1 a2 a3 true) else (if a2 > 8 then (fields_get_uint64.j0 k a0 a1 a2 a3 true) else (if a1 < 0 then (fields_get_uint64.j0 k a0 a1 a2 a3 true) else (fields_get_uint64.j0 k a0 a1 a2 a3 (decide (a1 > (wrap64 ((a0.size : Int) - a2)))))))) = some (r1, r2) := h
 clear h
 have HC5 := Aside0.mk H
 clear H
 go_enter Tryz.func78, Tryz.ntmps78
 go_upto_region 1 with (fail)
 go_cut [30] (fun v30 wc => ∃ (kq : Nat) (x30_4 : Bool), v30 = .bool x30_4 ∧ Aside0 (fields_get_uint64.j0 kq a0 a1 a2 a3 x30_4 = some (r1, r2)) ∧ Aside0 (kq ≤ k) ∧ Aside0 (Below w.heap.size w wc))
 case first =>
  have H := HC5.out
  clear HC5
  by_cases c6 : a2 < 1
  ·rw [if_pos c6] at H
   have c6b0 : decide (a2 < 1) = true := decide_eq_true c6
   clear c6
   (first | rw [c6b0] | (simp only [i64_w, i32_w]; rw [c6b0]) | skip)
   have H' := Aside0.mk H
   clear H
   go_wp2
   go_meet
   case rel => exact ⟨_, (true), (by first | rfl | (simp; done) | (simp [*]; done)), H', ⟨by first | omega | exact Nat.le_refl _⟩, ⟨hb_ HB⟩⟩
  rw [if_neg c6] at H
  have c6b0 : decide (a2 < 1) = false := decide_eq_false c6
  clear c6
  (first | rw [c6b0] | (simp only [i64_w, i32_w]; rw [c6b0]) | skip)
  by_cases c7 : a2 > 8
  ·rw [if_pos c7] at H
   have c7b0 : decide (8 < a2) = true := decide_eq_true c7
   clear c7
   have H' := Aside0.mk H
   clear H
   go_wp2
   go_meet
   case rel => exact ⟨_, (true), (by first | rfl | (simp; done) | (simp [*]; done)), H', ⟨by first | omega | exact Nat.le_refl _⟩, ⟨hb_ HB⟩⟩
  rw [if_neg c7] at H
  have c7b0 : decide (8 < a2) = false := decide_eq_false c7
  clear c7
  by_cases c8 : a1 < 0
  ·rw [if_pos c8] at H
   have c8b0 : decide (a1 < 0) = true := decide_eq_true c8
   clear c8
   have H' := Aside0.mk H
   clear H
   go_wp2
   go_meet
   case rel => exact ⟨_, (true), (by first | rfl | (simp; done) | (simp [*]; done)), H', ⟨by first | omega | exact Nat.le_refl _⟩, ⟨hb_ HB⟩⟩
  rw [if_neg c8] at H
  have c8b0 : decide (a1 < 0) = false := decide_eq_false c8
  clear c8
  have H' := Aside0.mk H
  clear H
  go_wp2
  go_meet
  case rel => exact ⟨_, (decide (a1 > (wrap64 ((a0.size : Int) - a2)))), (by first | rfl | (simp; done) | (simp [*]; done)), H', ⟨by first | omega | exact Nat.le_refl _⟩, ⟨hb_ HB⟩⟩
 case rest =>
  clear HC5
  try clear p2
  try clear c6
  try clear c6b0
  try clear p6
  try clear c7
  try clear c7b0
  try clear c8
  try clear c8b0
  obtain ⟨kq, x30_4, rfl, HA, HJ4, HB⟩ := hcut
  cases kq with
  | zero => exact absurd HA.out (by simp [fields_get_uint64.j0])
  | succ kj4 =>
   have H := HA.out
   clear HA
   simp only [fields_get_uint64.j0] at H
   by_cases c9 : x30_4 = true
   ·subst c9
    have H1 := H
    rw [if_pos rfl] at H1
    clear H
    have H := H1
    clear H1
    simp only [Option.some.injEq, Prod.mk.injEq] at H
    obtain ⟨rfl, rfl⟩ := H
    go_wp2
    go_ret2
    exact ⟨by first | rfl | (simp [errW_none, errW_some] <;> rfl) | (simp [*, errW_none, errW_some] <;> rfl) | (simp [bt, *]; done) | (unfold bt; simp [*]; done), by repeat (first | (with_reducible first | exact HB.out | apply below_alloc | apply pw_below_drewN | apply below_drew1) | exact HB.out)⟩
   replace c9 := Bool.eq_false_iff.mpr c9
   subst c9
   have H1 := H
   rw [if_neg (show ¬ (false = true) by decide)] at H1
   clear H
   have H := H1
   clear H1
   replace H := Option.bind_eq_some_iff.mp H
   obtain ⟨t119, A100, H⟩ := H
   try dsimp only at H
   have A10 := Aside0.mk A100
   clear A100
   have H' := Aside0.mk H
   clear H
   go_wp2_with (first | ((with_reducible refine gate_callee (f := 101) rfl ?_); refine goesL_ (some 33) rfl rfl Tryz.func101 (by kernel_rfl) rfl #[.int .i64 a2, .bool a3] rfl (by (try simp only [List.map_toArray, List.map_cons, List.map_nil]); first | done | rfl | (simp only [List.length_drop, List.length_take]; rfl)) ?_; (with_reducible refine (fields_shifts.calls kj4 a2 a3 t119 _ A10.out).mono ?_); rintro e w11 ⟨v120, rfl, ho0, hb⟩; refine ⟨_, rfl, ?_⟩; have n0_ := Aside0.mk (Kd.R_lower ho0 (below_size (hb_ HB))); have n1_ := Aside0.mk (below_step (hb_ HB) hb); clear HB; have HO121 := n0_; have HB := n1_; clear n0_ n1_; (try clear hb); (try clear hb2); (try clear hk); (try clear hi); (try clear ho0); obtain ⟨Ao12, co12, eo12⟩ := Kd.R_slice HO121.out; subst eo12))
   go_loopg [10, 35] kj4 (fun kq v10 v35 w' => ∃ (x10_2 : Int) (x35_2 : Int), v10 = .int .u64 x10_2 ∧ v35 = .int .i64 x35_2 ∧ Aside0 (fields_get_uint64.l0 kq a0 a1 x10_2 t119 (t119.length : Int) x35_2 = some (r1, r2)) ∧ Aside0 (kq ≤ kj4) ∧ Aside0 (Kd.R (Kd.int .i64) 3 w' w.heap.size (fun _ => True) (.slice Ao12 t119.length co12) t119) ∧ Aside0 (Below w.heap.size w w'))
   case atStart => exact ⟨(0), (0), (by first | rfl | (simp; done) | (simp [*]; done)), (by first | rfl | (simp; done) | (simp [*]; done)), H', ⟨Nat.le_refl _⟩, ⟨by (with_reducible repeat (first | apply Kd.R_alloc | apply Kd.R_drewN | apply Kd.R_drew)); exact HO121.out⟩, ⟨hb_ HB⟩⟩
   case round =>
    clear H'
    try clear c1
    try clear p2
    try clear c6
    try clear c6b0
    try clear p6
    try clear c7
    try clear c7b0
    try clear c8
    try clear c8b0
    try clear c9
    try clear c10
    try clear p2
    try clear p6
    obtain ⟨x10_2, x35_2, rfl, rfl, HA, HK2, HO_33, HB⟩ := hrel
    cases gk with
    | zero => exact absurd HA.out (by simp [fields_get_uint64.l0])
    | succ k2 =>
     have H := HA.out
     clear HA
     simp only [fields_get_uint64.l0] at H
     refine neg_first (p := (x35_2 < (t119.length : Int))) (fun c13 => ?_) (fun c13 => ?_)
     ·rw [if_neg c13] at H
      have c13b0 : decide (x35_2 < (t119.length : Int)) = false := decide_eq_false c13
      clear c13
      simp only [Option.some.injEq, Prod.mk.injEq] at H
      obtain ⟨rfl, rfl⟩ := H
      go_wp2
      go_ret2
      exact ⟨by first | rfl | (simp [errW_none, errW_some] <;> rfl) | (simp [*, errW_none, errW_some] <;> rfl) | (simp [bt, *]; done) | (unfold bt; simp [*]; done), by repeat (first | (with_reducible first | exact HB.out | apply below_alloc | apply pw_below_drewN | apply below_drew1) | exact HB.out)⟩
     rw [if_pos c13] at H
     have c13b0 : decide (x35_2 < (t119.length : Int)) = true := decide_eq_true c13
     clear c13
     refine neg_first (p := (0 ≤ x35_2)) (fun c14 => ?_) (fun c14 => ?_)
     ·rw [if_neg c14] at H
      exact absurd H (by simp)
     rw [if_pos c14] at H
     have c14b0 : decide (0 ≤ x35_2) = true := decide_eq_true c14
     clear c14
     refine neg_first (p := (x35_2 < (t119.length : Int))) (fun c15 => ?_) (fun c15 => ?_)
     ·rw [if_neg c15] at H
      exact absurd H (by simp)
     rw [if_pos c15] at H
     have c15b0 : decide (x35_2 < (t119.length : Int)) = true := decide_eq_true c15
     clear c15
     obtain ⟨ji16, hji16⟩ : ∃ j_ : Int, (wrap64 (a1 + x35_2)) = j_ := ⟨_, rfl⟩
     replace H : (if 0 ≤ (ji16) then (if (ji16) < (a0.size : Int) then (if 0 ≤ (rd t119 x35_2) then (fields_get_uint64.l0 k2 a0 a1 (Go.bits .or .u64 x10_2 (shl .u64 (IntKind.u64.wrap (bt a0 (ji16))) (rd t119 x35_2))) t119 (t119.length : Int) (wrap64 (x35_2 + 1))) else (none)) else (none)) else (none)) = some (r1, r2) := by first | (rw [hji16] at H; exact H) | (simp only [hji16] at H ⊢; exact H)
     have hji16w : (IntKind.i64.wrap (a1 + x35_2)) = ji16 := (i64_w _).trans hji16
     refine neg_first (p := (0 ≤ (ji16))) (fun c17 => ?_) (fun c17 => ?_)
     ·rw [if_neg c17] at H
      exact absurd H (by simp)
     rw [if_pos c17] at H
     have c17b0 : decide (0 ≤ (ji16)) = true := decide_eq_true c17
     clear c17
     refine neg_first (p := ((ji16) < (a0.size : Int))) (fun c18 => ?_) (fun c18 => ?_)
     ·rw [if_neg c18] at H
      exact absurd H (by simp)
     rw [if_pos c18] at H
     have c18b0 : decide ((ji16) < (a0.size : Int)) = true := decide_eq_true c18
     clear c18
     refine neg_first (p := (0 ≤ (rd t119 x35_2))) (fun c20 => ?_) (fun c20 => ?_)
     ·rw [if_neg c20] at H
      exact absurd H (by simp)
     rw [if_pos c20] at H
     have c20b0 := eq_true c20
     have c20b1 : decide (0 ≤ (rd t119 x35_2)) = true := decide_eq_true c20
     clear c20
     obtain ⟨ji21, hji21⟩ : ∃ j_ : Int, (shl .u64 (IntKind.u64.wrap (bt a0 (ji16))) (rd t119 x35_2)) = j_ := ⟨_, rfl⟩
     replace H : (fields_get_uint64.l0 k2 a0 a1 (Go.bits .or .u64 x10_2 (ji21)) t119 (t119.length : Int) (wrap64 (x35_2 + 1))) = some (r1, r2) := by first | (rw [hji21] at H; exact H) | (simp only [hji21] at H ⊢; exact H)
     have hji21_ : (IntKind.u64.wrap ((IntKind.u64.wrap (bt a0 (ji16))) * 2 ^ min (rd t119 x35_2).toNat 64)) = ji21 := hji21
     have hji21z : (rd t119 x35_2) ≤ 64 → (IntKind.u64.wrap ((IntKind.u64.wrap (bt a0 (ji16))) * 2 ^ (rd t119 x35_2).toNat)) = ji21 := shl_small hji21
     have H' := Aside0.mk H
     clear H
     have p122 : 0 ≤ (x35_2 : Int) := of_decide_eq_true (by first | (with_reducible assumption) | assumption)
     have q122 : x35_2 < (t119.length : Int) := of_decide_eq_true (by first | (with_reducible assumption) | assumption)
     obtain ⟨ad122, e122, hx122_0⟩ := Kd.at_int (Kd.R_reads' HO_33.out).2.2 x35_2 p122 q122
     cases e122
     replace p122 := eq_true p122
     replace q122 := eq_true q122
     have p19 : 0 ≤ ((ji16) : Int) := of_decide_eq_true (by first | (with_reducible assumption) | assumption)
     have q19 : (ji16) < (a0.size : Int) := of_decide_eq_true (by first | (with_reducible assumption) | assumption)
     have hx19 := bt_at a0 (ji16)
     replace p19 := eq_true p19
     replace q19 := eq_true q19
     go_wp2
     go_roundg k2
     case measure => have := HJ4.out; have := HK2.out; omega
     case rel => exact ⟨(Go.bits .or .u64 x10_2 (ji21)), (wrap64 (x35_2 + 1)), (by first | rfl | (simp; done) | (simp only [← hji21] <;> (first | rfl | simp)) | (simp [*]; done)), (by first | rfl | (simp; done) | (simp [*]; done)), H', ⟨by have := HJ4.out; have := HK2.out; omega⟩, ⟨by (with_reducible repeat (first | apply Kd.R_alloc | apply Kd.R_drewN | apply Kd.R_drew)); exact HO_33.out⟩, ⟨hb_ HB⟩⟩
def fields_Big.f (k : Nat) (a0 : ByteArray) (a1 : Int) (a2 : Int) : Option (Int × Bool) := (fields_get_uint64.f k a0 a1 a2 true).bind fun bt123 => (some (bt123.1, bt123.2))
theorem fields_Big.mono : ∀ a0 a1 a2 k, LeO (fields_Big.f k a0 a1 a2) (fields_Big.f (k + 1) a0 a1 a2) := by
  intro a0 a1 a2 k
  unfold fields_Big.f
  repeat' first
      | (with_reducible exact fields_get_uint64.mono _ _ _ _ _)
      | (with_reducible exact LeO.refl _)
      | (with_reducible exact LeO.none _)
      | (with_reducible refine LeO.ite ?_ ?_)
      | (with_reducible refine LeO.bind ?_ (fun _ => ?_))
      | exact fields_get_uint64.mono _ _ _ _ _
      | exact LeO.none _
      | refine LeO.ite ?_ ?_
      | refine LeO.bind ?_ (fun _ => ?_)
set_option maxHeartbeats 8000000 in
set_option maxRecDepth 100000 in
theorem fields_Big.calls (k : Nat) (a0 : ByteArray) (a1 : Int) (a2 : Int) (r1 : Int) (r2 : Bool) (w : World) (h : fields_Big.f k a0 a1 a2 = some (r1, r2)) :
    Calls Tryz.prog 63 #[.string a0, .int .i64 a1, .int .i64 a2] w fun e w' => e = .returned (.tuple #[.int .u64 r1, .bool r2]) ∧ Below w.heap.size w w' := by
  have HB := Aside0.mk (Below.refl w.heap.size w)
  have H : ((fields_get_uint64.f k a0 a1 a2 true).bind fun bt123 => (some (bt123.1, bt123.2))) = some (r1, r2) := h
  clear h
  replace H := Option.bind_eq_some_iff.mp H
  obtain ⟨⟨t123, t124⟩, A40, H⟩ := H
  replace H : (some (t123, t124)) = some (r1, r2) := H
  have A4 := Aside0.mk A40
  clear A40
  simp only [Option.some.injEq, Prod.mk.injEq] at H
  obtain ⟨rfl, rfl⟩ := H
  go_enter Tryz.func63, Tryz.ntmps63
  go_wp2_with (first | ((with_reducible refine gate_callee (f := 78) rfl ?_); refine goesL_ (some 11) rfl rfl Tryz.func78 (by kernel_rfl) rfl #[.string a0, .int .i64 a1, .int .i64 a2, .bool true] rfl (by (try simp only [List.map_toArray, List.map_cons, List.map_nil]); first | done | rfl | (simp only [List.length_drop, List.length_take]; rfl)) ?_; (with_reducible refine (fields_get_uint64.calls k a0 a1 a2 true t123 t124 _ A4.out).mono ?_); rintro e w5 ⟨rfl, hb⟩; refine ⟨_, rfl, ?_⟩; have n0_ := Aside0.mk (below_step (by repeat (first | (with_reducible first | exact HB.out | apply below_alloc | apply pw_below_drewN | apply below_drew1) | exact HB.out)) hb); clear HB; have HB := n0_; clear n0_; (try clear hb); (try clear hb2); (try clear hk); (try clear hi)))
  go_ret2
  exact ⟨by first | rfl | (simp [errW_none, errW_some] <;> rfl) | (simp [*, errW_none, errW_some] <;> rfl) | (simp [bt, *]; done) | (unfold bt; simp [*]; done), by repeat (first | (with_reducible first | exact HB.out | apply below_alloc | apply pw_below_drewN | apply below_drew1) | exact HB.out)⟩
def ipdu_Num.f (k : Nat) (a0_0 : ByteArray) (a0_1 : ByteArray) (a1 : Int) : Option (Int) := (fields_Big.f k a0_0 a1 4).bind fun bt126 => (some ((bt126.1) % 4294967296))
theorem ipdu_Num.mono : ∀ a0 a1 a2 k, LeO (ipdu_Num.f k a0 a1 a2) (ipdu_Num.f (k + 1) a0 a1 a2) := by
  intro a0 a1 a2 k
  unfold ipdu_Num.f
  repeat' first
      | (with_reducible exact fields_Big.mono _ _ _ _)
      | (with_reducible exact LeO.refl _)
      | (with_reducible exact LeO.none _)
      | (with_reducible refine LeO.ite ?_ ?_)
      | (with_reducible refine LeO.bind ?_ (fun _ => ?_))
      | exact fields_Big.mono _ _ _ _
      | exact LeO.none _
      | refine LeO.ite ?_ ?_
      | refine LeO.bind ?_ (fun _ => ?_)
set_option maxHeartbeats 8000000 in
set_option maxRecDepth 100000 in
theorem ipdu_Num.calls (k : Nat) (a0_0 : ByteArray) (a0_1 : ByteArray) (a1 : Int) (r : Int) (w : World) (h : ipdu_Num.f k a0_0 a0_1 a1 = some r) :
    Calls Tryz.prog 44 #[.agg #[.string a0_0, .string a0_1], .int .i64 a1] w fun e w' => e = .returned (.int .u32 r) ∧ Below w.heap.size w w' := by
  have hu35 := Tryz.underlying35
  have HB := Aside0.mk (Below.refl w.heap.size w)
  have H : ((fields_Big.f k a0_0 a1 4).bind fun bt126 => (some ((bt126.1) % 4294967296))) = some r := h
  clear h
  replace H := Option.bind_eq_some_iff.mp H
  obtain ⟨⟨t126, t127⟩, A30, H⟩ := H
  replace H : (some ((t126) % 4294967296)) = some r := H
  have A3 := Aside0.mk A30
  clear A30
  obtain rfl := Option.some.inj H
  go_enter Tryz.func44, Tryz.ntmps44
  go_wp2_with (first | ((with_reducible refine gate_dst (N := 2) rfl ?_); refine box_event ?hg (N := 2) ?hd (cs := #[.string a0_0, .string a0_1]) (t := 35) ?hr ?_; (case hd => rfl); (case hg => rfl); (case hr => first | (go_simp; done) | (go_simp; rfl)); intro gb125 hg w4 hbox hb; have n0_ := Aside0.mk (below_step (by repeat (first | (with_reducible first | exact HB.out | apply below_alloc | apply pw_below_drewN | apply below_drew1) | exact HB.out)) hb); have n1_ := Aside0.mk (hbox); have n2_ := Aside0.mk ((by rw [hg]; exact (below_size (by repeat (first | (with_reducible first | exact HB.out | apply below_alloc | apply pw_below_drewN | apply below_drew1) | exact HB.out))) : w.heap.size ≤ gb125)); have n3_ := Aside0.mk ((by rw [hg]; exact (below_size (by repeat (first | (with_reducible first | exact HB.out | apply below_alloc | apply pw_below_drewN | apply below_drew1) | exact HB.out))) : w.heap.size ≤ gb125)); clear HB; have HB := n0_; have BK125 := n1_; have GW125 := n2_; have GE125 := n3_; clear n0_ n1_ n2_ n3_; clear hb hbox hg; have hcz5_0 : w4.cell? ⟨gb125, 0, none⟩ = some (.string a0_0) := (blk_cell BK125.out 0).trans rfl; have hcz5_1 : w4.cell? ⟨gb125, 1, none⟩ = some (.string a0_1) := (blk_cell BK125.out 1).trans rfl; have hfz5_0 := blk_frozen BK125.out 0; have hfz5_1 := blk_frozen BK125.out 1) | ((with_reducible refine gate_callee (f := 63) rfl ?_); refine goesL_ (some 11) rfl rfl Tryz.func63 (by kernel_rfl) rfl #[.string a0_0, .int .i64 a1, .int .i64 4] rfl (by (try simp only [List.map_toArray, List.map_cons, List.map_nil]); first | done | rfl | (simp only [List.length_drop, List.length_take]; rfl)) ?_; (with_reducible refine (fields_Big.calls k a0_0 a1 4 t126 t127 _ A3.out).mono ?_); rintro e w6 ⟨rfl, hb⟩; refine ⟨_, rfl, ?_⟩; have n0_ := Aside0.mk (blk_below (g := gb125) (o := .cells #[.string a0_0, .string a0_1] 35 (0, 0)) (by (with_reducible repeat (first | refine blk_drewN ?_ _ | refine blk_drew ?_ | refine blk_alloc ?_ _)); exact BK125.out) hb); have n1_ := Aside0.mk (below_step (by repeat (first | (with_reducible first | exact HB.out | apply below_alloc | apply pw_below_drewN | apply below_drew1 | refine below_set ?_ GE125.out) | exact HB.out)) hb); clear BK125; clear HB; have BK125 := n0_; have HB := n1_; clear n0_ n1_; (try clear hb); (try clear hb2); (try clear hk); (try clear hi)))
  go_ret
  exact ⟨by first | rfl | (simp [errW_none, errW_some] <;> rfl) | (simp [*, errW_none, errW_some] <;> rfl) | (simp [bt, *]; done) | (unfold bt; simp [*]; done), by repeat (first | (with_reducible first | exact HB.out | apply below_alloc | apply pw_below_drewN | apply below_drew1 | refine below_set ?_ GE125.out) | exact HB.out)⟩
def ipdu_Tag.f (k : Nat) (a0_0 : ByteArray) (a0_1 : ByteArray) : Option (Int) := (ipdu_Num.f k a0_0 a0_1 16).bind fun t129 => (some t129)
theorem ipdu_Tag.mono : ∀ a0 a1 k, LeO (ipdu_Tag.f k a0 a1) (ipdu_Tag.f (k + 1) a0 a1) := by
  intro a0 a1 k
  unfold ipdu_Tag.f
  repeat' first
      | (with_reducible exact ipdu_Num.mono _ _ _ _)
      | (with_reducible exact LeO.refl _)
      | (with_reducible exact LeO.none _)
      | (with_reducible refine LeO.ite ?_ ?_)
      | (with_reducible refine LeO.bind ?_ (fun _ => ?_))
      | exact ipdu_Num.mono _ _ _ _
      | exact LeO.none _
      | refine LeO.ite ?_ ?_
      | refine LeO.bind ?_ (fun _ => ?_)
set_option maxHeartbeats 8000000 in
set_option maxRecDepth 100000 in
theorem ipdu_Tag.calls (k : Nat) (a0_0 : ByteArray) (a0_1 : ByteArray) (r : Int) (w : World) (h : ipdu_Tag.f k a0_0 a0_1 = some r) :
    Calls Tryz.prog 22 #[.agg #[.string a0_0, .string a0_1]] w fun e w' => e = .returned (.int .u32 r) ∧ Below w.heap.size w w' := by
  have hu35 := Tryz.underlying35
  have HB := Aside0.mk (Below.refl w.heap.size w)
  have H : ((ipdu_Num.f k a0_0 a0_1 16).bind fun t129 => (some t129)) = some r := h
  clear h
  replace H := Option.bind_eq_some_iff.mp H
  obtain ⟨t129, A20, H⟩ := H
  replace H : (some t129) = some r := H
  have A2 := Aside0.mk A20
  clear A20
  obtain rfl := Option.some.inj H
  go_enter Tryz.func22, Tryz.ntmps22
  go_wp2_with (first | ((with_reducible refine gate_dst (N := 1) rfl ?_); refine box_event ?hg (N := 1) ?hd (cs := #[.string a0_0, .string a0_1]) (t := 35) ?hr ?_; (case hd => rfl); (case hg => rfl); (case hr => first | (go_simp; done) | (go_simp; rfl)); intro gb128 hg w3 hbox hb; have n0_ := Aside0.mk (below_step (by repeat (first | (with_reducible first | exact HB.out | apply below_alloc | apply pw_below_drewN | apply below_drew1) | exact HB.out)) hb); have n1_ := Aside0.mk (hbox); have n2_ := Aside0.mk ((by rw [hg]; exact (below_size (by repeat (first | (with_reducible first | exact HB.out | apply below_alloc | apply pw_below_drewN | apply below_drew1) | exact HB.out))) : w.heap.size ≤ gb128)); have n3_ := Aside0.mk ((by rw [hg]; exact (below_size (by repeat (first | (with_reducible first | exact HB.out | apply below_alloc | apply pw_below_drewN | apply below_drew1) | exact HB.out))) : w.heap.size ≤ gb128)); clear HB; have HB := n0_; have BK128 := n1_; have GW128 := n2_; have GE128 := n3_; clear n0_ n1_ n2_ n3_; clear hb hbox hg; have hcz4_0 : w3.cell? ⟨gb128, 0, none⟩ = some (.string a0_0) := (blk_cell BK128.out 0).trans rfl; have hcz4_1 : w3.cell? ⟨gb128, 1, none⟩ = some (.string a0_1) := (blk_cell BK128.out 1).trans rfl; have hfz4_0 := blk_frozen BK128.out 0; have hfz4_1 := blk_frozen BK128.out 1) | ((with_reducible refine gate_callee (f := 44) rfl ?_); refine goesL_ (some 4) rfl rfl Tryz.func44 (by kernel_rfl) rfl #[.agg #[.string a0_0, .string a0_1], .int .i64 16] rfl (by (try simp only [List.map_toArray, List.map_cons, List.map_nil]); first | done | rfl | (simp only [List.length_drop, List.length_take]; rfl)) ?_; (with_reducible refine (ipdu_Num.calls k a0_0 a0_1 16 t129 _ A2.out).mono ?_); rintro e w5 ⟨rfl, hb⟩; refine ⟨_, rfl, ?_⟩; have n0_ := Aside0.mk (blk_below (g := gb128) (o := .cells #[.string a0_0, .string a0_1] 35 (0, 0)) (by (with_reducible repeat (first | refine blk_drewN ?_ _ | refine blk_drew ?_ | refine blk_alloc ?_ _)); exact BK128.out) hb); have n1_ := Aside0.mk (below_step (by repeat (first | (with_reducible first | exact HB.out | apply below_alloc | apply pw_below_drewN | apply below_drew1 | refine below_set ?_ GE128.out) | exact HB.out)) hb); clear BK128; clear HB; have BK128 := n0_; have HB := n1_; clear n0_ n1_; (try clear hb); (try clear hb2); (try clear hk); (try clear hi)))
  go_ret
  exact ⟨by first | rfl | (simp [errW_none, errW_some] <;> rfl) | (simp [*, errW_none, errW_some] <;> rfl) | (simp [bt, *]; done) | (unfold bt; simp [*]; done), by repeat (first | (with_reducible first | exact HB.out | apply below_alloc | apply pw_below_drewN | apply below_drew1 | refine below_set ?_ GE128.out) | exact HB.out)⟩
def ipdu_With.f (k : Nat) (a0_0 : ByteArray) (a0_1 : ByteArray) (a1 : Int) (a2 : Int) : Option (ByteArray × ByteArray) := (fields_PutBig.f k (IntKind.u64.wrap (a2)) 4).bind fun t140 => ((fields_Set.f a0_0 a1 t140).bind fun bt141 => (if bt141.2 = true then (some (bt141.1, a0_1)) else (some (a0_0, a0_1))))
theorem ipdu_With.mono : ∀ a0 a1 a2 a3 k, LeO (ipdu_With.f k a0 a1 a2 a3) (ipdu_With.f (k + 1) a0 a1 a2 a3) := by
 intro a0 a1 a2 a3 k
 unfold ipdu_With.f
 repeat' first
   | (with_reducible exact fields_PutBig.mono _ _ _)
   | (with_reducible exact LeO.refl _)
   | (with_reducible exact LeO.none _)
   | (with_reducible refine LeO.ite ?_ ?_)
   | (with_reducible refine LeO.bind ?_ (fun _ => ?_))
   | exact fields_PutBig.mono _ _ _
   | exact LeO.none _
   | refine LeO.ite ?_ ?_
   | refine LeO.bind ?_ (fun _ => ?_)
def ipdu_With.T1 : Bool × List (List Nat × List Nat) := (true, [([], []), ([0], [0]), ([], []), ([], []), ([3], [3]), ([4], [4]), ([1, 2, 5, 5], [1, 2, 5]), ([6], [6]), ([7], [7]), ([7], [7]), ([8, 6, 0, 1, 2, 3, 4, 5, 6, 7, 8], [8]), ([9, 10, 0, 1, 2, 3, 4, 5, 6, 7, 8, 9, 10], [9])])
def ipdu_With.B1 : List Nat := [0, 1, 0, 0, 8, 24, 63, 127, 255, 255, 511, 2047]
theorem ipdu_With.tab1 : rtab .any (opsOf Tryz.f45 1) = ipdu_With.T1 := by kernel_rfl
theorem ipdu_With.bits1 : waitsOk ipdu_With.T1.2 ipdu_With.B1 = true := by kernel_rfl
abbrev d45x0 : Array Bool := #[false, false, false, false, false, false, false, false, false, false, false, false]
abbrev d45x1 : Array Bool := dB 12 1
abbrev d45x2 : Array Bool := dB 12 5
abbrev d45x3 : Array Bool := dB 12 13
abbrev d45x4 : Array Bool := dB 12 29
abbrev d45x5 : Array Bool := dB 12 31
abbrev d45x6 : Array Bool := dB 12 63
abbrev d45x7 : Array Bool := dB 12 127
abbrev d45x8 : Array Bool := dB 12 255
abbrev d45x9 : Array Bool := dB 12 511
abbrev d45x10 : Array Bool := dB 12 1023
abbrev d45x11 : Array Bool := dB 12 2047
abbrev d45x12 : Array Bool := dB 12 4095
set_option maxHeartbeats 8000000 in
set_option maxRecDepth 100000 in
theorem ipdu_With.calls (k : Nat) (a0_0 : ByteArray) (a0_1 : ByteArray) (a1 : Int) (a2 : Int) (r1 : ByteArray) (r2 : ByteArray) (w : World) (h : ipdu_With.f k a0_0 a0_1 a1 a2 = some (r1, r2)) :
  Calls Tryz.prog 45 #[.agg #[.string a0_0, .string a0_1], .int .i64 a1, .int .u32 a2] w fun e w' => e = .returned (.agg #[.string r1, .string r2]) ∧ Below w.heap.size w w' := by
 have hu35 := Tryz.underlying35
 have HB := Aside0.mk (Below.refl w.heap.size w)
 have H : ((fields_PutBig.f k (IntKind.u64.wrap (a2)) 4).bind fun t140 => ((fields_Set.f a0_0 a1 t140).bind fun bt141 => (if bt141.2 = true then (some (bt141.1, a0_1)) else (some (a0_0, a0_1))))) = some (r1, r2) := h
 clear h
 replace H := Option.bind_eq_some_iff.mp H
 obtain ⟨t140, A40, H⟩ := H
 try dsimp only at H
 have A4 := Aside0.mk A40
 clear A40
 replace H := Option.bind_eq_some_iff.mp H
 obtain ⟨⟨t141, t142⟩, A50, H⟩ := H
 try dsimp only at H
 have A5 := Aside0.mk A50
 clear A50
 by_cases c6 : t142 = true
 ·subst c6
  have H1 := H
  rw [if_pos rfl] at H1
  clear H
  have H := H1
  clear H1
  simp only [Option.some.injEq, Prod.mk.injEq] at H
  obtain ⟨rfl, rfl⟩ := H
  go_enter Tryz.func45, Tryz.ntmps45
  try go_wp2_with (first | ((with_reducible refine gate_dst (N := 3) rfl ?_); refine box_event ?hg (N := 3) ?hd (cs := #[.string a0_0, .string a0_1]) (t := 35) ?hr ?_; (case hd => rfl); (case hg => rfl); (case hr => first | (go_simp; done) | (go_simp; rfl)); intro gb138 hg w7 hbox hb; have n0_ := Aside0.mk (below_step (hb_ HB) hb); have n1_ := Aside0.mk (hbox); have n2_ := Aside0.mk ((by rw [hg]; exact (below_size (hb_ HB)) : w.heap.size ≤ gb138)); have n3_ := Aside0.mk ((by rw [hg]; exact (below_size (hb_ HB)) : w.heap.size ≤ gb138)); clear HB; have HB := n0_; have BK138 := n1_; have GW138 := n2_; have GE138 := n3_; clear n0_ n1_ n2_ n3_; clear hb hbox hg) | ((with_reducible refine gate_dst (N := 6) rfl ?_); refine box_event ?hg (N := 6) ?hd (cs := #[.string (⟨#[]⟩ : ByteArray), .string (⟨#[]⟩ : ByteArray)]) (t := 35) ?hr ?_; (case hd => rfl); (case hg => rfl); (case hr => first | (go_simp; done) | (go_simp; rfl)); intro gb139 hg w8 hbox hb; have n0_ := Aside0.mk (blk_below (bk_ BK138) hb); have n1_ := Aside0.mk (below_step (hb_ HB) hb); have n2_ := Aside0.mk (hbox); have n3_ := Aside0.mk ((by rw [hg]; exact (below_size (hb_ HB)) : w.heap.size ≤ gb139)); have n4_ := Aside0.mk ((by rw [hg]; exact (below_size (hb_ HB)) : w.heap.size ≤ gb139)); have n5_ := Aside0.mk ((by rw [hg]; exact Nat.ne_of_lt (blk_lt (g := gb138) (o := .cells #[.string a0_0, .string a0_1] 35 (0, 0)) (bk_ BK138)) : gb138 ≠ gb139)); have n6_ := Aside0.mk ((by rw [hg]; exact Nat.ne_of_gt (blk_lt (g := gb138) (o := .cells #[.string a0_0, .string a0_1] 35 (0, 0)) (bk_ BK138)) : gb139 ≠ gb138)); clear BK138; clear HB; have BK138 := n0_; have HB := n1_; have BK139 := n2_; have GW139 := n3_; have GE139 := n4_; have NB138_139 := n5_; have NB139_138 := n6_; clear n0_ n1_ n2_ n3_ n4_ n5_ n6_; clear hb hbox hg))
  have n0_ := Aside0.mk (blk_drew BK138.out)
  have n1_ := Aside0.mk (blk_drew BK139.out)
  have n2_ := Aside0.mk (below_drew1 HB.out)
  clear BK138
  clear BK139
  clear HB
  have BK138 := n0_
  have BK139 := n1_
  have HB := n2_
  clear n0_ n1_ n2_
  refine start_ (n := 12) (S := fun w' => w'.cell? ⟨gb138, 0, none⟩ = some (.string a0_0) ∧ w'.cell? ⟨gb138, 1, none⟩ = some (.string a0_1)) (ds := []) d45x0 (by kernel_rfl) rfl rfl ⟨(blk_cell BK138.out 0).trans rfl, (blk_cell BK138.out 1).trans rfl⟩ (fun hHeld => ?_); refine with_tabW ipdu_With.tab1 ipdu_With.bits1 (fun HT_ HW_ => ?_)
  generalize w8.drew = w9 at BK138 BK139 HB hHeld ⊢
  refine pon_ 0 (some 10) d45x1 HT_.out ?_
  refine pon_ 2 (some 12) d45x2 HT_.out ?_
  refine pon_ 3 (some 13) d45x3 HT_.out ?_
  refine pon_ 4 (some 14) d45x4 HT_.out ?_
  refine ptk_ 1 (some 11) d45x5 HT_.out HW_.out hHeld ?_
  refine one_ (i := 5) (N := some 15) d45x6 rfl rfl (one_of HT_.out (by kernel_rfl)) (by decide) (fun K hK => ?_)
  refine goes_ Tryz.func62 (by kernel_rfl) rfl #[.int .u64 (IntKind.u64.wrap (a2)), .int .i64 4] (by rfl) rfl rfl (by (try simp only [List.map_toArray, List.map_cons, List.map_nil]); first | done | rfl | (simp only [List.length_drop, List.length_take]; rfl)) ?_
  with_reducible refine (fields_PutBig.calls k (IntKind.u64.wrap (a2)) 4 t140 _ A4.out).mono ?_
  rintro e w10 ⟨rfl, hb⟩
  refine ⟨_, rfl, ?_⟩
  have n0_ := Aside0.mk (blk_below (bk_ BK138) hb)
  have n1_ := Aside0.mk (blk_below (bk_ BK139) hb)
  have n2_ := Aside0.mk (below_step (hb_ HB) hb)
  clear BK138
  clear BK139
  clear HB
  have BK138 := n0_
  have BK139 := n1_
  have HB := n2_
  clear n0_ n1_ n2_
  (try clear hb)
  (try clear hb2)
  (try clear hk)
  (try clear hi)
  refine hK.out _ _ ⟨(blk_cell BK138.out 0).trans rfl, (blk_cell BK138.out 1).trans rfl⟩ (fun hHeld => ?_)
  clear hK K
  refine norm_ (a' := ?_) ?_ ?_
  rotate_left
  ·show Act.put _ (some 15) _ = _
   simp only [Act.put, la_, lb_, lc_, i64_w, i32_w]
   rfl
  refine one_ (i := 6) (N := some 16) d45x7 rfl rfl (one_of HT_.out (by kernel_rfl)) (by decide) (fun K hK => ?_)
  refine goes_ Tryz.func25 (by kernel_rfl) rfl #[.string a0_0, .int .i64 a1, .string t140] (by rfl) rfl rfl (by (try simp only [List.map_toArray, List.map_cons, List.map_nil]); first | done | rfl | (simp only [List.length_drop, List.length_take]; rfl)) ?_
  with_reducible refine (fields_Set.calls a0_0 a1 t140 t141 true _ A5.out).mono ?_
  rintro e w' ⟨rfl, ⟨nd, rfl⟩⟩
  refine ⟨_, rfl, ?_⟩
  refine hK.out _ _ ⟨(blk_cell BK138.out 0).trans rfl, (blk_cell BK138.out 1).trans rfl⟩ (fun hHeld => ?_)
  clear hK K
  refine norm_ (a' := ?_) ?_ ?_
  rotate_left
  ·show Act.put _ (some 16) _ = _
   simp only [Act.put, la_, lb_, lc_, i64_w, i32_w]
   rfl
  refine pon_ 7 (some 9) d45x8 HT_.out ?_
  refine pon_ 8 (some 17) d45x9 HT_.out ?_
  refine pon_ 9 (some 18) d45x10 HT_.out ?_
  refine pon_ 10 (some 7) d45x11 HT_.out ?_
  refine pon_ 11 (some 8) d45x12 HT_.out ?_
  refine done_ (done_of HT_.out (by kernel_rfl)) ?_
  have hnb11 := NB138_139.out
  have hnc11 := NB139_138.out
  have hcz12_0 : w10.cell? ⟨gb138, 0, none⟩ = some (.string a0_0) := (blk_cell BK138.out 0).trans rfl
  have hcz12_1 : w10.cell? ⟨gb138, 1, none⟩ = some (.string a0_1) := (blk_cell BK138.out 1).trans rfl
  have hfz12_0 := blk_frozen BK138.out 0
  have hfz12_1 := blk_frozen BK138.out 1
  have hcz13_0 : w10.cell? ⟨gb139, 0, none⟩ = some (.string (⟨#[]⟩ : ByteArray)) := (blk_cell BK139.out 0).trans rfl
  have hcz13_1 : w10.cell? ⟨gb139, 1, none⟩ = some (.string (⟨#[]⟩ : ByteArray)) := (blk_cell BK139.out 1).trans rfl
  have hfz13_0 := blk_frozen BK139.out 0
  have hfz13_1 := blk_frozen BK139.out 1
  try go_wp2
  refine bodyPost_ret (results_cell_row rfl _ _ gb139 35 #[.string t141, .string a0_1] (0, 0) _ rfl (by (with_reducible repeat (first | refine blk_drewN ?_ _ | refine blk_drew ?_ | refine blk_alloc ?_ _)); refine blk_put (cs := #[.string t141, .string (⟨#[]⟩ : ByteArray)]) ?_ 1 _ rfl; (with_reducible repeat (first | refine blk_drewN ?_ _ | refine blk_drew ?_ | refine blk_alloc ?_ _)); refine blk_put (cs := #[.string (⟨#[]⟩ : ByteArray), .string (⟨#[]⟩ : ByteArray)]) ?_ 0 _ rfl; (with_reducible repeat (first | refine blk_drewN ?_ _ | refine blk_drew ?_ | refine blk_alloc ?_ _ | refine blk_far ?_ NB139_138.out _)); exact BK139.out) Tryz.underlying35 rfl (by kernel_rfl)) rfl ?_
  exact ⟨by first | rfl | (simp [errW_none, errW_some] <;> rfl) | (simp [*, errW_none, errW_some] <;> rfl) | (simp [bt, *]; done) | (unfold bt; simp [*]; done), by repeat (first | (with_reducible first | exact HB.out | apply below_alloc | apply pw_below_drewN | apply below_drew1 | refine below_set ?_ GE138.out | refine below_set ?_ GE139.out) | exact HB.out)⟩
 replace c6 := Bool.eq_false_iff.mpr c6
 subst c6
 have H1 := H
 rw [if_neg (show ¬ (false = true) by decide)] at H1
 clear H
 have H := H1
 clear H1
 simp only [Option.some.injEq, Prod.mk.injEq] at H
 obtain ⟨rfl, rfl⟩ := H
 go_enter Tryz.func45, Tryz.ntmps45
 try go_wp2_with (first | ((with_reducible refine gate_dst (N := 3) rfl ?_); refine box_event ?hg (N := 3) ?hd (cs := #[.string a0_0, .string a0_1]) (t := 35) ?hr ?_; (case hd => rfl); (case hg => rfl); (case hr => first | (go_simp; done) | (go_simp; rfl)); intro gb138 hg w14 hbox hb; have n0_ := Aside0.mk (below_step (hb_ HB) hb); have n1_ := Aside0.mk (hbox); have n2_ := Aside0.mk ((by rw [hg]; exact (below_size (hb_ HB)) : w.heap.size ≤ gb138)); have n3_ := Aside0.mk ((by rw [hg]; exact (below_size (hb_ HB)) : w.heap.size ≤ gb138)); clear HB; have HB := n0_; have BK138 := n1_; have GW138 := n2_; have GE138 := n3_; clear n0_ n1_ n2_ n3_; clear hb hbox hg) | ((with_reducible refine gate_dst (N := 6) rfl ?_); refine box_event ?hg (N := 6) ?hd (cs := #[.string (⟨#[]⟩ : ByteArray), .string (⟨#[]⟩ : ByteArray)]) (t := 35) ?hr ?_; (case hd => rfl); (case hg => rfl); (case hr => first | (go_simp; done) | (go_simp; rfl)); intro gb139 hg w15 hbox hb; have n0_ := Aside0.mk (blk_below (bk_ BK138) hb); have n1_ := Aside0.mk (below_step (hb_ HB) hb); have n2_ := Aside0.mk (hbox); have n3_ := Aside0.mk ((by rw [hg]; exact (below_size (hb_ HB)) : w.heap.size ≤ gb139)); have n4_ := Aside0.mk ((by rw [hg]; exact (below_size (hb_ HB)) : w.heap.size ≤ gb139)); have n5_ := Aside0.mk ((by rw [hg]; exact Nat.ne_of_lt (blk_lt (g := gb138) (o := .cells #[.string a0_0, .string a0_1] 35 (0, 0)) (bk_ BK138)) : gb138 ≠ gb139)); have n6_ := Aside0.mk ((by rw [hg]; exact Nat.ne_of_gt (blk_lt (g := gb138) (o := .cells #[.string a0_0, .string a0_1] 35 (0, 0)) (bk_ BK138)) : gb139 ≠ gb138)); clear BK138; clear HB; have BK138 := n0_; have HB := n1_; have BK139 := n2_; have GW139 := n3_; have GE139 := n4_; have NB138_139 := n5_; have NB139_138 := n6_; clear n0_ n1_ n2_ n3_ n4_ n5_ n6_; clear hb hbox hg))
 have n0_ := Aside0.mk (blk_drew BK138.out)
 have n1_ := Aside0.mk (blk_drew BK139.out)
 have n2_ := Aside0.mk (below_drew1 HB.out)
 clear BK138
 clear BK139
 clear HB
 have BK138 := n0_
 have BK139 := n1_
 have HB := n2_
 clear n0_ n1_ n2_
 refine start_ (n := 12) (S := fun w' => w'.cell? ⟨gb138, 0, none⟩ = some (.string a0_0) ∧ w'.cell? ⟨gb138, 1, none⟩ = some (.string a0_1)) (ds := []) d45x0 (by kernel_rfl) rfl rfl ⟨(blk_cell BK138.out 0).trans rfl, (blk_cell BK138.out 1).trans rfl⟩ (fun hHeld => ?_); refine with_tabW ipdu_With.tab1 ipdu_With.bits1 (fun HT_ HW_ => ?_)
 generalize w15.drew = w16 at BK138 BK139 HB hHeld ⊢
 refine pon_ 0 (some 10) d45x1 HT_.out ?_
 refine pon_ 2 (some 12) d45x2 HT_.out ?_
 refine pon_ 3 (some 13) d45x3 HT_.out ?_
 refine pon_ 4 (some 14) d45x4 HT_.out ?_
 refine ptk_ 1 (some 11) d45x5 HT_.out HW_.out hHeld ?_
 refine one_ (i := 5) (N := some 15) d45x6 rfl rfl (one_of HT_.out (by kernel_rfl)) (by decide) (fun K hK => ?_)
 refine goes_ Tryz.func62 (by kernel_rfl) rfl #[.int .u64 (IntKind.u64.wrap (a2)), .int .i64 4] (by rfl) rfl rfl (by (try simp only [List.map_toArray, List.map_cons, List.map_nil]); first | done | rfl | (simp only [List.length_drop, List.length_take]; rfl)) ?_
 with_reducible refine (fields_PutBig.calls k (IntKind.u64.wrap (a2)) 4 t140 _ A4.out).mono ?_
 rintro e w17 ⟨rfl, hb⟩
 refine ⟨_, rfl, ?_⟩
 have n0_ := Aside0.mk (blk_below (bk_ BK138) hb)
 have n1_ := Aside0.mk (blk_below (bk_ BK139) hb)
 have n2_ := Aside0.mk (below_step (hb_ HB) hb)
 clear BK138
 clear BK139
 clear HB
 have BK138 := n0_
 have BK139 := n1_
 have HB := n2_
 clear n0_ n1_ n2_
 (try clear hb)
 (try clear hb2)
 (try clear hk)
 (try clear hi)
 refine hK.out _ _ ⟨(blk_cell BK138.out 0).trans rfl, (blk_cell BK138.out 1).trans rfl⟩ (fun hHeld => ?_)
 clear hK K
 refine norm_ (a' := ?_) ?_ ?_
 rotate_left
 ·show Act.put _ (some 15) _ = _
  simp only [Act.put, la_, lb_, lc_, i64_w, i32_w]
  rfl
 refine one_ (i := 6) (N := some 16) d45x7 rfl rfl (one_of HT_.out (by kernel_rfl)) (by decide) (fun K hK => ?_)
 refine goes_ Tryz.func25 (by kernel_rfl) rfl #[.string a0_0, .int .i64 a1, .string t140] (by rfl) rfl rfl (by (try simp only [List.map_toArray, List.map_cons, List.map_nil]); first | done | rfl | (simp only [List.length_drop, List.length_take]; rfl)) ?_
 with_reducible refine (fields_Set.calls a0_0 a1 t140 t141 false _ A5.out).mono ?_
 rintro e w' ⟨rfl, ⟨nd, rfl⟩⟩
 refine ⟨_, rfl, ?_⟩
 refine hK.out _ _ ⟨(blk_cell BK138.out 0).trans rfl, (blk_cell BK138.out 1).trans rfl⟩ (fun hHeld => ?_)
 clear hK K
 refine norm_ (a' := ?_) ?_ ?_
 rotate_left
 ·show Act.put _ (some 16) _ = _
  simp only [Act.put, la_, lb_, lc_, i64_w, i32_w]
  rfl
 refine pon_ 7 (some 9) d45x8 HT_.out ?_
 refine pon_ 8 (some 17) d45x9 HT_.out ?_
 refine pon_ 9 (some 18) d45x10 HT_.out ?_
 refine pon_ 10 (some 7) d45x11 HT_.out ?_
 refine pon_ 11 (some 8) d45x12 HT_.out ?_
 refine done_ (done_of HT_.out (by kernel_rfl)) ?_
 have hnb18 := NB138_139.out
 have hnc18 := NB139_138.out
 have hcz19_0 : w17.cell? ⟨gb138, 0, none⟩ = some (.string a0_0) := (blk_cell BK138.out 0).trans rfl
 have hcz19_1 : w17.cell? ⟨gb138, 1, none⟩ = some (.string a0_1) := (blk_cell BK138.out 1).trans rfl
 have hfz19_0 := blk_frozen BK138.out 0
 have hfz19_1 := blk_frozen BK138.out 1
 have hcz20_0 : w17.cell? ⟨gb139, 0, none⟩ = some (.string (⟨#[]⟩ : ByteArray)) := (blk_cell BK139.out 0).trans rfl
 have hcz20_1 : w17.cell? ⟨gb139, 1, none⟩ = some (.string (⟨#[]⟩ : ByteArray)) := (blk_cell BK139.out 1).trans rfl
 have hfz20_0 := blk_frozen BK139.out 0
 have hfz20_1 := blk_frozen BK139.out 1
 try go_wp2
 refine bodyPost_ret (results_cell_row rfl _ _ gb139 35 #[.string a0_0, .string a0_1] (0, 0) _ rfl (by (with_reducible repeat (first | refine blk_drewN ?_ _ | refine blk_drew ?_ | refine blk_alloc ?_ _)); refine blk_put (cs := #[.string a0_0, .string (⟨#[]⟩ : ByteArray)]) ?_ 1 _ rfl; (with_reducible repeat (first | refine blk_drewN ?_ _ | refine blk_drew ?_ | refine blk_alloc ?_ _)); refine blk_put (cs := #[.string (⟨#[]⟩ : ByteArray), .string (⟨#[]⟩ : ByteArray)]) ?_ 0 _ rfl; (with_reducible repeat (first | refine blk_drewN ?_ _ | refine blk_drew ?_ | refine blk_alloc ?_ _)); exact BK139.out) Tryz.underlying35 rfl (by kernel_rfl)) rfl ?_
 exact ⟨by first | rfl | (simp [errW_none, errW_some] <;> rfl) | (simp [*, errW_none, errW_some] <;> rfl) | (simp [bt, *]; done) | (unfold bt; simp [*]; done), by repeat (first | (with_reducible first | exact HB.out | apply below_alloc | apply pw_below_drewN | apply below_drew1 | refine below_set ?_ GE138.out | refine below_set ?_ GE139.out) | exact HB.out)⟩
def login_numbered.j0 : Nat → Int → Int → Int → Int → ByteArray → ByteArray → Option (ByteArray × ByteArray)
 | 0, _, _, _, _, _, _ => none
 | k + 1, x2, x3, x4, x5, x144000, x144001 => (ipdu_With.f k x144000 x144001 24 x3).bind fun bt150 => ((ipdu_With.f k bt150.1 bt150.2 28 x2).bind fun bt152 => ((ipdu_With.f k bt152.1 bt152.2 32 ((((x2 + 16) % 4294967296) - 1) % 4294967296)).bind fun bt154 => ((fields_Set.f bt154.1 36 (strOfNums (([(x4) % 256, (x5) % 256] : List Int)))).bind fun bt159 => (some (bt159.1, bt154.2)))))
def login_numbered.f (k : Nat) (a0_0 : ByteArray) (a0_1 : ByteArray) (a1_0 : ByteArray) (a1_1 : ByteArray) (a2 : Int) (a3 : Int) (a4 : Int) (a5 : Int) : Option (ByteArray × ByteArray) := if (a1_0.size : Int) = 48 then (if 8 ≤ 14 then (if 14 ≤ (a1_0.size : Int) then ((fields_Set.f a0_0 8 (a1_0.extract 8 14)).bind fun bt146 => (login_numbered.j0 k a2 a3 a4 a5 bt146.1 a0_1)) else (none)) else (none)) else ((ipdu_With.f k a0_0 a0_1 16 0).bind fun bt148 => (login_numbered.j0 k a2 a3 a4 a5 bt148.1 bt148.2))
theorem login_numbered.mono_l : ∀ k, (∀ y0 y1 y2 y3 y4 y5, LeO (login_numbered.j0 k y0 y1 y2 y3 y4 y5) (login_numbered.j0 (k + 1) y0 y1 y2 y3 y4 y5))
 | 0 => fun _ _ _ _ _ _ r h => by simp [login_numbered.j0] at h
 | k + 1 => by
  have ih0 := login_numbered.mono_l k
  ·intro y0 y1 y2 y3 y4 y5
   unfold login_numbered.j0
   repeat' first
   | (with_reducible exact ih0 _ _ _ _ _ _)
   | (with_reducible exact ipdu_With.mono _ _ _ _ _)
   | (with_reducible exact LeO.refl _)
   | (with_reducible exact LeO.none _)
   | (with_reducible refine LeO.ite ?_ ?_)
   | (with_reducible refine LeO.bind ?_ (fun _ => ?_))
   | exact ih0 _ _ _ _ _ _
   | exact ipdu_With.mono _ _ _ _ _
   | exact LeO.none _
   | refine LeO.ite ?_ ?_
   | refine LeO.bind ?_ (fun _ => ?_)
theorem login_numbered.mono : ∀ a0 a1 a2 a3 a4 a5 a6 a7 k, LeO (login_numbered.f k a0 a1 a2 a3 a4 a5 a6 a7) (login_numbered.f (k + 1) a0 a1 a2 a3 a4 a5 a6 a7) := by
 intro a0 a1 a2 a3 a4 a5 a6 a7 k
 have ih0 := login_numbered.mono_l k
 unfold login_numbered.f
 repeat' first
   | (with_reducible exact ih0 _ _ _ _ _ _)
   | (with_reducible exact ipdu_With.mono _ _ _ _ _)
   | (with_reducible exact LeO.refl _)
   | (with_reducible exact LeO.none _)
   | (with_reducible refine LeO.ite ?_ ?_)
   | (with_reducible refine LeO.bind ?_ (fun _ => ?_))
   | exact ih0 _ _ _ _ _ _
   | exact ipdu_With.mono _ _ _ _ _
   | exact LeO.none _
   | refine LeO.ite ?_ ?_
   | refine LeO.bind ?_ (fun _ => ?_)
def login_numbered.T2 : Bool × List (List Nat × List Nat) := (true, [([], []), ([0], [0]), ([], []), ([2], [2]), ([3], [3]), ([1, 4], [1, 4]), ([5], [5]), ([6], [6]), ([6], [6]), ([0, 1, 2, 3, 4, 5, 6, 7], []), ([9, 7, 5, 0, 1, 2, 3, 4, 5, 6, 7], [7, 9])])
def login_numbered.B2 : List Nat := [0, 1, 0, 4, 12, 31, 63, 127, 127, 255, 767]
theorem login_numbered.tab2 : rtab .any (opsOf Tryz.f23 2) = login_numbered.T2 := by kernel_rfl
theorem login_numbered.bits2 : waitsOk login_numbered.T2.2 login_numbered.B2 = true := by kernel_rfl
abbrev d23x0 : Array Bool := #[false, false, false, false, false, false, false, false, false, false, false]
abbrev d23x1 : Array Bool := dB 11 1
abbrev d23x2 : Array Bool := dB 11 5
abbrev d23x3 : Array Bool := dB 11 7
abbrev d23x4 : Array Bool := dB 11 15
abbrev d23x5 : Array Bool := dB 11 31
abbrev d23x6 : Array Bool := dB 11 63
abbrev d23x7 : Array Bool := dB 11 127
abbrev d23x8 : Array Bool := dB 11 255
abbrev d23x9 : Array Bool := dB 11 511
abbrev d23x10 : Array Bool := dB 11 1023
abbrev d23x11 : Array Bool := dB 11 2047
set_option maxHeartbeats 8000000 in
set_option maxRecDepth 100000 in
theorem login_numbered.calls (k : Nat) (a0_0 : ByteArray) (a0_1 : ByteArray) (a1_0 : ByteArray) (a1_1 : ByteArray) (a2 : Int) (a3 : Int) (a4 : Int) (a5 : Int) (r1 : ByteArray) (r2 : ByteArray) (w : World) (h : login_numbered.f k a0_0 a0_1 a1_0 a1_1 a2 a3 a4 a5 = some (r1, r2)) :
  Calls Tryz.prog 23 #[.agg #[.string a0_0, .string a0_1], .agg #[.string a1_0, .string a1_1], .int .u32 a2, .int .u32 a3, .int .i64 a4, .int .i64 a5] w fun e w' => e = .returned (.agg #[.string r1, .string r2]) ∧ Below w.heap.size w w' := by
 have hu35 := Tryz.underlying35
 have HB := Aside0.mk (Below.refl w.heap.size w)
 have H : (if (a1_0.size : Int) = 48 then (if 8 ≤ 14 then (if 14 ≤ (a1_0.size : Int) then ((fields_Set.f a0_0 8 (a1_0.extract 8 14)).bind fun bt146 => (login_numbered.j0 k a2 a3 a4 a5 bt146.1 a0_1)) else (none)) else (none)) else ((ipdu_With.f k a0_0 a0_1 16 0).bind fun bt148 => (login_numbered.j0 k a2 a3 a4 a5 bt148.1 bt148.2))) = some (r1, r2) := h
 clear h
 have HC7 := Aside0.mk H
 clear H
 go_enter Tryz.func23, Tryz.ntmps23
 go_upto_if 16 with (first | ((with_reducible refine gate_dst (N := 6) rfl ?_); refine box_event ?hg (N := 6) ?hd (cs := #[.string a0_0, .string a0_1]) (t := 35) ?hr ?_; (case hd => rfl); (case hg => rfl); (case hr => first | (go_simp; done) | (go_simp; rfl)); intro gb143 hg w8 hbox hb; have n0_ := Aside0.mk (below_step (hb_ HB) hb); have n1_ := Aside0.mk (hbox); have n2_ := Aside0.mk ((by rw [hg]; exact (below_size (hb_ HB)) : w.heap.size ≤ gb143)); have n3_ := Aside0.mk ((by rw [hg]; exact (below_size (hb_ HB)) : w.heap.size ≤ gb143)); clear HB; have HB := n0_; have BK143 := n1_; have GW143 := n2_; have GE143 := n3_; clear n0_ n1_ n2_ n3_; clear hb hbox hg) | ((with_reducible refine gate_dst (N := 7) rfl ?_); refine box_event ?hg (N := 7) ?hd (cs := #[.string a1_0, .string a1_1]) (t := 35) ?hr ?_; (case hd => rfl); (case hg => rfl); (case hr => first | (go_simp; done) | (go_simp; rfl)); intro gb144 hg w9 hbox hb; have n0_ := Aside0.mk (blk_below (bk_ BK143) hb); have n1_ := Aside0.mk (below_step (hb_ HB) hb); have n2_ := Aside0.mk (hbox); have n3_ := Aside0.mk ((by rw [hg]; exact (below_size (hb_ HB)) : w.heap.size ≤ gb144)); have n4_ := Aside0.mk ((by rw [hg]; exact (below_size (hb_ HB)) : w.heap.size ≤ gb144)); have n5_ := Aside0.mk ((by rw [hg]; exact Nat.ne_of_lt (blk_lt (g := gb143) (o := .cells #[.string a0_0, .string a0_1] 35 (0, 0)) (bk_ BK143)) : gb143 ≠ gb144)); have n6_ := Aside0.mk ((by rw [hg]; exact Nat.ne_of_gt (blk_lt (g := gb143) (o := .cells #[.string a0_0, .string a0_1] 35 (0, 0)) (bk_ BK143)) : gb144 ≠ gb143)); clear BK143; clear HB; have BK143 := n0_; have HB := n1_; have BK144 := n2_; have GW144 := n3_; have GE144 := n4_; have NB143_144 := n5_; have NB144_143 := n6_; clear n0_ n1_ n2_ n3_ n4_ n5_ n6_; clear hb hbox hg) | ((with_reducible refine gate_dst (N := 12) rfl ?_); refine box_event ?hg (N := 12) ?hd (cs := #[.string (⟨#[]⟩ : ByteArray), .string (⟨#[]⟩ : ByteArray)]) (t := 35) ?hr ?_; (case hd => rfl); (case hg => rfl); (case hr => first | (go_simp; done) | (go_simp; rfl)); intro gb145 hg w10 hbox hb; have n0_ := Aside0.mk (blk_below (bk_ BK143) hb); have n1_ := Aside0.mk (blk_below (bk_ BK144) hb); have n2_ := Aside0.mk (below_step (hb_ HB) hb); have n3_ := Aside0.mk (hbox); have n4_ := Aside0.mk ((by rw [hg]; exact (below_size (hb_ HB)) : w.heap.size ≤ gb145)); have n5_ := Aside0.mk ((by rw [hg]; exact (below_size (hb_ HB)) : w.heap.size ≤ gb145)); have n6_ := Aside0.mk ((by rw [hg]; exact Nat.ne_of_lt (blk_lt (g := gb143) (o := .cells #[.string a0_0, .string a0_1] 35 (0, 0)) (bk_ BK143)) : gb143 ≠ gb145)); have n7_ := Aside0.mk ((by rw [hg]; exact Nat.ne_of_gt (blk_lt (g := gb143) (o := .cells #[.string a0_0, .string a0_1] 35 (0, 0)) (bk_ BK143)) : gb145 ≠ gb143)); have n8_ := Aside0.mk ((by rw [hg]; exact Nat.ne_of_lt (blk_lt (g := gb144) (o := .cells #[.string a1_0, .string a1_1] 35 (0, 0)) (bk_ BK144)) : gb144 ≠ gb145)); have n9_ := Aside0.mk ((by rw [hg]; exact Nat.ne_of_gt (blk_lt (g := gb144) (o := .cells #[.string a1_0, .string a1_1] 35 (0, 0)) (bk_ BK144)) : gb145 ≠ gb144)); clear BK143; clear BK144; clear HB; have BK143 := n0_; have BK144 := n1_; have HB := n2_; have BK145 := n3_; have GW145 := n4_; have GE145 := n5_; have NB143_145 := n6_; have NB145_143 := n7_; have NB144_145 := n8_; have NB145_144 := n9_; clear n0_ n1_ n2_ n3_ n4_ n5_ n6_ n7_ n8_ n9_; clear hb hbox hg; have hnb11 := NB144_143.out; have hnc11 := NB143_144.out; have hnb12 := NB144_145.out; have hnc12 := NB145_144.out; have hcz13_0 : w10.cell? ⟨gb144, 0, none⟩ = some (.string a1_0) := (blk_cell BK144.out 0).trans rfl; have hcz13_1 : w10.cell? ⟨gb144, 1, none⟩ = some (.string a1_1) := (blk_cell BK144.out 1).trans rfl; have hfz13_0 := blk_frozen BK144.out 0; have hfz13_1 := blk_frozen BK144.out 1))
 (try simp only [Act.put, la_, lb_, lc_])
 go_cut [] (fun wc => ∃ (kq : Nat) (x144000_6 : ByteArray) (x144001_6 : ByteArray), Aside0 (login_numbered.j0 kq a2 a3 a4 a5 x144000_6 x144001_6 = some (r1, r2)) ∧ Aside0 (kq ≤ k) ∧ Aside0 (wc.heap[gb143]? = some (.cells #[.string x144000_6, .string x144001_6] 35 (0, 0))) ∧ Aside0 (wc.heap[gb144]? = some (.cells #[.string a1_0, .string a1_1] 35 (0, 0))) ∧ Aside0 (wc.heap[gb145]? = some (.cells #[.string (⟨#[]⟩ : ByteArray), .string (⟨#[]⟩ : ByteArray)] 35 (0, 0))) ∧ Aside0 (Below w.heap.size w wc))
 case first =>
  have H := HC7.out
  clear HC7
  refine neg_first (p := ((a1_0.size : Int) = 48)) (fun c14 => ?_) (fun c14 => ?_)
  ·rw [if_neg c14] at H
   have c14b0 : ((a1_0.size : Int) == 48) = false := beq_eq_false_iff_ne.mpr c14
   have c14b1 : ((a1_0.size : Int) != 48) = true := bne_iff_ne.mpr c14
   (first | rw [c14b0] | (simp only [i64_w, i32_w]; rw [c14b0]) | skip)
   replace H := Option.bind_eq_some_iff.mp H
   obtain ⟨⟨t148, t149⟩, A200, H⟩ := H
   try dsimp only at H
   have A20 := Aside0.mk A200
   clear A200
   have H' := Aside0.mk H
   clear H
   have hnb21 := NB143_144.out
   have hnc21 := NB144_143.out
   have hnb22 := NB143_145.out
   have hnc22 := NB145_143.out
   have hcz23_0 : w10.cell? ⟨gb143, 0, none⟩ = some (.string a0_0) := (blk_cell BK143.out 0).trans rfl
   have hcz23_1 : w10.cell? ⟨gb143, 1, none⟩ = some (.string a0_1) := (blk_cell BK143.out 1).trans rfl
   have hfz23_0 := blk_frozen BK143.out 0
   have hfz23_1 := blk_frozen BK143.out 1
   go_wp2_with (first | ((with_reducible refine gate_callee (f := 45) rfl ?_); refine goesL_ (some 28) rfl rfl Tryz.func45 (by kernel_rfl) rfl #[.agg #[.string a0_0, .string a0_1], .int .i64 16, .int .u32 0] rfl (by (try simp only [List.map_toArray, List.map_cons, List.map_nil]); first | done | rfl | (simp only [List.length_drop, List.length_take]; rfl)) ?_; (with_reducible refine (ipdu_With.calls k a0_0 a0_1 16 0 t148 t149 _ A20.out).mono ?_); rintro e w24 ⟨rfl, hb⟩; refine ⟨_, rfl, ?_⟩; have n0_ := Aside0.mk (blk_below (bk_ BK143) hb); have n1_ := Aside0.mk (blk_below (bk_ BK144) hb); have n2_ := Aside0.mk (blk_below (bk_ BK145) hb); have n3_ := Aside0.mk (below_step (hb_ HB) hb); clear BK143; clear BK144; clear BK145; clear HB; have BK143 := n0_; have BK144 := n1_; have BK145 := n2_; have HB := n3_; clear n0_ n1_ n2_ n3_; (try clear hb); (try clear hb2); (try clear hk); (try clear hi); have hcz25_0 : w24.cell? ⟨gb143, 0, none⟩ = some (.string a0_0) := (blk_cell BK143.out 0).trans rfl; have hcz25_1 : w24.cell? ⟨gb143, 1, none⟩ = some (.string a0_1) := (blk_cell BK143.out 1).trans rfl; have hfz25_0 := blk_frozen BK143.out 0; have hfz25_1 := blk_frozen BK143.out 1))
   go_meet
   case rel => exact ⟨_, (t148), (t149), H', ⟨by first | omega | exact Nat.le_refl _⟩, ⟨by (with_reducible repeat (first | refine blk_drewN ?_ _ | refine blk_drew ?_ | refine blk_alloc ?_ _)); refine blk_put (cs := #[.string t148, .string a0_1]) ?_ 1 _ rfl; (with_reducible repeat (first | refine blk_drewN ?_ _ | refine blk_drew ?_ | refine blk_alloc ?_ _)); refine blk_put (cs := #[.string a0_0, .string a0_1]) ?_ 0 _ rfl; (with_reducible repeat (first | refine blk_drewN ?_ _ | refine blk_drew ?_ | refine blk_alloc ?_ _)); exact BK143.out⟩, ⟨by (with_reducible repeat (first | refine blk_drewN ?_ _ | refine blk_drew ?_ | refine blk_alloc ?_ _ | refine blk_far ?_ NB144_143.out _)); exact BK144.out⟩, ⟨by (with_reducible repeat (first | refine blk_drewN ?_ _ | refine blk_drew ?_ | refine blk_alloc ?_ _ | refine blk_far ?_ NB145_143.out _)); exact BK145.out⟩, ⟨hb_ HB⟩⟩
  rw [if_pos c14] at H
  have c14b0 : ((a1_0.size : Int) == 48) = true := beq_iff_eq.mpr c14
  have c14b1 : ((a1_0.size : Int) != 48) = false := bne_eq_false_iff_eq.mpr c14
  clear c14
  (first | rw [c14b0] | (simp only [i64_w, i32_w]; rw [c14b0]) | skip)
  refine neg_first (p := (8 ≤ 14)) (fun c15 => ?_) (fun c15 => ?_)
  ·rw [if_neg c15] at H
   exact absurd H (by simp)
  rw [if_pos c15] at H
  have c15b0 := eq_true c15
  have c15b1 : decide (8 ≤ 14) = true := decide_eq_true c15
  clear c15
  refine neg_first (p := (14 ≤ (a1_0.size : Int))) (fun c16 => ?_) (fun c16 => ?_)
  ·rw [if_neg c16] at H
   exact absurd H (by simp)
  rw [if_pos c16] at H
  have c16b0 := eq_true c16
  have c16b1 : decide (14 ≤ (a1_0.size : Int)) = true := decide_eq_true c16
  clear c16
  replace H := Option.bind_eq_some_iff.mp H
  obtain ⟨⟨t146, t147⟩, A170, H⟩ := H
  try dsimp only at H
  have A17 := Aside0.mk A170
  clear A170
  have H' := Aside0.mk H
  clear H
  try go_wp2
  have n0_ := Aside0.mk (blk_drew BK143.out)
  have n1_ := Aside0.mk (blk_drew BK144.out)
  have n2_ := Aside0.mk (blk_drew BK145.out)
  have n3_ := Aside0.mk (below_drew1 HB.out)
  clear BK143
  clear BK144
  clear BK145
  clear HB
  have BK143 := n0_
  have BK144 := n1_
  have BK145 := n2_
  have HB := n3_
  clear n0_ n1_ n2_ n3_
  refine start_ (n := 11) (S := fun w' => w'.cell? ⟨gb143, 0, none⟩ = some (.string a0_0) ∧ w'.cell? ⟨gb143, 1, none⟩ = some (.string a0_1) ∧ w'.cell? ⟨gb144, 0, none⟩ = some (.string a1_0) ∧ w'.cell? ⟨gb144, 1, none⟩ = some (.string a1_1)) (ds := [10]) d23x0 (by kernel_rfl) rfl rfl ⟨(blk_cell BK143.out 0).trans rfl, (blk_cell BK143.out 1).trans rfl, (blk_cell BK144.out 0).trans rfl, (blk_cell BK144.out 1).trans rfl⟩ (fun hHeld => ?_); refine with_tabW login_numbered.tab2 login_numbered.bits2 (fun HT_ HW_ => ?_)
  generalize w10.drew = w18 at BK143 BK144 BK145 HB hHeld ⊢
  refine pon_ 0 (some 18) d23x1 HT_.out ?_
  refine pon_ 2 (some 20) d23x2 HT_.out ?_
  refine ptk_ 1 (some 19) d23x3 HT_.out HW_.out hHeld ?_
  refine ptk_ 3 (some 21) d23x4 HT_.out HW_.out hHeld ?_
  refine pon_ 4 (some 22) d23x5 HT_.out ?_
  refine one_ (i := 5) (N := some 23) d23x6 rfl rfl (one_of HT_.out (by kernel_rfl)) (by decide) (fun K hK => ?_)
  refine goes_ Tryz.func25 (by kernel_rfl) rfl #[.string a0_0, .int .i64 8, .string (a1_0.extract 8 14)] (by rfl) rfl rfl (by (try simp only [List.map_toArray, List.map_cons, List.map_nil]); first | done | rfl | (simp only [List.length_drop, List.length_take]; rfl)) ?_
  with_reducible refine (fields_Set.calls a0_0 8 (a1_0.extract 8 14) t146 t147 _ A17.out).mono ?_
  rintro e w' ⟨rfl, ⟨nd, rfl⟩⟩
  refine ⟨_, rfl, ?_⟩
  refine hK.out _ _ ⟨(blk_cell BK143.out 0).trans rfl, (blk_cell BK143.out 1).trans rfl, (blk_cell BK144.out 0).trans rfl, (blk_cell BK144.out 1).trans rfl⟩ (fun hHeld => ?_)
  clear hK K
  refine norm_ (a' := ?_) ?_ ?_
  rotate_left
  ·show Act.put _ (some 23) _ = _
   simp only [Act.put, la_, lb_, lc_, i64_w, i32_w]
   rfl
  refine pon_ 6 (some 17) d23x7 HT_.out ?_
  refine pon_ 7 (some 24) d23x8 HT_.out ?_
  refine pon_ 8 (some 25) d23x9 HT_.out ?_
  refine pon_ 9 (some 26) d23x10 HT_.out ?_
  refine last_ (i := 10) (N := none) d23x11 rfl rfl (one_of HT_.out (by kernel_rfl)) (by decide) (fun K hK => ?_)
  have hs19 : w18.cell? ⟨gb143, 0, none⟩ = some (.string a0_0) := (blk_cell BK143.out 0).trans rfl
  have hfs19 := blk_frozen BK143.out 0
  have hns19_1 := NB144_143.out
  have hns19_2 := NB145_143.out
  have hms19_1 := NB143_144.out
  have hms19_2 := NB143_145.out
  refine skip_ (w1 := ?_) (by rfl) rfl ?_ ?_
  rotate_left
  ·go_simp
   rfl
  refine hK.out _ _ ?_
  clear hK K
  refine done_ (done_of HT_.out (by kernel_rfl)) ?_
  try go_wp2
  go_meet
  case rel => exact ⟨_, (t146), (a0_1), H', ⟨by first | omega | exact Nat.le_refl _⟩, ⟨by (with_reducible repeat (first | refine blk_drewN ?_ _ | refine blk_drew ?_ | refine blk_alloc ?_ _)); refine blk_put (cs := #[.string a0_0, .string a0_1]) ?_ 0 _ rfl; (with_reducible repeat (first | refine blk_drewN ?_ _ | refine blk_drew ?_ | refine blk_alloc ?_ _)); exact BK143.out⟩, ⟨by (with_reducible repeat (first | refine blk_drewN ?_ _ | refine blk_drew ?_ | refine blk_alloc ?_ _ | refine blk_far ?_ NB144_143.out _)); exact BK144.out⟩, ⟨by (with_reducible repeat (first | refine blk_drewN ?_ _ | refine blk_drew ?_ | refine blk_alloc ?_ _ | refine blk_far ?_ NB145_143.out _)); exact BK145.out⟩, ⟨hb_ HB⟩⟩
 case rest =>
  clear HC7
  try clear c1
  try clear c2
  try clear p2
  try clear c4
  try clear c11
  try clear c12
  try clear c14
  try clear c14b0
  try clear c14b1
  try clear c15
  try clear c15b0
  try clear c15b1
  try clear c16
  try clear c16b0
  try clear c16b1
  try clear c21
  try clear c22
  try clear c23
  try clear c25
  try clear hcz13_0
  try clear hcz13_1
  try clear hcz23_0
  try clear hcz23_1
  try clear hcz25_0
  try clear hcz25_1
  try clear hfz13_0
  try clear hfz13_1
  try clear hfz23_0
  try clear hfz23_1
  try clear hfz25_0
  try clear hfz25_1
  obtain ⟨kq, x144000_6, x144001_6, HA, HJ6, BK143, BK144, BK145, HB⟩ := hcut
  cases kq with
  | zero => exact absurd HA.out (by simp [login_numbered.j0])
  | succ kj6 =>
   have H := HA.out
   clear HA
   simp only [login_numbered.j0] at H
   replace H := Option.bind_eq_some_iff.mp H
   obtain ⟨⟨t150, t151⟩, A260, H⟩ := H
   try dsimp only at H
   have A26 := Aside0.mk A260
   clear A260
   replace H := Option.bind_eq_some_iff.mp H
   obtain ⟨⟨t152, t153⟩, A270, H⟩ := H
   try dsimp only at H
   have A27 := Aside0.mk A270
   clear A270
   replace H := Option.bind_eq_some_iff.mp H
   obtain ⟨⟨t154, t155⟩, A280, H⟩ := H
   try dsimp only at H
   have A28 := Aside0.mk A280
   clear A280
   obtain ⟨y156, hy156⟩ : ∃ y_ : List Int, y_ = (([(a4) % 256, (a5) % 256] : List Int)) := ⟨_, rfl⟩
   replace H : ((fields_Set.f t154 36 (strOfNums y156)).bind fun bt159 => (some (bt159.1, t155))) = some (r1, r2) := by first | (rw [hy156]; with_reducible exact H) | (have H2_ := (Option.bind_some _ _).symm.trans H; rw [hy156]; with_reducible exact H2_) | (have H2_ := (Option.bind_some _ _).symm.trans H; with_reducible exact H2_) | with_reducible exact H | (rw [hy156]; exact H) | exact H
   have Ny156 := Aside0.mk hy156
   clear hy156
   replace H := Option.bind_eq_some_iff.mp H
   obtain ⟨⟨t159, t160⟩, A290, H⟩ := H
   try dsimp only at H
   have A29 := Aside0.mk A290
   clear A290
   simp only [Option.some.injEq, Prod.mk.injEq] at H
   obtain ⟨rfl, rfl⟩ := H
   have hnb30 := NB143_144.out
   have hnc30 := NB144_143.out
   have hnb31 := NB143_145.out
   have hnc31 := NB145_143.out
   have hcz32_0 : wc.cell? ⟨gb143, 0, none⟩ = some (.string x144000_6) := (blk_cell BK143.out 0).trans rfl
   have hcz32_1 : wc.cell? ⟨gb143, 1, none⟩ = some (.string x144001_6) := (blk_cell BK143.out 1).trans rfl
   have hfz32_0 := blk_frozen BK143.out 0
   have hfz32_1 := blk_frozen BK143.out 1
   go_wp2_with (first | ((with_reducible refine gate_callee (f := 45) rfl ?_); refine goesL_ (some 31) rfl rfl Tryz.func45 (by kernel_rfl) rfl #[.agg #[.string x144000_6, .string x144001_6], .int .i64 24, .int .u32 a3] rfl (by (try simp only [List.map_toArray, List.map_cons, List.map_nil]); first | done | rfl | (simp only [List.length_drop, List.length_take]; rfl)) ?_; (with_reducible refine (ipdu_With.calls kj6 x144000_6 x144001_6 24 a3 t150 t151 _ A26.out).mono ?_); rintro e w33 ⟨rfl, hb⟩; refine ⟨_, rfl, ?_⟩; have n0_ := Aside0.mk (blk_below (bk_ BK143) hb); have n1_ := Aside0.mk (blk_below (bk_ BK144) hb); have n2_ := Aside0.mk (blk_below (bk_ BK145) hb); have n3_ := Aside0.mk (below_step (hb_ HB) hb); clear BK143; clear BK144; clear BK145; clear HB; have BK143 := n0_; have BK144 := n1_; have BK145 := n2_; have HB := n3_; clear n0_ n1_ n2_ n3_; (try clear hb); (try clear hb2); (try clear hk); (try clear hi); have hcz34_0 : w33.cell? ⟨gb143, 0, none⟩ = some (.string x144000_6) := (blk_cell BK143.out 0).trans rfl; have hcz34_1 : w33.cell? ⟨gb143, 1, none⟩ = some (.string x144001_6) := (blk_cell BK143.out 1).trans rfl; have hfz34_0 := blk_frozen BK143.out 0; have hfz34_1 := blk_frozen BK143.out 1) | ((with_reducible refine gate_callee (f := 45) rfl ?_); refine goesL_ (some 34) rfl rfl Tryz.func45 (by kernel_rfl) rfl #[.agg #[.string t150, .string t151], .int .i64 28, .int .u32 a2] rfl (by (try simp only [List.map_toArray, List.map_cons, List.map_nil]); first | done | rfl | (simp only [List.length_drop, List.length_take]; rfl)) ?_; (with_reducible refine (ipdu_With.calls kj6 t150 t151 28 a2 t152 t153 _ A27.out).mono ?_); rintro e w35 ⟨rfl, hb⟩; refine ⟨_, rfl, ?_⟩; have n0_ := Aside0.mk (blk_below (g := gb143) (o := .cells #[.string t150, .string t151] 35 (0, 0)) (by (with_reducible repeat (first | refine blk_drewN ?_ _ | refine blk_drew ?_ | refine blk_alloc ?_ _)); refine blk_put (cs := #[.string t150, .string x144001_6]) ?_ 1 _ rfl; (with_reducible repeat (first | refine blk_drewN ?_ _ | refine blk_drew ?_ | refine blk_alloc ?_ _)); refine blk_put (cs := #[.string x144000_6, .string x144001_6]) ?_ 0 _ rfl; (with_reducible repeat (first | refine blk_drewN ?_ _ | refine blk_drew ?_ | refine blk_alloc ?_ _)); exact BK143.out) hb); have n1_ := Aside0.mk (blk_below (g := gb144) (o := .cells #[.string a1_0, .string a1_1] 35 (0, 0)) (by (with_reducible repeat (first | refine blk_drewN ?_ _ | refine blk_drew ?_ | refine blk_alloc ?_ _ | refine blk_far ?_ NB144_143.out _)); exact BK144.out) hb); have n2_ := Aside0.mk (blk_below (g := gb145) (o := .cells #[.string (⟨#[]⟩ : ByteArray), .string (⟨#[]⟩ : ByteArray)] 35 (0, 0)) (by (with_reducible repeat (first | refine blk_drewN ?_ _ | refine blk_drew ?_ | refine blk_alloc ?_ _ | refine blk_far ?_ NB145_143.out _)); exact BK145.out) hb); have n3_ := Aside0.mk (below_step (hb_ HB) hb); clear BK143; clear BK144; clear BK145; clear HB; have BK143 := n0_; have BK144 := n1_; have BK145 := n2_; have HB := n3_; clear n0_ n1_ n2_ n3_; (try clear hb); (try clear hb2); (try clear hk); (try clear hi); have hcz36_0 : w35.cell? ⟨gb143, 0, none⟩ = some (.string t150) := (blk_cell BK143.out 0).trans rfl; have hcz36_1 : w35.cell? ⟨gb143, 1, none⟩ = some (.string t151) := (blk_cell BK143.out 1).trans rfl; have hfz36_0 := blk_frozen BK143.out 0; have hfz36_1 := blk_frozen BK143.out 1) | ((with_reducible refine gate_callee (f := 45) rfl ?_); refine goesL_ (some 39) rfl rfl Tryz.func45 (by kernel_rfl) rfl #[.agg #[.string t152, .string t153], .int .i64 32, .int .u32 ((((a2 + 16) % 4294967296) - 1) % 4294967296)] rfl (by (try simp only [List.map_toArray, List.map_cons, List.map_nil]); first | done | rfl | (simp only [List.length_drop, List.length_take]; rfl)) ?_; (with_reducible refine (ipdu_With.calls kj6 t152 t153 32 ((((a2 + 16) % 4294967296) - 1) % 4294967296) t154 t155 _ A28.out).mono ?_); rintro e w37 ⟨rfl, hb⟩; refine ⟨_, rfl, ?_⟩; have n0_ := Aside0.mk (blk_below (g := gb143) (o := .cells #[.string t152, .string t153] 35 (0, 0)) (by (with_reducible repeat (first | refine blk_drewN ?_ _ | refine blk_drew ?_ | refine blk_alloc ?_ _)); refine blk_put (cs := #[.string t152, .string t151]) ?_ 1 _ rfl; (with_reducible repeat (first | refine blk_drewN ?_ _ | refine blk_drew ?_ | refine blk_alloc ?_ _)); refine blk_put (cs := #[.string t150, .string t151]) ?_ 0 _ rfl; (with_reducible repeat (first | refine blk_drewN ?_ _ | refine blk_drew ?_ | refine blk_alloc ?_ _)); exact BK143.out) hb); have n1_ := Aside0.mk (blk_below (g := gb144) (o := .cells #[.string a1_0, .string a1_1] 35 (0, 0)) (by (with_reducible repeat (first | refine blk_drewN ?_ _ | refine blk_drew ?_ | refine blk_alloc ?_ _ | refine blk_far ?_ NB144_143.out _)); exact BK144.out) hb); have n2_ := Aside0.mk (blk_below (g := gb145) (o := .cells #[.string (⟨#[]⟩ : ByteArray), .string (⟨#[]⟩ : ByteArray)] 35 (0, 0)) (by (with_reducible repeat (first | refine blk_drewN ?_ _ | refine blk_drew ?_ | refine blk_alloc ?_ _ | refine blk_far ?_ NB145_143.out _)); exact BK145.out) hb); have n3_ := Aside0.mk (below_step (hb_ HB) hb); clear BK143; clear BK144; clear BK145; clear HB; have BK143 := n0_; have BK144 := n1_; have BK145 := n2_; have HB := n3_; clear n0_ n1_ n2_ n3_; (try clear hb); (try clear hb2); (try clear hk); (try clear hi); have hcz38_0 : w37.cell? ⟨gb143, 0, none⟩ = some (.string t152) := (blk_cell BK143.out 0).trans rfl; have hcz38_1 : w37.cell? ⟨gb143, 1, none⟩ = some (.string t153) := (blk_cell BK143.out 1).trans rfl; have hfz38_0 := blk_frozen BK143.out 0; have hfz38_1 := blk_frozen BK143.out 1) | ((with_reducible refine gate_dst (N := 47) rfl ?_); refine Kd.R_lit (Kd.int .u8) _ 5 ?hg (N := 47) ?hd (xs := ([(a4) % 256, (a5) % 256] : List Int)) (inner := [.int .u8 ((a4) % 256), .int .u8 ((a5) % 256)]) (ok := fun _ => True) (okp := fun _ => True) ?hr ?hp (fun _ hk => hk) trivial (Below.refl _ _) (Nat.le_refl _) (by simp) ?_; (case hd => rfl); (case hg => rfl); (case hr => first | (go_simp; done) | (go_simp; rfl)); (case hp => exact (Reps.one (show Kd.M (Kd.int .u8) _ _ _ ((a4) % 256) [.int .u8 ((a4) % 256)] from rfl) (Reps.one (show Kd.M (Kd.int .u8) _ _ _ ((a5) % 256) [.int .u8 ((a5) % 256)] from rfl) (Reps.none _ _)))); intro v157 w39 ho40 hb hg_ hnew_; clear hg_ hnew_; (first | rw [← Ny156.out] at ho40 | (simp only [Int.reduceToNat] at ho40; rw [← Ny156.out] at ho40)); have n0_ := Aside0.mk (Kd.R_lower ho40 (below_size (hb_ HB))); have n1_ := Aside0.mk (blk_below (g := gb143) (o := .cells #[.string t154, .string t155] 35 (0, 0)) (by (with_reducible repeat (first | refine blk_drewN ?_ _ | refine blk_drew ?_ | refine blk_alloc ?_ _)); refine blk_put (cs := #[.string t154, .string t153]) ?_ 1 _ rfl; (with_reducible repeat (first | refine blk_drewN ?_ _ | refine blk_drew ?_ | refine blk_alloc ?_ _)); refine blk_put (cs := #[.string t152, .string t153]) ?_ 0 _ rfl; (with_reducible repeat (first | refine blk_drewN ?_ _ | refine blk_drew ?_ | refine blk_alloc ?_ _)); exact BK143.out) hb); have n2_ := Aside0.mk (blk_below (g := gb144) (o := .cells #[.string a1_0, .string a1_1] 35 (0, 0)) (by (with_reducible repeat (first | refine blk_drewN ?_ _ | refine blk_drew ?_ | refine blk_alloc ?_ _ | refine blk_far ?_ NB144_143.out _)); exact BK144.out) hb); have n3_ := Aside0.mk (blk_below (g := gb145) (o := .cells #[.string (⟨#[]⟩ : ByteArray), .string (⟨#[]⟩ : ByteArray)] 35 (0, 0)) (by (with_reducible repeat (first | refine blk_drewN ?_ _ | refine blk_drew ?_ | refine blk_alloc ?_ _ | refine blk_far ?_ NB145_143.out _)); exact BK145.out) hb); have n4_ := Aside0.mk (below_step (hb_ HB) hb); clear BK143; clear BK144; clear BK145; clear HB; have HO158 := n0_; have BK143 := n1_; have BK144 := n2_; have BK145 := n3_; have HB := n4_; clear n0_ n1_ n2_ n3_ n4_; clear hb ho40; have hcv41 := own_string (P := Tryz.prog) Tryz.underlying78 Tryz.underlying5 Tryz.underlying9 (Kd.own_of_R HO158.out)) | ((with_reducible refine gate_callee (f := 25) rfl ?_); refine goesL_ (some 49) rfl rfl Tryz.func25 (by kernel_rfl) rfl #[.string t154, .int .i64 36, .string (strOfNums y156)] rfl (by (try simp only [List.map_toArray, List.map_cons, List.map_nil]); first | done | rfl | (simp only [List.length_drop, List.length_take]; rfl)) ?_; (with_reducible refine (fields_Set.calls t154 36 (strOfNums y156) t159 t160 _ A29.out).mono ?_); rintro e w' ⟨rfl, ⟨nd, rfl⟩⟩; refine ⟨_, rfl, ?_⟩; (try (rw [drewN_self w39]; generalize hq_ : World.drewN w39 _ = w39; have n0_ : Aside0 (Kd.R (Kd.int .u8) 5 w39 w.heap.size (fun _ => True) v157 y156) := ⟨by rw [← hq_]; exact (by (with_reducible repeat (first | apply Kd.R_alloc | apply Kd.R_drewN | apply Kd.R_drew)); exact HO158.out)⟩; have n1_ : Aside0 (w39.heap[gb143]? = some (.cells #[.string t154, .string t155] 35 (0, 0))) := ⟨by rw [← hq_]; exact (bk_ BK143)⟩; have n2_ : Aside0 (w39.heap[gb144]? = some (.cells #[.string a1_0, .string a1_1] 35 (0, 0))) := ⟨by rw [← hq_]; exact (bk_ BK144)⟩; have n3_ : Aside0 (w39.heap[gb145]? = some (.cells #[.string (⟨#[]⟩ : ByteArray), .string (⟨#[]⟩ : ByteArray)] 35 (0, 0))) := ⟨by rw [← hq_]; exact (bk_ BK145)⟩; have n4_ : Aside0 (Below w.heap.size w w39) := ⟨by rw [← hq_]; exact (hb_ HB)⟩; clear HO158 BK143 BK144 BK145 HB hq_; have HO158 := n0_; have BK143 := n1_; have BK144 := n2_; have BK145 := n3_; have HB := n4_; clear n0_ n1_ n2_ n3_ n4_)); have hcz42_0 : w39.cell? ⟨gb143, 0, none⟩ = some (.string t154) := (blk_cell BK143.out 0).trans rfl; have hcz42_1 : w39.cell? ⟨gb143, 1, none⟩ = some (.string t155) := (blk_cell BK143.out 1).trans rfl; have hfz42_0 := blk_frozen BK143.out 0; have hfz42_1 := blk_frozen BK143.out 1; have hnb43 := NB145_144.out; have hnc43 := NB144_145.out; have hcz44_0 : w39.cell? ⟨gb145, 0, none⟩ = some (.string (⟨#[]⟩ : ByteArray)) := (blk_cell BK145.out 0).trans rfl; have hcz44_1 : w39.cell? ⟨gb145, 1, none⟩ = some (.string (⟨#[]⟩ : ByteArray)) := (blk_cell BK145.out 1).trans rfl; have hfz44_0 := blk_frozen BK145.out 0; have hfz44_1 := blk_frozen BK145.out 1))
   refine bodyPost_ret (results_cell_row rfl _ _ gb145 35 #[.string t159, .string t155] (0, 0) _ rfl (by (with_reducible repeat (first | refine blk_drewN ?_ _ | refine blk_drew ?_ | refine blk_alloc ?_ _)); refine blk_put (cs := #[.string t159, .string (⟨#[]⟩ : ByteArray)]) ?_ 1 _ rfl; (with_reducible repeat (first | refine blk_drewN ?_ _ | refine blk_drew ?_ | refine blk_alloc ?_ _)); refine blk_put (cs := #[.string (⟨#[]⟩ : ByteArray), .string (⟨#[]⟩ : ByteArray)]) ?_ 0 _ rfl; (with_reducible repeat (first | refine blk_drewN ?_ _ | refine blk_drew ?_ | refine blk_alloc ?_ _ | refine blk_far ?_ NB145_143.out _)); exact BK145.out) Tryz.underlying35 rfl (by kernel_rfl)) rfl ?_
   exact ⟨by first | rfl | (simp [errW_none, errW_some] <;> rfl) | (simp [*, errW_none, errW_some] <;> rfl) | (simp [bt, *]; done) | (unfold bt; simp [*]; done), by repeat (first | (with_reducible first | exact HB.out | apply below_alloc | apply pw_below_drewN | apply below_drew1 | refine below_set ?_ GE143.out | refine below_set ?_ GE144.out | refine below_set ?_ GE145.out) | exact HB.out)⟩
abbrev refV (c d : Int) : PanicEntry := { v := .iface 55 (.agg #[.int .i64 c, .int .i64 d]), recovered := false }
theorem want_ok (c d : Int) (w : World) : Calls Tryz.prog 47 #[.bool true, .int .i64 c, .int .i64 d] w fun e w' => e = .returned (.tuple #[]) ∧ Drawn0 w w' := by
  go_enter Tryz.func47, Tryz.ntmps47
  go_wp2
  go_end0
  exact ⟨rfl, ⟨0, rfl⟩⟩
theorem want_no (c d : Int) (w : World) : Calls Tryz.prog 47 #[.bool false, .int .i64 c, .int .i64 d] w fun e w' => e = .panicked [refV c d] ∧ Drawn0 w w' := by
  have hp : ∀ (v : Value) (w : World), (Instr.panic (.iface 55 v)).run Tryz.prog w = .halt (.panic (.iface 55 v)) w := fun _ _ => rfl
  go_enter Tryz.func47, Tryz.ntmps47
  go_wp2
  exact ⟨rfl, rfl, ⟨0, rfl⟩⟩
end Go.Proofs.YthglbmihbmneaaaGreatDoor.P
namespace Go.Proofs.YthglbmihbmneaaaGreatDoor.P
open Go.RowKit Go.Proofs.YthglbmihbmneaaaGreatDoorW.PrintWords Go.Proofs.YthglbmihbmneaaaGreatDoorW.PrintLast Go.Proofs.YthglbmihbmneaaaGreatDoorW.PrintMore
attribute [local go_sem] max2_int min2_int max_two min_two max_three min_three max_four min_four   -- for this text's walks alone
set_option linter.unusedVariables false
set_option linter.unusedSimpArgs false
set_option linter.unnecessarySimpa false
def ipdu_Kind.f (a0_0 : ByteArray) (a0_1 : ByteArray) : Option (Int × Bool) := if a0_0.toList = ([] : List UInt8) then (some (0, false)) else (if 0 < (a0_0.size : Int) then (some (wrap64 (Go.bits .and .u8 (bt a0_0 0) 63), ((Go.bits .and .u8 (bt a0_0 0) 64) != 0))) else (none))
set_option maxHeartbeats 8000000 in
set_option maxRecDepth 100000 in
theorem ipdu_Kind.calls (a0_0 : ByteArray) (a0_1 : ByteArray) (r1 : Int) (r2 : Bool) (w : World) (h : ipdu_Kind.f a0_0 a0_1 = some (r1, r2)) :
    Calls Tryz.prog 64 #[.agg #[.string a0_0, .string a0_1]] w fun e w' => e = .returned (.tuple #[.int .i64 r1, .bool r2]) ∧ Below w.heap.size w w' := by
  have hu35 := Tryz.underlying35
  have HB := Aside0.mk (Below.refl w.heap.size w)
  have H : (if a0_0.toList = ([] : List UInt8) then (some (0, false)) else (if 0 < (a0_0.size : Int) then (some (wrap64 (Go.bits .and .u8 (bt a0_0 0) 63), ((Go.bits .and .u8 (bt a0_0 0) 64) != 0))) else (none))) = some (r1, r2) := h
  clear h
  by_cases c2 : a0_0.toList = ([] : List UInt8)
  · rw [if_pos c2] at H
    have c2b0 : (a0_0.toList == ([] : List UInt8)) = true := beq_iff_eq.mpr c2
    have c2b1 : (a0_0.toList != ([] : List UInt8)) = false := bne_eq_false_iff_eq.mpr c2
    (try (have c2b2 : (a0_0 = ByteArray.empty) = True := eq_true (by have h_ := c2; rw [ByteArray.toList_eq] at h_; exact ByteArray.ext (Array.toList_eq_nil_iff.mp h_))))
    clear c2
    simp only [Option.some.injEq, Prod.mk.injEq] at H
    obtain ⟨rfl, rfl⟩ := H
    go_enter Tryz.func64, Tryz.ntmps64
    go_wp2_with (first | ((with_reducible refine gate_dst (N := 1) rfl ?_); refine box_event ?hg (N := 1) ?hd (cs := #[.string a0_0, .string a0_1]) (t := 35) ?hr ?_; (case hd => rfl); (case hg => rfl); (case hr => first | (go_simp; done) | (go_simp; rfl)); intro gb161 hg w3 hbox hb; have n0_ := Aside0.mk (below_step (by repeat (first | (with_reducible first | exact HB.out | apply below_alloc | apply pw_below_drewN | apply below_drew1) | exact HB.out)) hb); have n1_ := Aside0.mk (hbox); have n2_ := Aside0.mk ((by rw [hg]; exact (below_size (by repeat (first | (with_reducible first | exact HB.out | apply below_alloc | apply pw_below_drewN | apply below_drew1) | exact HB.out))) : w.heap.size ≤ gb161)); have n3_ := Aside0.mk ((by rw [hg]; exact (below_size (by repeat (first | (with_reducible first | exact HB.out | apply below_alloc | apply pw_below_drewN | apply below_drew1) | exact HB.out))) : w.heap.size ≤ gb161)); clear HB; have HB := n0_; have BK161 := n1_; have GW161 := n2_; have GE161 := n3_; clear n0_ n1_ n2_ n3_; clear hb hbox hg; have hcz4_0 : w3.cell? ⟨gb161, 0, none⟩ = some (.string a0_0) := (blk_cell BK161.out 0).trans rfl; have hcz4_1 : w3.cell? ⟨gb161, 1, none⟩ = some (.string a0_1) := (blk_cell BK161.out 1).trans rfl; have hfz4_0 := blk_frozen BK161.out 0; have hfz4_1 := blk_frozen BK161.out 1))
    repeat (go_quiet (first | ((with_reducible refine gate_dst (N := 1) rfl ?_); refine box_event ?hg (N := 1) ?hd (cs := #[.string a0_0, .string a0_1]) (t := 35) ?hr ?_; (case hd => rfl); (case hg => rfl); (case hr => first | (go_simp; done) | (go_simp; rfl)); intro gb161 hg w3 hbox hb; have n0_ := Aside0.mk (below_step (by repeat (first | (with_reducible first | exact HB.out | apply below_alloc | apply pw_below_drewN | apply below_drew1) | exact HB.out)) hb); have n1_ := Aside0.mk (hbox); have n2_ := Aside0.mk ((by rw [hg]; exact (below_size (by repeat (first | (with_reducible first | exact HB.out | apply below_alloc | apply pw_below_drewN | apply below_drew1) | exact HB.out))) : w.heap.size ≤ gb161)); have n3_ := Aside0.mk ((by rw [hg]; exact (below_size (by repeat (first | (with_reducible first | exact HB.out | apply below_alloc | apply pw_below_drewN | apply below_drew1) | exact HB.out))) : w.heap.size ≤ gb161)); clear HB; have HB := n0_; have BK161 := n1_; have GW161 := n2_; have GE161 := n3_; clear n0_ n1_ n2_ n3_; clear hb hbox hg; have hcz4_0 : w3.cell? ⟨gb161, 0, none⟩ = some (.string a0_0) := (blk_cell BK161.out 0).trans rfl; have hcz4_1 : w3.cell? ⟨gb161, 1, none⟩ = some (.string a0_1) := (blk_cell BK161.out 1).trans rfl; have hfz4_0 := blk_frozen BK161.out 0; have hfz4_1 := blk_frozen BK161.out 1)); try go_wp2_with (first | ((with_reducible refine gate_dst (N := 1) rfl ?_); refine box_event ?hg (N := 1) ?hd (cs := #[.string a0_0, .string a0_1]) (t := 35) ?hr ?_; (case hd => rfl); (case hg => rfl); (case hr => first | (go_simp; done) | (go_simp; rfl)); intro gb161 hg w3 hbox hb; have n0_ := Aside0.mk (below_step (by repeat (first | (with_reducible first | exact HB.out | apply below_alloc | apply pw_below_drewN | apply below_drew1) | exact HB.out)) hb); have n1_ := Aside0.mk (hbox); have n2_ := Aside0.mk ((by rw [hg]; exact (below_size (by repeat (first | (with_reducible first | exact HB.out | apply below_alloc | apply pw_below_drewN | apply below_drew1) | exact HB.out))) : w.heap.size ≤ gb161)); have n3_ := Aside0.mk ((by rw [hg]; exact (below_size (by repeat (first | (with_reducible first | exact HB.out | apply below_alloc | apply pw_below_drewN | apply below_drew1) | exact HB.out))) : w.heap.size ≤ gb161)); clear HB; have HB := n0_; have BK161 := n1_; have GW161 := n2_; have GE161 := n3_; clear n0_ n1_ n2_ n3_; clear hb hbox hg; have hcz4_0 : w3.cell? ⟨gb161, 0, none⟩ = some (.string a0_0) := (blk_cell BK161.out 0).trans rfl; have hcz4_1 : w3.cell? ⟨gb161, 1, none⟩ = some (.string a0_1) := (blk_cell BK161.out 1).trans rfl; have hfz4_0 := blk_frozen BK161.out 0; have hfz4_1 := blk_frozen BK161.out 1)))
    go_ret2
    exact ⟨by first | rfl | (simp [errW_none, errW_some] <;> rfl) | (simp [*, errW_none, errW_some] <;> rfl) | (simp [bt, *]; done) | (unfold bt; simp [*]; done), by repeat (first | (with_reducible first | exact HB.out | apply below_alloc | apply pw_below_drewN | apply below_drew1 | refine below_set ?_ GE161.out) | exact HB.out)⟩
  · rw [if_neg c2] at H
    have c2b0 : (a0_0.toList == ([] : List UInt8)) = false := beq_eq_false_iff_ne.mpr c2
    have c2b1 : (a0_0.toList != ([] : List UInt8)) = true := bne_iff_ne.mpr c2
    (try (have c2b2 : (a0_0 = ByteArray.empty) = False := eq_false (fun h_ => c2 (by rw [h_, ByteArray.toList_eq]; rfl))))
    by_cases c5 : 0 < (a0_0.size : Int)
    · rw [if_pos c5] at H
      have c5b0 : decide (0 < (a0_0.size : Int)) = true := decide_eq_true c5
      have c5b1 : decide (0 < a0_0.size) = true := decide_eq_true (by omega)
      clear c5
      simp only [Option.some.injEq, Prod.mk.injEq] at H
      obtain ⟨rfl, rfl⟩ := H
      go_enter Tryz.func64, Tryz.ntmps64
      go_wp2_with (first | ((with_reducible refine gate_dst (N := 1) rfl ?_); refine box_event ?hg (N := 1) ?hd (cs := #[.string a0_0, .string a0_1]) (t := 35) ?hr ?_; (case hd => rfl); (case hg => rfl); (case hr => first | (go_simp; done) | (go_simp; rfl)); intro gb161 hg w8 hbox hb; have n0_ := Aside0.mk (below_step (by repeat (first | (with_reducible first | exact HB.out | apply below_alloc | apply pw_below_drewN | apply below_drew1) | exact HB.out)) hb); have n1_ := Aside0.mk (hbox); have n2_ := Aside0.mk ((by rw [hg]; exact (below_size (by repeat (first | (with_reducible first | exact HB.out | apply below_alloc | apply pw_below_drewN | apply below_drew1) | exact HB.out))) : w.heap.size ≤ gb161)); have n3_ := Aside0.mk ((by rw [hg]; exact (below_size (by repeat (first | (with_reducible first | exact HB.out | apply below_alloc | apply pw_below_drewN | apply below_drew1) | exact HB.out))) : w.heap.size ≤ gb161)); clear HB; have HB := n0_; have BK161 := n1_; have GW161 := n2_; have GE161 := n3_; clear n0_ n1_ n2_ n3_; clear hb hbox hg; have hcz9_0 : w8.cell? ⟨gb161, 0, none⟩ = some (.string a0_0) := (blk_cell BK161.out 0).trans rfl; have hcz9_1 : w8.cell? ⟨gb161, 1, none⟩ = some (.string a0_1) := (blk_cell BK161.out 1).trans rfl; have hfz9_0 := blk_frozen BK161.out 0; have hfz9_1 := blk_frozen BK161.out 1; have p6 : 0 ≤ (0 : Int) := (by omega); have q6 : 0 < a0_0.size := (by have : (0 : Int) < (a0_0.size : Int) := of_decide_eq_true (by first | (with_reducible assumption) | assumption); omega); have hx6 : ∀ h : 0 < a0_0.size, ((a0_0[0]'h).toNat : Int) = bt a0_0 0 := bt_at a0_0 0; clear p6; have qi6 : (0 < (a0_0.size : Int)) = True := eq_true (of_decide_eq_true (by first | (with_reducible assumption) | assumption)); replace q6 := eq_true q6; have p7 : 0 ≤ (0 : Int) := (by omega); have q7 : 0 < a0_0.size := (by have : (0 : Int) < (a0_0.size : Int) := of_decide_eq_true (by first | (with_reducible assumption) | assumption); omega); have hx7 : ∀ h : 0 < a0_0.size, ((a0_0[0]'h).toNat : Int) = bt a0_0 0 := bt_at a0_0 0; clear p7; have qi7 : (0 < (a0_0.size : Int)) = True := eq_true (of_decide_eq_true (by first | (with_reducible assumption) | assumption)); replace q7 := eq_true q7))
      repeat (go_quiet (first | ((with_reducible refine gate_dst (N := 1) rfl ?_); refine box_event ?hg (N := 1) ?hd (cs := #[.string a0_0, .string a0_1]) (t := 35) ?hr ?_; (case hd => rfl); (case hg => rfl); (case hr => first | (go_simp; done) | (go_simp; rfl)); intro gb161 hg w8 hbox hb; have n0_ := Aside0.mk (below_step (by repeat (first | (with_reducible first | exact HB.out | apply below_alloc | apply pw_below_drewN | apply below_drew1) | exact HB.out)) hb); have n1_ := Aside0.mk (hbox); have n2_ := Aside0.mk ((by rw [hg]; exact (below_size (by repeat (first | (with_reducible first | exact HB.out | apply below_alloc | apply pw_below_drewN | apply below_drew1) | exact HB.out))) : w.heap.size ≤ gb161)); have n3_ := Aside0.mk ((by rw [hg]; exact (below_size (by repeat (first | (with_reducible first | exact HB.out | apply below_alloc | apply pw_below_drewN | apply below_drew1) | exact HB.out))) : w.heap.size ≤ gb161)); clear HB; have HB := n0_; have BK161 := n1_; have GW161 := n2_; have GE161 := n3_; clear n0_ n1_ n2_ n3_; clear hb hbox hg; have hcz9_0 : w8.cell? ⟨gb161, 0, none⟩ = some (.string a0_0) := (blk_cell BK161.out 0).trans rfl; have hcz9_1 : w8.cell? ⟨gb161, 1, none⟩ = some (.string a0_1) := (blk_cell BK161.out 1).trans rfl; have hfz9_0 := blk_frozen BK161.out 0; have hfz9_1 := blk_frozen BK161.out 1; have p6 : 0 ≤ (0 : Int) := (by omega); have q6 : 0 < a0_0.size := (by have : (0 : Int) < (a0_0.size : Int) := of_decide_eq_true (by first | (with_reducible assumption) | assumption); omega); have hx6 : ∀ h : 0 < a0_0.size, ((a0_0[0]'h).toNat : Int) = bt a0_0 0 := bt_at a0_0 0; clear p6; have qi6 : (0 < (a0_0.size : Int)) = True := eq_true (of_decide_eq_true (by first | (with_reducible assumption) | assumption)); replace q6 := eq_true q6; have p7 : 0 ≤ (0 : Int) := (by omega); have q7 : 0 < a0_0.size := (by have : (0 : Int) < (a0_0.size : Int) := of_decide_eq_true (by first | (with_reducible assumption) | assumption); omega); have hx7 : ∀ h : 0 < a0_0.size, ((a0_0[0]'h).toNat : Int) = bt a0_0 0 := bt_at a0_0 0; clear p7; have qi7 : (0 < (a0_0.size : Int)) = True := eq_true (of_decide_eq_true (by first | (with_reducible assumption) | assumption)); replace q7 := eq_true q7)); try go_wp2_with (first | ((with_reducible refine gate_dst (N := 1) rfl ?_); refine box_event ?hg (N := 1) ?hd (cs := #[.string a0_0, .string a0_1]) (t := 35) ?hr ?_; (case hd => rfl); (case hg => rfl); (case hr => first | (go_simp; done) | (go_simp; rfl)); intro gb161 hg w8 hbox hb; have n0_ := Aside0.mk (below_step (by repeat (first | (with_reducible first | exact HB.out | apply below_alloc | apply pw_below_drewN | apply below_drew1) | exact HB.out)) hb); have n1_ := Aside0.mk (hbox); have n2_ := Aside0.mk ((by rw [hg]; exact (below_size (by repeat (first | (with_reducible first | exact HB.out | apply below_alloc | apply pw_below_drewN | apply below_drew1) | exact HB.out))) : w.heap.size ≤ gb161)); have n3_ := Aside0.mk ((by rw [hg]; exact (below_size (by repeat (first | (with_reducible first | exact HB.out | apply below_alloc | apply pw_below_drewN | apply below_drew1) | exact HB.out))) : w.heap.size ≤ gb161)); clear HB; have HB := n0_; have BK161 := n1_; have GW161 := n2_; have GE161 := n3_; clear n0_ n1_ n2_ n3_; clear hb hbox hg; have hcz9_0 : w8.cell? ⟨gb161, 0, none⟩ = some (.string a0_0) := (blk_cell BK161.out 0).trans rfl; have hcz9_1 : w8.cell? ⟨gb161, 1, none⟩ = some (.string a0_1) := (blk_cell BK161.out 1).trans rfl; have hfz9_0 := blk_frozen BK161.out 0; have hfz9_1 := blk_frozen BK161.out 1; have p6 : 0 ≤ (0 : Int) := (by omega); have q6 : 0 < a0_0.size := (by have : (0 : Int) < (a0_0.size : Int) := of_decide_eq_true (by first | (with_reducible assumption) | assumption); omega); have hx6 : ∀ h : 0 < a0_0.size, ((a0_0[0]'h).toNat : Int) = bt a0_0 0 := bt_at a0_0 0; clear p6; have qi6 : (0 < (a0_0.size : Int)) = True := eq_true (of_decide_eq_true (by first | (with_reducible assumption) | assumption)); replace q6 := eq_true q6; have p7 : 0 ≤ (0 : Int) := (by omega); have q7 : 0 < a0_0.size := (by have : (0 : Int) < (a0_0.size : Int) := of_decide_eq_true (by first | (with_reducible assumption) | assumption); omega); have hx7 : ∀ h : 0 < a0_0.size, ((a0_0[0]'h).toNat : Int) = bt a0_0 0 := bt_at a0_0 0; clear p7; have qi7 : (0 < (a0_0.size : Int)) = True := eq_true (of_decide_eq_true (by first | (with_reducible assumption) | assumption)); replace q7 := eq_true q7)))
      go_ret2
      exact ⟨by first | rfl | (simp [errW_none, errW_some] <;> rfl) | (simp [*, errW_none, errW_some] <;> rfl) | (simp [bt, *]; done) | (unfold bt; simp [*]; done), by repeat (first | (with_reducible first | exact HB.out | apply below_alloc | apply pw_below_drewN | apply below_drew1 | refine below_set ?_ GE161.out) | exact HB.out)⟩
    · rw [if_neg c5] at H
      exact absurd H (by simp)
def rdOn (b : Int) : Bool := Go.bits .and .u8 b 128 != 0
def rdStage (b : Int) : Int := wrap64 (Go.bits .and .u8 (b / 4) 3)
def rdNext (b : Int) : Int := wrap64 (Go.bits .and .u8 b 3)
def rd1 (h d : ByteArray) (kind : Int) (ur : Bool) : Bool := decide (h.size = 48) && decide (bt h 0 < 128) && decide (bt h 4 = 0) && decide (kind = 3) && ur && decide (d.size ≤ 8192)
def rd2 (h : ByteArray) : Bool := decide (Go.bits .and .u8 (bt h 1) 112 = 0) && decide (bt h 14 = 0) && decide (bt h 15 = 0) && decide (rdStage (bt h 1) ≤ 1)
def rd3 (h : ByteArray) : Bool := !rdOn (bt h 1) || (decide (rdNext (bt h 1) = 1 ∨ rdNext (bt h 1) = 3) && decide (rdStage (bt h 1) < rdNext (bt h 1)))
def rdV (h : ByteArray) (first : Int) : Value := .agg #[.bool (rdOn (bt h 1)), .int .i64 (rdStage (bt h 1)), .int .i64 (rdNext (bt h 1)), .int .u32 first]
set_option maxHeartbeats 4000000 in
set_option maxRecDepth 100000 in
theorem login_read.w8 (k : Nat) (h d : ByteArray) (E : Ending) (kind : Int) (ur on : Bool) (b st nx first : Int) (gx : Nat) (c5 : Value) (c8 c9 c10 c11 c12 c13 c14 c15 c16 c17 c18 c19 c20 c21 c22 c23 c24 c25 c26 c27 c28 c29 c30 c31 c32 c33 c34 c35 c36 c37 c38 c39 c40 c41 c42 c43 c44 c45 c46 c47 c48 c49 c50 c51 c52 c53 c54 c55 c56 c57 c58 c59 c60 c61 c62 c63 c64 c65 c66 c67 c68 c69 c70 c71 c72 c73 c74 c75 c76 c77 c78 c79 c80 c81 c82 c83 c84 c85 c86 c87 c88 c89 c90 c91 c92 c93 c94 c95 c96 c97 c98 c99 c100 c101 : Value) (gp gr : Nat) (w0 w : World) (HB : Aside0 (Below w0.heap.size w0 w)) (BP : Aside0 (w.heap[gp]? = some (.cells #[.string h, .string d] 35 (0, 0)))) (BR : Aside0 (w.heap[gr]? = some (.cells #[.bool false, .int .i64 0, .int .i64 0, .int .u32 0] 61 (0, 0)))) (GR : Aside0 (w0.heap.size ≤ gr ∧ gp ≠ gr)) (BX : Aside0 (w.heap[gx]? = some (.cells #[.bool on, .int .i64 st, .int .i64 nx, .int .u32 first] 61 (0, 0)))) (NX : Aside0 (gp ≠ gx ∧ gr ≠ gx)) (hE : .returned (.agg #[.bool on, .int .i64 st, .int .i64 nx, .int .u32 first]) = E) :
    Code.wp Tryz.prog (Hand.dropSeq 8 ((Tryz.f46.body).getD .skip)) (bodyPost Tryz.prog Tryz.f46 fun e_ w' => e_ = E ∧ Below w0.heap.size w0 w') ⟨#[.agg #[.string h, .string d], .pointer (some ⟨gp, 0, none⟩), .pointer (some ⟨gr, 0, none⟩), .int .i64 kind, .bool ur, c5, .int .u8 b, .pointer (some ⟨gx, 0, none⟩), c8, c9, c10, c11, c12, c13, c14, c15, c16, c17, c18, c19, c20, c21, c22, c23, c24, c25, c26, c27, c28, c29, c30, c31, c32, c33, c34, c35, c36, c37, c38, c39, c40, c41, c42, c43, c44, c45, c46, c47, c48, c49, c50, c51, c52, c53, c54, c55, c56, c57, c58, c59, c60, c61, c62, c63, c64, c65, c66, c67, c68, c69, c70, c71, c72, c73, c74, c75, c76, c77, c78, c79, c80, c81, c82, c83, c84, c85, c86, c87, c88, c89, c90, c91, c92, c93, c94, c95, c96, c97, c98, c99, c100, c101, undef], []⟩ w := by
  have hu1 := Tryz.underlying35
  have hu2 := Tryz.underlying61
  subst hE
  have hcx0 : w.cell? ⟨gx, 0, none⟩ = some (.bool on) := (blk_cell BX.out 0).trans rfl
  have hcx1 : w.cell? ⟨gx, 1, none⟩ = some (.int .i64 st) := (blk_cell BX.out 1).trans rfl
  have hcx2 : w.cell? ⟨gx, 2, none⟩ = some (.int .i64 nx) := (blk_cell BX.out 2).trans rfl
  have hcx3 : w.cell? ⟨gx, 3, none⟩ = some (.int .u32 first) := (blk_cell BX.out 3).trans rfl
  have hr0 : w.cell? ⟨gr, 0, none⟩ = some (.bool false) := (blk_cell BR.out 0).trans rfl
  have hr1 : w.cell? ⟨gr, 1, none⟩ = some (.int .i64 0) := (blk_cell BR.out 1).trans rfl
  have hr2 : w.cell? ⟨gr, 2, none⟩ = some (.int .i64 0) := (blk_cell BR.out 2).trans rfl
  have hr3 : w.cell? ⟨gr, 3, none⟩ = some (.int .u32 0) := (blk_cell BR.out 3).trans rfl
  have hf0 := blk_frozen BR.out 0
  have hf1 := blk_frozen BR.out 1
  have hf2 := blk_frozen BR.out 2
  have hf3 := blk_frozen BR.out 3
  refine Hand.wp_part 8 (by kernel_rfl) (fun K hK => ?_)
  conv => arg 2; whnf
  go_wp2
  conv => arg 2; whnf
  go_wp2
  refine bodyPost_ret (results_cell_row rfl _ _ gr 61 #[.bool on, .int .i64 st, .int .i64 nx, .int .u32 first] (0, 0) _ rfl (blk_put (blk_put (blk_put (blk_put BR.out 0 _ rfl) 1 _ rfl) 2 _ rfl) 3 _ rfl) hu2 rfl (by kernel_rfl)) rfl ?_
  exact ⟨rfl, below_set (below_set (below_set (below_set HB.out GR.out.1) GR.out.1) GR.out.1) GR.out.1⟩
set_option maxHeartbeats 4000000 in
set_option maxRecDepth 100000 in
theorem login_read.w7 (k : Nat) (h d : ByteArray) (E : Ending) (kind : Int) (ur on : Bool) (b st nx first : Int) (gx : Nat) (c5 : Value) (c8 c9 c10 c11 c12 c13 c14 c15 c16 c17 c18 c19 c20 c21 c22 c23 c24 c25 c26 c27 c28 c29 c30 c31 c32 c33 c34 c35 c36 c37 c38 c39 c40 c41 c42 c43 c44 c45 c46 c47 c48 c49 c50 c51 c52 c53 c54 c55 c56 c57 c58 c59 c60 c61 c62 c63 c64 c65 c66 c67 c68 c69 c70 c71 c72 c73 c74 c75 c76 c77 c78 c79 c80 : Value) (gp gr : Nat) (w0 w : World) (HB : Aside0 (Below w0.heap.size w0 w)) (BP : Aside0 (w.heap[gp]? = some (.cells #[.string h, .string d] 35 (0, 0)))) (BR : Aside0 (w.heap[gr]? = some (.cells #[.bool false, .int .i64 0, .int .i64 0, .int .u32 0] 61 (0, 0)))) (GR : Aside0 (w0.heap.size ≤ gr ∧ gp ≠ gr)) (BX : Aside0 (w.heap[gx]? = some (.cells #[.bool on, .int .i64 st, .int .i64 nx, .int .u32 first] 61 (0, 0)))) (NX : Aside0 (gp ≠ gx ∧ gr ≠ gx)) (hE : (if (!on || (decide (nx = 1 ∨ nx = 3) && decide (st < nx))) = true then .returned (.agg #[.bool on, .int .i64 st, .int .i64 nx, .int .u32 first]) else .panicked [refV 2 0]) = E) :
    Code.wp Tryz.prog (Hand.dropSeq 7 ((Tryz.f46.body).getD .skip)) (bodyPost Tryz.prog Tryz.f46 fun e_ w' => e_ = E ∧ Below w0.heap.size w0 w') ⟨#[.agg #[.string h, .string d], .pointer (some ⟨gp, 0, none⟩), .pointer (some ⟨gr, 0, none⟩), .int .i64 kind, .bool ur, c5, .int .u8 b, .pointer (some ⟨gx, 0, none⟩), c8, c9, c10, c11, c12, c13, c14, c15, c16, c17, c18, c19, c20, c21, c22, c23, c24, c25, c26, c27, c28, c29, c30, c31, c32, c33, c34, c35, c36, c37, c38, c39, c40, c41, c42, c43, c44, c45, c46, c47, c48, c49, c50, c51, c52, c53, c54, c55, c56, c57, c58, c59, c60, c61, c62, c63, c64, c65, c66, c67, c68, c69, c70, c71, c72, c73, c74, c75, c76, c77, c78, c79, c80, undef, undef, undef, undef, undef, undef, undef, undef, undef, undef, undef, undef, undef, undef, undef, undef, undef, undef, undef, undef, undef, undef], []⟩ w := by
  have hu1 := Tryz.underlying35
  have hu2 := Tryz.underlying61
  cases on with
  | false =>
    rw [if_pos (by rfl)] at hE
    refine Hand.wp_part 7 (by kernel_rfl) (fun K hK => ?_)
    conv => arg 2; whnf
    have hcx0 : w.cell? ⟨gx, 0, none⟩ = some (.bool false) := (blk_cell BX.out 0).trans rfl
    have hcx1 : w.cell? ⟨gx, 1, none⟩ = some (.int .i64 st) := (blk_cell BX.out 1).trans rfl
    have hcx2 : w.cell? ⟨gx, 2, none⟩ = some (.int .i64 nx) := (blk_cell BX.out 2).trans rfl
    have hcx3 : w.cell? ⟨gx, 3, none⟩ = some (.int .u32 first) := (blk_cell BX.out 3).trans rfl
    go_wp2_with (go_at_call 47; refine (want_ok 2 0 _).mono ?_; rintro e w4 ⟨rfl, hd⟩; have hb := hd.below; clear hd hcx0 hcx1 hcx2 hcx3; have n0_ := Aside0.mk (below_step HB.out hb); have n1_ := Aside0.mk (blk_below BP.out hb); have n2_ := Aside0.mk (blk_below BR.out hb); clear HB BP BR; have HB := n0_; have BP := n1_; have BR := n2_; clear n0_ n1_ n2_; have n3_ := Aside0.mk (blk_below BX.out hb); clear BX; have BX := n3_; clear n3_; clear hb)
    exact login_read.w8 k h d E kind ur false b st nx first gx c5 _ _ _ _ _ _ _ _ _ _ _ _ _ _ _ _ _ _ _ _ _ _ _ _ _ _ _ _ _ _ _ _ _ _ _ _ _ _ _ _ _ _ _ _ _ _ _ _ _ _ _ _ _ _ _ _ _ _ _ _ _ _ _ _ _ _ _ _ _ _ _ _ _ _ _ _ _ _ _ _ _ _ _ _ _ _ _ _ _ _ _ _ _ _ gp gr w0 w4 HB BP BR GR BX NX hE
  | true =>
    by_cases h1 : nx = 1
    · have e1 : (nx == 1) = true := beq_iff_eq.mpr h1
      by_cases h2 : st < nx
      · rw [if_pos (by simp [h1]; omega)] at hE
        have e2 : decide (st < nx) = true := decide_eq_true h2
        clear h1 h2
        refine Hand.wp_part 7 (by kernel_rfl) (fun K hK => ?_)
        conv => arg 2; whnf
        have hcx0 : w.cell? ⟨gx, 0, none⟩ = some (.bool true) := (blk_cell BX.out 0).trans rfl
        have hcx1 : w.cell? ⟨gx, 1, none⟩ = some (.int .i64 st) := (blk_cell BX.out 1).trans rfl
        have hcx2 : w.cell? ⟨gx, 2, none⟩ = some (.int .i64 nx) := (blk_cell BX.out 2).trans rfl
        have hcx3 : w.cell? ⟨gx, 3, none⟩ = some (.int .u32 first) := (blk_cell BX.out 3).trans rfl
        go_wp2_with (go_at_call 47; refine (want_ok 2 0 _).mono ?_; rintro e w4 ⟨rfl, hd⟩; have hb := hd.below; clear hd hcx0 hcx1 hcx2 hcx3; have n0_ := Aside0.mk (below_step HB.out hb); have n1_ := Aside0.mk (blk_below BP.out hb); have n2_ := Aside0.mk (blk_below BR.out hb); clear HB BP BR; have HB := n0_; have BP := n1_; have BR := n2_; clear n0_ n1_ n2_; have n3_ := Aside0.mk (blk_below BX.out hb); clear BX; have BX := n3_; clear n3_; clear hb)
        exact login_read.w8 k h d E kind ur true b st nx first gx c5 _ _ _ _ _ _ _ _ _ _ _ _ _ _ _ _ _ _ _ _ _ _ _ _ _ _ _ _ _ _ _ _ _ _ _ _ _ _ _ _ _ _ _ _ _ _ _ _ _ _ _ _ _ _ _ _ _ _ _ _ _ _ _ _ _ _ _ _ _ _ _ _ _ _ _ _ _ _ _ _ _ _ _ _ _ _ _ _ _ _ _ _ _ _ gp gr w0 w4 HB BP BR GR BX NX hE
      · rw [if_neg (by simp [h2])] at hE
        have e2 : decide (st < nx) = false := decide_eq_false h2
        clear h1 h2
        refine Hand.wp_part 7 (by kernel_rfl) (fun K hK => ?_)
        conv => arg 2; whnf
        have hcx0 : w.cell? ⟨gx, 0, none⟩ = some (.bool true) := (blk_cell BX.out 0).trans rfl
        have hcx1 : w.cell? ⟨gx, 1, none⟩ = some (.int .i64 st) := (blk_cell BX.out 1).trans rfl
        have hcx2 : w.cell? ⟨gx, 2, none⟩ = some (.int .i64 nx) := (blk_cell BX.out 2).trans rfl
        have hcx3 : w.cell? ⟨gx, 3, none⟩ = some (.int .u32 first) := (blk_cell BX.out 3).trans rfl
        subst hE
        go_wp2_with (go_at_call 47; refine (want_no 2 0 _).mono ?_; rintro e w4 ⟨rfl, ⟨nd, rfl⟩⟩)
        first | exact ⟨rfl, pw_below_drewN HB.out _⟩ | exact ⟨rfl, rfl, pw_below_drewN HB.out _⟩
    · have e1 : (nx == 1) = false := beq_eq_false_iff_ne.mpr h1
      by_cases h3 : nx = 3
      · have e3 : (nx == 3) = true := beq_iff_eq.mpr h3
        by_cases h2 : st < nx
        · rw [if_pos (by simp [h3]; omega)] at hE
          have e2 : decide (st < nx) = true := decide_eq_true h2
          clear h1 h2 h3
          refine Hand.wp_part 7 (by kernel_rfl) (fun K hK => ?_)
          conv => arg 2; whnf
          have hcx0 : w.cell? ⟨gx, 0, none⟩ = some (.bool true) := (blk_cell BX.out 0).trans rfl
          have hcx1 : w.cell? ⟨gx, 1, none⟩ = some (.int .i64 st) := (blk_cell BX.out 1).trans rfl
          have hcx2 : w.cell? ⟨gx, 2, none⟩ = some (.int .i64 nx) := (blk_cell BX.out 2).trans rfl
          have hcx3 : w.cell? ⟨gx, 3, none⟩ = some (.int .u32 first) := (blk_cell BX.out 3).trans rfl
          go_wp2_with (go_at_call 47; refine (want_ok 2 0 _).mono ?_; rintro e w4 ⟨rfl, hd⟩; have hb := hd.below; clear hd hcx0 hcx1 hcx2 hcx3; have n0_ := Aside0.mk (below_step HB.out hb); have n1_ := Aside0.mk (blk_below BP.out hb); have n2_ := Aside0.mk (blk_below BR.out hb); clear HB BP BR; have HB := n0_; have BP := n1_; have BR := n2_; clear n0_ n1_ n2_; have n3_ := Aside0.mk (blk_below BX.out hb); clear BX; have BX := n3_; clear n3_; clear hb)
          exact login_read.w8 k h d E kind ur true b st nx first gx c5 _ _ _ _ _ _ _ _ _ _ _ _ _ _ _ _ _ _ _ _ _ _ _ _ _ _ _ _ _ _ _ _ _ _ _ _ _ _ _ _ _ _ _ _ _ _ _ _ _ _ _ _ _ _ _ _ _ _ _ _ _ _ _ _ _ _ _ _ _ _ _ _ _ _ _ _ _ _ _ _ _ _ _ _ _ _ _ _ _ _ _ _ _ _ gp gr w0 w4 HB BP BR GR BX NX hE
        · rw [if_neg (by simp [h2])] at hE
          have e2 : decide (st < nx) = false := decide_eq_false h2
          clear h1 h2 h3
          refine Hand.wp_part 7 (by kernel_rfl) (fun K hK => ?_)
          conv => arg 2; whnf
          have hcx0 : w.cell? ⟨gx, 0, none⟩ = some (.bool true) := (blk_cell BX.out 0).trans rfl
          have hcx1 : w.cell? ⟨gx, 1, none⟩ = some (.int .i64 st) := (blk_cell BX.out 1).trans rfl
          have hcx2 : w.cell? ⟨gx, 2, none⟩ = some (.int .i64 nx) := (blk_cell BX.out 2).trans rfl
          have hcx3 : w.cell? ⟨gx, 3, none⟩ = some (.int .u32 first) := (blk_cell BX.out 3).trans rfl
          subst hE
          go_wp2_with (go_at_call 47; refine (want_no 2 0 _).mono ?_; rintro e w4 ⟨rfl, ⟨nd, rfl⟩⟩)
          first | exact ⟨rfl, pw_below_drewN HB.out _⟩ | exact ⟨rfl, rfl, pw_below_drewN HB.out _⟩
      · rw [if_neg (by simp [h1, h3])] at hE
        have e3 : (nx == 3) = false := beq_eq_false_iff_ne.mpr h3
        clear h1 h3
        refine Hand.wp_part 7 (by kernel_rfl) (fun K hK => ?_)
        conv => arg 2; whnf
        have hcx0 : w.cell? ⟨gx, 0, none⟩ = some (.bool true) := (blk_cell BX.out 0).trans rfl
        have hcx1 : w.cell? ⟨gx, 1, none⟩ = some (.int .i64 st) := (blk_cell BX.out 1).trans rfl
        have hcx2 : w.cell? ⟨gx, 2, none⟩ = some (.int .i64 nx) := (blk_cell BX.out 2).trans rfl
        have hcx3 : w.cell? ⟨gx, 3, none⟩ = some (.int .u32 first) := (blk_cell BX.out 3).trans rfl
        subst hE
        go_wp2_with (go_at_call 47; refine (want_no 2 0 _).mono ?_; rintro e w4 ⟨rfl, ⟨nd, rfl⟩⟩)
        first | exact ⟨rfl, pw_below_drewN HB.out _⟩ | exact ⟨rfl, rfl, pw_below_drewN HB.out _⟩
set_option maxHeartbeats 4000000 in
set_option maxRecDepth 100000 in
theorem login_read.w6 (k : Nat) (h d : ByteArray) (E : Ending) (kind : Int) (ur on : Bool) (b st nx first : Int) (gx : Nat) (c5 : Value) (c8 c9 c10 c11 c12 c13 c14 c15 c16 c17 c18 c19 c20 c21 c22 c23 c24 c25 c26 c27 c28 c29 c30 c31 c32 c33 c34 c35 c36 c37 c38 c39 c40 c41 c42 c43 c44 c45 c46 c47 c48 c49 c50 c51 c52 c53 c54 c55 c56 c57 c58 c59 : Value) (gp gr : Nat) (w0 w : World) (HB : Aside0 (Below w0.heap.size w0 w)) (BP : Aside0 (w.heap[gp]? = some (.cells #[.string h, .string d] 35 (0, 0)))) (BR : Aside0 (w.heap[gr]? = some (.cells #[.bool false, .int .i64 0, .int .i64 0, .int .u32 0] 61 (0, 0)))) (GR : Aside0 (w0.heap.size ≤ gr ∧ gp ≠ gr)) (BX : Aside0 (w.heap[gx]? = some (.cells #[.bool on, .int .i64 st, .int .i64 nx, .int .u32 first] 61 (0, 0)))) (NX : Aside0 (gp ≠ gx ∧ gr ≠ gx)) (hs : h.size = 48) (hE : (if (decide (Go.bits .and .u8 b 112 = 0) && decide (bt h 14 = 0) && decide (bt h 15 = 0) && decide (st ≤ 1)) = true then (if (!on || (decide (nx = 1 ∨ nx = 3) && decide (st < nx))) = true then .returned (.agg #[.bool on, .int .i64 st, .int .i64 nx, .int .u32 first]) else .panicked [refV 2 0]) else .panicked [refV 2 0]) = E) :
    Code.wp Tryz.prog (Hand.dropSeq 6 ((Tryz.f46.body).getD .skip)) (bodyPost Tryz.prog Tryz.f46 fun e_ w' => e_ = E ∧ Below w0.heap.size w0 w') ⟨#[.agg #[.string h, .string d], .pointer (some ⟨gp, 0, none⟩), .pointer (some ⟨gr, 0, none⟩), .int .i64 kind, .bool ur, c5, .int .u8 b, .pointer (some ⟨gx, 0, none⟩), c8, c9, c10, c11, c12, c13, c14, c15, c16, c17, c18, c19, c20, c21, c22, c23, c24, c25, c26, c27, c28, c29, c30, c31, c32, c33, c34, c35, c36, c37, c38, c39, c40, c41, c42, c43, c44, c45, c46, c47, c48, c49, c50, c51, c52, c53, c54, c55, c56, c57, c58, c59, undef, undef, undef, undef, undef, undef, undef, undef, undef, undef, undef, undef, undef, undef, undef, undef, undef, undef, undef, undef, undef, undef, undef, undef, undef, undef, undef, undef, undef, undef, undef, undef, undef, undef, undef, undef, undef, undef, undef, undef, undef, undef, undef], []⟩ w := by
  have hu1 := Tryz.underlying35
  have hu2 := Tryz.underlying61
  have i14 : 14 < h.size := by omega
  have i15 : 15 < h.size := by omega
  have e14 : ((h[14]'i14).toNat : Int) = bt h 14 := bt_at h 14 i14
  have e15 : ((h[15]'i15).toNat : Int) = bt h 15 := bt_at h 15 i15
  clear hs
  by_cases q0 : Go.bits .and .u8 b 112 = 0
  · have z0 : (Go.bits .and .u8 b 112 == 0) = true := beq_iff_eq.mpr q0
    by_cases q1 : bt h 14 = 0
    · have z1 : ((((h[14]'i14).toNat : Nat) : Int) == 0) = true := by rw [e14]; exact beq_iff_eq.mpr q1
      by_cases q2 : bt h 15 = 0
      · have z2 : ((((h[15]'i15).toNat : Nat) : Int) == 0) = true := by rw [e15]; exact beq_iff_eq.mpr q2
        by_cases q3 : st ≤ 1
        · have z3 : decide (st ≤ 1) = true := decide_eq_true q3
          rw [if_pos (by simp only [Bool.and_eq_true, decide_eq_true_eq]; exact ⟨⟨⟨q0, q1⟩, q2⟩, q3⟩)] at hE
          clear e14 e15 q0 q1 q2 q3
          refine Hand.wp_part 6 (by kernel_rfl) (fun K hK => ?_)
          conv => arg 2; whnf
          have hcx0 : w.cell? ⟨gx, 0, none⟩ = some (.bool on) := (blk_cell BX.out 0).trans rfl
          have hcx1 : w.cell? ⟨gx, 1, none⟩ = some (.int .i64 st) := (blk_cell BX.out 1).trans rfl
          have hcx2 : w.cell? ⟨gx, 2, none⟩ = some (.int .i64 nx) := (blk_cell BX.out 2).trans rfl
          have hcx3 : w.cell? ⟨gx, 3, none⟩ = some (.int .u32 first) := (blk_cell BX.out 3).trans rfl
          have hcp0 : w.cell? ⟨gp, 0, none⟩ = some (.string h) := (blk_cell BP.out 0).trans rfl
          have hcp1 : w.cell? ⟨gp, 1, none⟩ = some (.string d) := (blk_cell BP.out 1).trans rfl
          go_wp2_with (go_at_call 47; refine (want_ok 2 0 _).mono ?_; rintro e w4 ⟨rfl, hd⟩; have hb := hd.below; clear hd hcx0 hcx1 hcx2 hcx3 hcp0 hcp1; have n0_ := Aside0.mk (below_step HB.out hb); have n1_ := Aside0.mk (blk_below BP.out hb); have n2_ := Aside0.mk (blk_below BR.out hb); clear HB BP BR; have HB := n0_; have BP := n1_; have BR := n2_; clear n0_ n1_ n2_; have n3_ := Aside0.mk (blk_below BX.out hb); clear BX; have BX := n3_; clear n3_; clear hb)
          exact login_read.w7 k h d E kind ur on b st nx first gx c5 _ _ _ _ _ _ _ _ _ _ _ _ _ _ _ _ _ _ _ _ _ _ _ _ _ _ _ _ _ _ _ _ _ _ _ _ _ _ _ _ _ _ _ _ _ _ _ _ _ _ _ _ _ _ _ _ _ _ _ _ _ _ _ _ _ _ _ _ _ _ _ _ _ gp gr w0 w4 HB BP BR GR BX NX hE
        · have z3 : decide (st ≤ 1) = false := decide_eq_false q3
          rw [if_neg (by simp only [Bool.and_eq_true, decide_eq_true_eq]; rintro ⟨⟨⟨h0, h1⟩, h2⟩, h3⟩; exact q3 h3)] at hE
          clear e14 e15 q0 q1 q2 q3
          refine Hand.wp_part 6 (by kernel_rfl) (fun K hK => ?_)
          conv => arg 2; whnf
          have hcx0 : w.cell? ⟨gx, 0, none⟩ = some (.bool on) := (blk_cell BX.out 0).trans rfl
          have hcx1 : w.cell? ⟨gx, 1, none⟩ = some (.int .i64 st) := (blk_cell BX.out 1).trans rfl
          have hcx2 : w.cell? ⟨gx, 2, none⟩ = some (.int .i64 nx) := (blk_cell BX.out 2).trans rfl
          have hcx3 : w.cell? ⟨gx, 3, none⟩ = some (.int .u32 first) := (blk_cell BX.out 3).trans rfl
          have hcp0 : w.cell? ⟨gp, 0, none⟩ = some (.string h) := (blk_cell BP.out 0).trans rfl
          have hcp1 : w.cell? ⟨gp, 1, none⟩ = some (.string d) := (blk_cell BP.out 1).trans rfl
          subst hE
          go_wp2_with (go_at_call 47; refine (want_no 2 0 _).mono ?_; rintro e w4 ⟨rfl, ⟨nd, rfl⟩⟩)
          first | exact ⟨rfl, pw_below_drewN HB.out _⟩ | exact ⟨rfl, rfl, pw_below_drewN HB.out _⟩
      · have z2 : ((((h[15]'i15).toNat : Nat) : Int) == 0) = false := by rw [e15]; exact beq_eq_false_iff_ne.mpr q2
        rw [if_neg (by simp only [Bool.and_eq_true, decide_eq_true_eq]; rintro ⟨⟨⟨h0, h1⟩, h2⟩, h3⟩; exact q2 h2)] at hE
        clear e14 e15 q0 q1 q2
        refine Hand.wp_part 6 (by kernel_rfl) (fun K hK => ?_)
        conv => arg 2; whnf
        have hcx0 : w.cell? ⟨gx, 0, none⟩ = some (.bool on) := (blk_cell BX.out 0).trans rfl
        have hcx1 : w.cell? ⟨gx, 1, none⟩ = some (.int .i64 st) := (blk_cell BX.out 1).trans rfl
        have hcx2 : w.cell? ⟨gx, 2, none⟩ = some (.int .i64 nx) := (blk_cell BX.out 2).trans rfl
        have hcx3 : w.cell? ⟨gx, 3, none⟩ = some (.int .u32 first) := (blk_cell BX.out 3).trans rfl
        have hcp0 : w.cell? ⟨gp, 0, none⟩ = some (.string h) := (blk_cell BP.out 0).trans rfl
        have hcp1 : w.cell? ⟨gp, 1, none⟩ = some (.string d) := (blk_cell BP.out 1).trans rfl
        subst hE
        go_wp2_with (go_at_call 47; refine (want_no 2 0 _).mono ?_; rintro e w4 ⟨rfl, ⟨nd, rfl⟩⟩)
        first | exact ⟨rfl, pw_below_drewN HB.out _⟩ | exact ⟨rfl, rfl, pw_below_drewN HB.out _⟩
    · have z1 : ((((h[14]'i14).toNat : Nat) : Int) == 0) = false := by rw [e14]; exact beq_eq_false_iff_ne.mpr q1
      rw [if_neg (by simp only [Bool.and_eq_true, decide_eq_true_eq]; rintro ⟨⟨⟨h0, h1⟩, h2⟩, h3⟩; exact q1 h1)] at hE
      clear e14 e15 q0 q1
      refine Hand.wp_part 6 (by kernel_rfl) (fun K hK => ?_)
      conv => arg 2; whnf
      have hcx0 : w.cell? ⟨gx, 0, none⟩ = some (.bool on) := (blk_cell BX.out 0).trans rfl
      have hcx1 : w.cell? ⟨gx, 1, none⟩ = some (.int .i64 st) := (blk_cell BX.out 1).trans rfl
      have hcx2 : w.cell? ⟨gx, 2, none⟩ = some (.int .i64 nx) := (blk_cell BX.out 2).trans rfl
      have hcx3 : w.cell? ⟨gx, 3, none⟩ = some (.int .u32 first) := (blk_cell BX.out 3).trans rfl
      have hcp0 : w.cell? ⟨gp, 0, none⟩ = some (.string h) := (blk_cell BP.out 0).trans rfl
      have hcp1 : w.cell? ⟨gp, 1, none⟩ = some (.string d) := (blk_cell BP.out 1).trans rfl
      subst hE
      go_wp2_with (go_at_call 47; refine (want_no 2 0 _).mono ?_; rintro e w4 ⟨rfl, ⟨nd, rfl⟩⟩)
      first | exact ⟨rfl, pw_below_drewN HB.out _⟩ | exact ⟨rfl, rfl, pw_below_drewN HB.out _⟩
  · have z0 : (Go.bits .and .u8 b 112 == 0) = false := beq_eq_false_iff_ne.mpr q0
    rw [if_neg (by simp only [Bool.and_eq_true, decide_eq_true_eq]; rintro ⟨⟨⟨h0, h1⟩, h2⟩, h3⟩; exact q0 h0)] at hE
    clear e14 e15 q0
    refine Hand.wp_part 6 (by kernel_rfl) (fun K hK => ?_)
    conv => arg 2; whnf
    have hcx0 : w.cell? ⟨gx, 0, none⟩ = some (.bool on) := (blk_cell BX.out 0).trans rfl
    have hcx1 : w.cell? ⟨gx, 1, none⟩ = some (.int .i64 st) := (blk_cell BX.out 1).trans rfl
    have hcx2 : w.cell? ⟨gx, 2, none⟩ = some (.int .i64 nx) := (blk_cell BX.out 2).trans rfl
    have hcx3 : w.cell? ⟨gx, 3, none⟩ = some (.int .u32 first) := (blk_cell BX.out 3).trans rfl
    have hcp0 : w.cell? ⟨gp, 0, none⟩ = some (.string h) := (blk_cell BP.out 0).trans rfl
    have hcp1 : w.cell? ⟨gp, 1, none⟩ = some (.string d) := (blk_cell BP.out 1).trans rfl
    subst hE
    go_wp2_with (go_at_call 47; refine (want_no 2 0 _).mono ?_; rintro e w4 ⟨rfl, ⟨nd, rfl⟩⟩)
    first | exact ⟨rfl, pw_below_drewN HB.out _⟩ | exact ⟨rfl, rfl, pw_below_drewN HB.out _⟩
def rdE (h : ByteArray) (first : Int) : Ending := if rd2 h = true then (if rd3 h = true then .returned (rdV h first) else .panicked [refV 2 0]) else .panicked [refV 2 0]
set_option maxHeartbeats 4000000 in
set_option maxRecDepth 100000 in
theorem login_read.w3 (k : Nat) (h d : ByteArray) (E : Ending) (kind : Int) (ur : Bool) (c6 c7 c8 c9 c10 c11 c12 c13 c14 c15 c16 c17 c18 c19 c20 c21 c22 c23 c24 c25 c26 c27 c28 c29 c30 c31 c32 c33 c34 c35 c36 c37 c38 c39 c40 c41 : Value)(ok : Bool) (first : Int)  (gp gr : Nat) (w0 w : World) (HB : Aside0 (Below w0.heap.size w0 w)) (BP : Aside0 (w.heap[gp]? = some (.cells #[.string h, .string d] 35 (0, 0)))) (BR : Aside0 (w.heap[gr]? = some (.cells #[.bool false, .int .i64 0, .int .i64 0, .int .u32 0] 61 (0, 0)))) (GR : Aside0 (w0.heap.size ≤ gr ∧ gp ≠ gr)) (hs : ok = true → h.size = 48) (hN : ok = true → ipdu_Num.f k h d 24 = some first) (hE : (if ok = true then rdE h first else .panicked [refV 2 0]) = E) :
    Code.wp Tryz.prog (Hand.dropSeq 3 ((Tryz.f46.body).getD .skip)) (bodyPost Tryz.prog Tryz.f46 fun e_ w' => e_ = E ∧ Below w0.heap.size w0 w') ⟨#[.agg #[.string h, .string d], .pointer (some ⟨gp, 0, none⟩), .pointer (some ⟨gr, 0, none⟩), .int .i64 kind, .bool ur, .bool ok, c6, c7, c8, c9, c10, c11, c12, c13, c14, c15, c16, c17, c18, c19, c20, c21, c22, c23, c24, c25, c26, c27, c28, c29, c30, c31, c32, c33, c34, c35, c36, c37, c38, c39, c40, c41, undef, undef, undef, undef, undef, undef, undef, undef, undef, undef, undef, undef, undef, undef, undef, undef, undef, undef, undef, undef, undef, undef, undef, undef, undef, undef, undef, undef, undef, undef, undef, undef, undef, undef, undef, undef, undef, undef, undef, undef, undef, undef, undef, undef, undef, undef, undef, undef, undef, undef, undef, undef, undef, undef, undef, undef, undef, undef, undef, undef, undef], []⟩ w := by
  have hu1 := Tryz.underlying35
  have hu2 := Tryz.underlying61
  have hcp0 : w.cell? ⟨gp, 0, none⟩ = some (.string h) := (blk_cell BP.out 0).trans rfl
  have hcp1 : w.cell? ⟨gp, 1, none⟩ = some (.string d) := (blk_cell BP.out 1).trans rfl
  cases ok with
  | false =>
    clear hs hN
    rw [if_neg (by decide)] at hE
    subst hE
    refine Hand.wp_part 3 (by kernel_rfl) (fun K hK => ?_)
    conv => arg 2; whnf
    go_wp2_with (go_at_call 47; refine (want_no 2 0 _).mono ?_; rintro e w4 ⟨rfl, ⟨nd, rfl⟩⟩)
    first | exact ⟨rfl, pw_below_drewN HB.out _⟩ | exact ⟨rfl, rfl, pw_below_drewN HB.out _⟩
  | true =>
    rw [if_pos rfl] at hE
    have hs := hs rfl
    have HN := Aside0.mk (hN rfl)
    clear hN
    have HS := Aside0.mk hs
    have i1 : 1 < h.size := by omega
    have E1 := Aside0.mk (show ((h[1]'i1).toNat : Int) = bt h 1 from bt_at h 1 i1)
    clear hs
    refine Hand.wp_part 3 (by kernel_rfl) (fun K hK => ?_)
    conv => arg 2; whnf
    go_wp2_with (go_at_call 47; refine (want_ok 2 0 _).mono ?_; rintro e w4 ⟨rfl, hd⟩; have hb := hd.below; clear hd hcp0 hcp1; have n0_ := Aside0.mk (below_step HB.out hb); have n1_ := Aside0.mk (blk_below BP.out hb); have n2_ := Aside0.mk (blk_below BR.out hb); clear HB BP BR; have HB := n0_; have BP := n1_; have BR := n2_; clear n0_ n1_ n2_; have hcp0 : w4.cell? ⟨gp, 0, none⟩ = some (.string h) := (blk_cell BP.out 0).trans rfl; clear hb)
    refine Hand.wp_part 4 (by kernel_rfl) (fun K hK => ?_)
    conv => arg 2; whnf
    go_wp2
    refine Hand.wp_part 5 (by kernel_rfl) (fun K hK => ?_)
    conv => arg 2; whnf
    clear hcp0
    have hcp0 : w4.cell? ⟨gp, 0, none⟩ = some (.string h) := (blk_cell BP.out 0).trans rfl
    have hcp1 : w4.cell? ⟨gp, 1, none⟩ = some (.string d) := (blk_cell BP.out 1).trans rfl
    go_wp2_with (first
      | (go_at_call 44; refine (ipdu_Num.calls k h d 24 first _ HN.out).mono ?_; rintro e w5 ⟨rfl, hb⟩; have n0_ := Aside0.mk (below_step HB.out hb); have n1_ := Aside0.mk (blk_below BP.out hb); have n2_ := Aside0.mk (blk_below BR.out hb); clear HB BP BR; have HB := n0_; have BP := n1_; have BR := n2_; clear n0_ n1_ n2_; clear hb hcp0 hcp1)
      | ((with_reducible refine gate_dst (N := 7) rfl ?_); refine box_event ?hg (N := 7) ?hd (cs := #[.bool false, .int .i64 0, .int .i64 0, .int .u32 0]) (t := 61) ?hr ?_; (case hd => rfl); (case hg => rfl); (case hr => first | (go_simp; done) | (go_simp; rfl)); intro gx hg w6 hbox hb; have NX := Aside0.mk (And.intro (show gp ≠ gx by rw [hg]; exact Nat.ne_of_lt (blk_lt BP.out)) (show gr ≠ gx by rw [hg]; exact Nat.ne_of_lt (blk_lt BR.out))); have GX := Aside0.mk (show w0.heap.size ≤ gx by rw [hg]; exact HB.out.size); have n0_ := Aside0.mk (below_step HB.out hb); have n1_ := Aside0.mk (blk_below BP.out hb); have n2_ := Aside0.mk (blk_below BR.out hb); clear HB BP BR; have HB := n0_; have BP := n1_; have BR := n2_; clear n0_ n1_ n2_; have BX := Aside0.mk hbox; clear hb hbox hg; have hx0 : w6.cell? ⟨gx, 0, none⟩ = some (.bool false) := (blk_cell BX.out 0).trans rfl; have hx1 : w6.cell? ⟨gx, 1, none⟩ = some (.int .i64 0) := (blk_cell BX.out 1).trans rfl; have hx2 : w6.cell? ⟨gx, 2, none⟩ = some (.int .i64 0) := (blk_cell BX.out 2).trans rfl; have hx3 : w6.cell? ⟨gx, 3, none⟩ = some (.int .u32 0) := (blk_cell BX.out 3).trans rfl; have hf0 := blk_frozen BX.out 0; have hf1 := blk_frozen BX.out 1; have hf2 := blk_frozen BX.out 2; have hf3 := blk_frozen BX.out 3))
    rw [show rdE h first = _ from rfl] at hE
    unfold rdE rd2 rd3 rdV rdOn rdStage rdNext at hE
    rw [← E1.out] at hE
    exact login_read.w6 k h d E kind ur _ _ _ _ first gx (.bool true) _ _ _ _ _ _ _ _ _ _ _ _ _ _ _ _ _ _ _ _ _ _ _ _ _ _ _ _ _ _ _ _ _ _ _ _ _ _ _ _ _ _ _ _ _ _ _ _ _ _ _ _ gp gr w0 _ ⟨below_set (below_set (below_set (below_set HB.out GX.out) GX.out) GX.out) GX.out⟩ ⟨blk_far (blk_far (blk_far (blk_far (BP.out) NX.out.1 _) NX.out.1 _) NX.out.1 _) NX.out.1 _⟩ ⟨blk_far (blk_far (blk_far (blk_far (BR.out) NX.out.2 _) NX.out.2 _) NX.out.2 _) NX.out.2 _⟩ GR ⟨blk_put (blk_put (blk_put (blk_put BX.out 0 _ rfl) 1 _ rfl) 2 _ rfl) 3 _ rfl⟩ NX HS.out hE
set_option maxHeartbeats 4000000 in
set_option maxRecDepth 100000 in
theorem login_read.w2 (k : Nat) (h d : ByteArray) (E : Ending) (kind : Int) (ur : Bool) (c8 c9 c10 c11 c12 : Value)(first : Int)  (gp gr : Nat) (w0 w : World) (HB : Aside0 (Below w0.heap.size w0 w)) (BP : Aside0 (w.heap[gp]? = some (.cells #[.string h, .string d] 35 (0, 0)))) (BR : Aside0 (w.heap[gr]? = some (.cells #[.bool false, .int .i64 0, .int .i64 0, .int .u32 0] 61 (0, 0)))) (GR : Aside0 (w0.heap.size ≤ gr ∧ gp ≠ gr)) (hN : rd1 h d kind ur = true → ipdu_Num.f k h d 24 = some first) (hE : (if rd1 h d kind ur = true then rdE h first else .panicked [refV 2 0]) = E) :
    Code.wp Tryz.prog (Hand.dropSeq 2 ((Tryz.f46.body).getD .skip)) (bodyPost Tryz.prog Tryz.f46 fun e_ w' => e_ = E ∧ Below w0.heap.size w0 w') ⟨#[.agg #[.string h, .string d], .pointer (some ⟨gp, 0, none⟩), .pointer (some ⟨gr, 0, none⟩), .int .i64 kind, .bool ur, undef, undef, undef, c8, c9, c10, c11, c12, undef, undef, undef, undef, undef, undef, undef, undef, undef, undef, undef, undef, undef, undef, undef, undef, undef, undef, undef, undef, undef, undef, undef, undef, undef, undef, undef, undef, undef, undef, undef, undef, undef, undef, undef, undef, undef, undef, undef, undef, undef, undef, undef, undef, undef, undef, undef, undef, undef, undef, undef, undef, undef, undef, undef, undef, undef, undef, undef, undef, undef, undef, undef, undef, undef, undef, undef, undef, undef, undef, undef, undef, undef, undef, undef, undef, undef, undef, undef, undef, undef, undef, undef, undef, undef, undef, undef, undef, undef, undef], []⟩ w := by
  have hu1 := Tryz.underlying35
  have hu2 := Tryz.underlying61
  have hcp0 : w.cell? ⟨gp, 0, none⟩ = some (.string h) := (blk_cell BP.out 0).trans rfl
  have hcp1 : w.cell? ⟨gp, 1, none⟩ = some (.string d) := (blk_cell BP.out 1).trans rfl
  by_cases q0 : h.size = 48
  · have z0 : (((h.size : Nat) : Int) == 48) = true := by rw [beq_iff_eq]; omega
    have i0 : 0 < h.size := by omega
    have i4 : 4 < h.size := by omega
    have e0 : ((h[0]'i0).toNat : Int) = bt h 0 := bt_at h 0 i0
    have e4 : ((h[4]'i4).toNat : Int) = bt h 4 := bt_at h 4 i4
    by_cases q1 : bt h 0 < 128
    · have z1 : decide (((h[0]'i0).toNat : Int) < 128) = true := decide_eq_true (by rw [e0]; exact q1)
      by_cases q2 : bt h 4 = 0
      · have z2 : ((((h[4]'i4).toNat : Nat) : Int) == 0) = true := by rw [e4]; exact beq_iff_eq.mpr q2
        by_cases q3 : kind = 3
        · have z3 : (kind == 3) = true := beq_iff_eq.mpr q3
          cases ur with
          | true =>
            by_cases q5 : d.size ≤ 8192
            · have z5 : decide ((d.size : Int) ≤ 8192) = true := decide_eq_true (by omega)
              have hr : rd1 h d kind true = true := by unfold rd1; simp only [Bool.and_eq_true, decide_eq_true_eq]; exact ⟨⟨⟨⟨⟨q0, q1⟩, q2⟩, q3⟩, trivial⟩, q5⟩
              rw [if_pos hr] at hE
              have HS := Aside0.mk q0
              have HN := Aside0.mk (hN hr)
              clear hN hr q0 q1 q2 q3 q5 e0 e4
              refine Hand.wp_part 2 (by kernel_rfl) (fun K hK => ?_)
              conv => arg 2; whnf
              go_wp2
              exact login_read.w3 k h d E kind true _ _ _ _ _ _ _ _ _ _ _ _ _ _ _ _ _ _ _ _ _ _ _ _ _ _ _ _ _ _ _ _ _ _ _ _ true first gp gr w0 _ HB BP BR GR (fun h => HS.out) (fun h => HN.out) (by rw [if_pos rfl]; exact hE)
            · have z5 : decide ((d.size : Int) ≤ 8192) = false := decide_eq_false (by omega)
              rw [if_neg (by unfold rd1; simp only [Bool.and_eq_true, decide_eq_true_eq]; rintro ⟨⟨⟨⟨⟨h0, h1⟩, h2⟩, h3⟩, h4⟩, h5⟩; exact q5 h5)] at hE
              clear hN
              clear q0 q1 q2 q3 q5 e0 e4
              refine Hand.wp_part 2 (by kernel_rfl) (fun K hK => ?_)
              conv => arg 2; whnf
              go_wp2
              exact login_read.w3 k h d E kind true _ _ _ _ _ _ _ _ _ _ _ _ _ _ _ _ _ _ _ _ _ _ _ _ _ _ _ _ _ _ _ _ _ _ _ _ false first gp gr w0 _ HB BP BR GR (fun h => absurd h (by decide)) (fun h => absurd h (by decide)) (by rw [if_neg (by decide)]; exact hE)
          | false =>
            rw [if_neg (by unfold rd1; simp only [Bool.and_eq_true, decide_eq_true_eq]; rintro ⟨⟨⟨⟨⟨h0, h1⟩, h2⟩, h3⟩, h4⟩, h5⟩; cases h4)] at hE
            clear hN
            clear q0 q1 q2 q3 e0 e4
            refine Hand.wp_part 2 (by kernel_rfl) (fun K hK => ?_)
            conv => arg 2; whnf
            go_wp2
            exact login_read.w3 k h d E kind false _ _ _ _ _ _ _ _ _ _ _ _ _ _ _ _ _ _ _ _ _ _ _ _ _ _ _ _ _ _ _ _ _ _ _ _ false first gp gr w0 _ HB BP BR GR (fun h => absurd h (by decide)) (fun h => absurd h (by decide)) (by rw [if_neg (by decide)]; exact hE)
        · have z3 : (kind == 3) = false := beq_eq_false_iff_ne.mpr q3
          rw [if_neg (by unfold rd1; simp only [Bool.and_eq_true, decide_eq_true_eq]; rintro ⟨⟨⟨⟨⟨h0, h1⟩, h2⟩, h3⟩, h4⟩, h5⟩; exact q3 h3)] at hE
          clear hN
          clear q0 q1 q2 q3 e0 e4
          refine Hand.wp_part 2 (by kernel_rfl) (fun K hK => ?_)
          conv => arg 2; whnf
          go_wp2
          exact login_read.w3 k h d E kind ur _ _ _ _ _ _ _ _ _ _ _ _ _ _ _ _ _ _ _ _ _ _ _ _ _ _ _ _ _ _ _ _ _ _ _ _ false first gp gr w0 _ HB BP BR GR (fun h => absurd h (by decide)) (fun h => absurd h (by decide)) (by rw [if_neg (by decide)]; exact hE)
      · have z2 : ((((h[4]'i4).toNat : Nat) : Int) == 0) = false := by rw [e4]; exact beq_eq_false_iff_ne.mpr q2
        rw [if_neg (by unfold rd1; simp only [Bool.and_eq_true, decide_eq_true_eq]; rintro ⟨⟨⟨⟨⟨h0, h1⟩, h2⟩, h3⟩, h4⟩, h5⟩; exact q2 h2)] at hE
        clear hN
        clear q0 q1 q2 e0 e4
        refine Hand.wp_part 2 (by kernel_rfl) (fun K hK => ?_)
        conv => arg 2; whnf
        go_wp2
        exact login_read.w3 k h d E kind ur _ _ _ _ _ _ _ _ _ _ _ _ _ _ _ _ _ _ _ _ _ _ _ _ _ _ _ _ _ _ _ _ _ _ _ _ false first gp gr w0 _ HB BP BR GR (fun h => absurd h (by decide)) (fun h => absurd h (by decide)) (by rw [if_neg (by decide)]; exact hE)
    · have z1 : decide (((h[0]'i0).toNat : Int) < 128) = false := decide_eq_false (by rw [e0]; exact q1)
      rw [if_neg (by unfold rd1; simp only [Bool.and_eq_true, decide_eq_true_eq]; rintro ⟨⟨⟨⟨⟨h0, h1⟩, h2⟩, h3⟩, h4⟩, h5⟩; exact q1 h1)] at hE
      clear hN
      clear q0 q1 e0 e4
      refine Hand.wp_part 2 (by kernel_rfl) (fun K hK => ?_)
      conv => arg 2; whnf
      go_wp2
      exact login_read.w3 k h d E kind ur _ _ _ _ _ _ _ _ _ _ _ _ _ _ _ _ _ _ _ _ _ _ _ _ _ _ _ _ _ _ _ _ _ _ _ _ false first gp gr w0 _ HB BP BR GR (fun h => absurd h (by decide)) (fun h => absurd h (by decide)) (by rw [if_neg (by decide)]; exact hE)
  · have z0 : (((h.size : Nat) : Int) == 48) = false := by rw [beq_eq_false_iff_ne]; omega
    rw [if_neg (by unfold rd1; simp only [Bool.and_eq_true, decide_eq_true_eq]; rintro ⟨⟨⟨⟨⟨h0, h1⟩, h2⟩, h3⟩, h4⟩, h5⟩; exact q0 h0)] at hE
    clear hN
    clear q0
    refine Hand.wp_part 2 (by kernel_rfl) (fun K hK => ?_)
    conv => arg 2; whnf
    go_wp2
    exact login_read.w3 k h d E kind ur _ _ _ _ _ _ _ _ _ _ _ _ _ _ _ _ _ _ _ _ _ _ _ _ _ _ _ _ _ _ _ _ _ _ _ _ false first gp gr w0 _ HB BP BR GR (fun h => absurd h (by decide)) (fun h => absurd h (by decide)) (by rw [if_neg (by decide)]; exact hE)
set_option maxHeartbeats 4000000 in
set_option maxRecDepth 100000 in
theorem login_read.calls (k : Nat) (h d : ByteArray) (kind : Int) (ur : Bool) (first : Int) (E : Ending) (w : World) (hk : ipdu_Kind.f h d = some (kind, ur)) (hN : rd1 h d kind ur = true → ipdu_Num.f k h d 24 = some first) (hE : (if rd1 h d kind ur = true then rdE h first else .panicked [refV 2 0]) = E) :
    Calls Tryz.prog 46 #[.agg #[.string h, .string d]] w fun e w' => e = E ∧ Below w.heap.size w w' := by
  have hu1 := Tryz.underlying35
  have hu2 := Tryz.underlying61
  have HK := Aside0.mk hk
  have HB := Aside0.mk (Below.refl w.heap.size w)
  clear hk
  go_enter Tryz.func46, Tryz.ntmps46
  apply Hand.wp_whole
  refine Hand.wp_part 0 (by kernel_rfl) (fun K hK => ?_)
  conv => arg 2; whnf
  go_wp2_with (first
    | ((with_reducible refine gate_dst (N := 1) rfl ?_); refine box_event ?hg (N := 1) ?hd (cs := #[.string h, .string d]) (t := 35) ?hr ?_; (case hd => rfl); (case hg => rfl); (case hr => first | (go_simp; done) | (go_simp; rfl)); intro gp hg w1 hbox hb; have n0_ := Aside0.mk (below_step (hb_ HB) hb); have BP := Aside0.mk hbox; clear HB; have HB := n0_; clear n0_ hb hbox hg)
    | ((with_reducible refine gate_dst (N := 2) rfl ?_); refine box_event ?hg (N := 2) ?hd (cs := #[.bool false, .int .i64 0, .int .i64 0, .int .u32 0]) (t := 61) ?hr ?_; (case hd => rfl); (case hg => rfl); (case hr => first | (go_simp; done) | (go_simp; rfl)); intro gr hg w2 hbox hb; have GR := Aside0.mk (And.intro (show w.heap.size ≤ gr by rw [hg]; exact HB.out.size) (show gp ≠ gr by rw [hg]; exact Nat.ne_of_lt (blk_lt BP.out))); have n0_ := Aside0.mk (below_step (hb_ HB) hb); have n1_ := Aside0.mk (blk_below (bk_ BP) hb); have BR := Aside0.mk hbox; clear HB BP; have HB := n0_; have BP := n1_; clear n0_ n1_ hb hbox hg))
  refine Hand.wp_part 1 (by kernel_rfl) (fun K hK => ?_)
  conv => arg 2; whnf
  have hcp0 : w2.cell? ⟨gp, 0, none⟩ = some (.string h) := (blk_cell BP.out 0).trans rfl
  have hcp1 : w2.cell? ⟨gp, 1, none⟩ = some (.string d) := (blk_cell BP.out 1).trans rfl
  go_wp2_with (go_at_call 64; refine (ipdu_Kind.calls h d kind ur _ HK.out).mono ?_; rintro e w3 ⟨rfl, hb⟩; have n0_ := Aside0.mk (below_step HB.out hb); have n1_ := Aside0.mk (blk_below BP.out hb); have n2_ := Aside0.mk (blk_below BR.out hb); clear HB BP BR; have HB := n0_; have BP := n1_; have BR := n2_; clear n0_ n1_ n2_; clear hb hcp0 hcp1)
  exact login_read.w2 k h d E kind ur _ _ _ _ _ first gp gr w w3 HB BP BR GR hN hE
theorem cut_one (a0 : ByteArray) (c : UInt8) (w : World) (i : Int) (hi : Go.Lib.indexByte a0.data.toList c = i) (hlo : 0 ≤ i) (hup : i < a0.size) (hmx : a0.size ≤ 1000000) :
    Calls Tryz.prog 79 #[.string a0, .string ⟨#[c]⟩] w fun e w' => e = .returned (.tuple #[.string (a0.extract 0 i.toNat), .string (a0.extract (i.toNat + 1) a0.size), .bool true]) ∧ Drawn0 w w' := by
  have HI := Aside0.mk hi
  obtain ⟨n, rfl⟩ : ∃ n : Nat, i = n := ⟨i.toNat, by omega⟩
  have hs1 : (⟨#[c]⟩ : ByteArray).size = 1 := rfl
  have hlt : n < a0.size := by omega
  clear hi
  go_enter Tryz.func79, Tryz.ntmps79
  go_wp2_with (go_at_call 102; refine (Tryz.stringslite_Index_one a0 c _).mono ?_; rintro e w' ⟨rfl, rfl⟩; rw [HI.out])
  have s1 : IntKind.i64.wrap ((n : Int) + 1) = (n : Int) + 1 := IntWalk.i64_in _ (by omega)
  have s2 : ((n : Int) + 1).toNat = n + 1 := by omega
  have s3 : (0 : Int) ≤ (n : Int) + 1 := by omega
  go_quiet (fail)
  go_wp2
  go_ret3
  exact ⟨rfl, by repeat (first | exact Drawn0.refl _ | apply Drawn0.step)⟩
theorem cut_none (a0 : ByteArray) (c : UInt8) (w : World) (hi : Go.Lib.indexByte a0.data.toList c = -1) :
    Calls Tryz.prog 79 #[.string a0, .string ⟨#[c]⟩] w fun e w' => e = .returned (.tuple #[.string a0, .string (⟨#[]⟩ : ByteArray), .bool false]) ∧ Drawn0 w w' := by
  have HI := Aside0.mk hi
  clear hi
  go_enter Tryz.func79, Tryz.ntmps79
  go_wp2_with (go_at_call 102; refine (Tryz.stringslite_Index_one a0 c _).mono ?_; rintro e w' ⟨rfl, rfl⟩; rw [HI.out])
  go_ret3
  exact ⟨rfl, by repeat (first | exact Drawn0.refl _ | apply Drawn0.step)⟩
theorem indexByte_lt (l : List UInt8) (c : UInt8) : Go.Lib.indexByte l c < l.length := by
  induction l with
  | nil => show (-1 : Int) < _; exact Int.lt_of_lt_of_le (by decide) (Int.natCast_nonneg _)
  | cons b l ih =>
    unfold Go.Lib.indexByte
    have : ((b :: l).length : Int) = l.length + 1 := by simp
    split
    · omega
    · split
      · omega
      · omega
def cut1 (s : ByteArray) (c : UInt8) : ByteArray × ByteArray × Bool :=
  if Go.Lib.indexByte s.data.toList c < 0 then (s, (⟨#[]⟩ : ByteArray), false) else (s.extract 0 (Go.Lib.indexByte s.data.toList c).toNat, s.extract ((Go.Lib.indexByte s.data.toList c).toNat + 1) s.size, true)
def strings_Cut.f (a0 : ByteArray) (a1 : ByteArray) : Option (ByteArray × ByteArray × Bool) :=
  match a1.data.toList with
  | [c] => if a0.size ≤ 1000000 then some (cut1 a0 c) else none
  | _ => none
theorem strings_Cut.calls (a0 : ByteArray) (a1 : ByteArray) (r1 : ByteArray) (r2 : ByteArray) (r3 : Bool) (w : World) (h : strings_Cut.f a0 a1 = some (r1, r2, r3)) :
    Calls Tryz.prog 65 #[.string a0, .string a1] w fun e w' => e = .returned (.tuple #[.string r1, .string r2, .bool r3]) ∧ Drawn0 w w' := by
  unfold strings_Cut.f at h
  split at h
  · next c hc =>
    split at h
    · next hmx =>
      obtain rfl : a1 = ⟨#[c]⟩ := by rcases a1 with ⟨⟨l⟩⟩; cases hc; rfl
      have hin : Calls Tryz.prog 79 #[.string a0, .string ⟨#[c]⟩] w fun e w' => e = .returned (.tuple #[.string r1, .string r2, .bool r3]) ∧ Drawn0 w w' := by
        have h1 := Go.Lib.indexByte_ge a0.data.toList c
        have h2 := indexByte_lt a0.data.toList c
        have h3 : a0.data.toList.length = a0.size := rfl
        unfold cut1 at h
        split at h
        · next hn =>
          cases h
          exact cut_none a0 c w (by omega)
        · next hn =>
          cases h
          exact cut_one a0 c w _ rfl (by omega) (by omega) hmx
      have HIN := Aside0.mk hin
      clear hin h hc
      go_enter Tryz.func65, Tryz.ntmps65
      go_wp2_with (go_at_call 79; refine HIN.out.mono ?_; rintro e w' ⟨rfl, ⟨nd, rfl⟩⟩)
      go_ret3
      exact ⟨rfl, ⟨nd, rfl⟩⟩
    · cases h
  · cases h
def keyC (c : UInt8) : Bool := decide (97 ≤ c.toNat ∧ c.toNat ≤ 122) || decide (65 ≤ c.toNat ∧ c.toNat ≤ 90) || decide (48 ≤ c.toNat ∧ c.toNat ≤ 57) || decide (0 ≤ Go.Lib.indexByte [46, 45, 43, 64, 95] c)
def keyB (s : ByteArray) : Bool := decide (1 ≤ s.size) && decide (s.size ≤ 63) && s.data.toList.all keyC
def keys_key.f (a0 : ByteArray) : Option Bool := some (keyB a0)
theorem byte_at (s : ByteArray) (i : Nat) (h : i < s.size) : s[i] = s.data.toList[i]'(by simpa using h) := rfl
theorem take_one {α : Type} (p : α → Bool) (l : List α) (k : Nat) (h : k < l.length) {b : Bool} (hn : ∀ x ∈ l.take k, p x = b) (hk : p l[k] = b) : ∀ x ∈ l.take (k + 1), p x = b := by
  intro x hx
  rw [List.take_succ_eq_append_getElem h] at hx
  rcases List.mem_append.mp hx with hx | hx
  · exact hn x hx
  · rw [List.mem_singleton.mp hx]
    exact hk
set_option maxHeartbeats 8000000 in
set_option maxRecDepth 100000 in
theorem key_walk (s : ByteArray) (w : World) (h1 : 1 ≤ s.size) (h2 : s.size ≤ 63) :
    Calls Tryz.prog 80 #[.string s] w fun e w' => e = .returned (.bool (s.data.toList.all keyC)) ∧ Drawn0 w w' := by
  have i1 : (1 : Int) ≤ s.size := by omega
  have i2 : (s.size : Int) ≤ 63 := by omega
  obtain ⟨V, hV⟩ : ∃ V, s.data.toList.all keyC = V := ⟨_, rfl⟩
  rw [hV]
  have HV := Aside0.mk hV
  clear hV
  go_enter Tryz.func80, Tryz.ntmps80
  go_wp2
  go_loop [15] (fun vi => ∃ i : Nat, vi = .int .i64 i ∧ i ≤ s.size ∧ Aside0 (∀ c ∈ s.data.toList.take i, keyC c = true)) (fun vi => s.size - (intOf vi).toNat)
  case atStart => exact ⟨0, rfl, by omega, ⟨by intro x hx; cases hx⟩⟩
  case round =>
    obtain ⟨i, rfl, hi, hn⟩ := hrel
    by_cases hlt : i < s.size
    · have hil : i < s.data.toList.length := by simpa using hlt
      obtain ⟨c, hc⟩ : ∃ c, s[i] = c := ⟨_, rfl⟩
      have hc256 : c.toNat < 256 := c.toNat_lt
      have HC := Aside0.mk ((byte_at s i hlt).symm.trans hc)
      have e0 : ((c.toNat : Int)).toNat.toUInt8 = c := by simp
      obtain ⟨x, hx⟩ : ∃ x : Int, Go.Lib.indexByte [46, 45, 43, 64, 95] c = x := ⟨_, rfl⟩
      have HX := Aside0.mk hx
      have E0 := Aside0.mk e0
      clear hx e0
      go_wp2_with (go_at_call 81; refine (Tryz.strings_IndexByte _ _ _).mono ?_; rintro e w' ⟨rfl, rfl⟩; rw [show (c.toNat : Int).toNat.toUInt8 = c from E0.out, HX.out])
      all_goals first
        | (refine ⟨⟨i + 1, by go_num, by omega, ⟨take_one keyC _ i hil hn.out ?_⟩⟩, by simp [intOf]; omega⟩
           rw [HC.out]; unfold keyC; simp only [Bool.or_eq_true, decide_eq_true_eq]; rw [HX.out]; omega)
        | (have hno : keyC c = false := by
             unfold keyC; simp only [Bool.or_eq_false_iff, decide_eq_false_iff_not]; rw [HX.out]; omega
           have hall : s.data.toList.all keyC = false := List.all_eq_false.mpr ⟨c, by rw [← HC.out]; exact List.getElem_mem _, by rw [hno]; decide⟩
           have hv := HV.out.symm.trans hall
           have HVV := Aside0.mk hv
           clear hno hall hv
           go_ret
           exact ⟨by rw [HVV.out]; rfl, Drawn0.refl _⟩)
    · have hall : s.data.toList.all keyC = true := List.all_eq_true.mpr fun c hc => hn.out c (by rwa [List.take_of_length_le (by have : s.data.toList.length = s.size := rfl; omega)])
      have hv := HV.out.symm.trans hall
      have HVV := Aside0.mk hv
      clear hall hv
      go_wp2
      go_ret
      exact ⟨by rw [HVV.out]; rfl, Drawn0.refl _⟩
set_option maxHeartbeats 8000000 in
set_option maxRecDepth 100000 in
theorem key_not (s : ByteArray) (w : World) (h : s.size < 1 ∨ 63 < s.size) :
    Calls Tryz.prog 80 #[.string s] w fun e w' => e = .returned (.bool false) ∧ Drawn0 w w' := by
  rcases h with h | h
  · have i1 : (s.size : Int) < 1 := by omega
    go_enter Tryz.func80, Tryz.ntmps80
    go_wp2
    go_ret
    exact ⟨rfl, Drawn0.refl _⟩
  · have i1 : (63 : Int) < s.size := by omega
    have i2 : (1 : Int) ≤ s.size := by omega
    go_enter Tryz.func80, Tryz.ntmps80
    go_wp2
    go_ret
    exact ⟨rfl, Drawn0.refl _⟩
theorem keys_key.calls (a0 : ByteArray) (r : Bool) (w : World) (h : keys_key.f a0 = some r) :
    Calls Tryz.prog 80 #[.string a0] w fun e w' => e = .returned (.bool r) ∧ Drawn0 w w' := by
  obtain rfl := Option.some.inj h
  unfold keyB
  by_cases h1 : 1 ≤ a0.size
  · by_cases h2 : a0.size ≤ 63
    · rw [decide_eq_true h1, decide_eq_true h2]
      exact key_walk a0 w h1 h2
    · rw [decide_eq_false h2, Bool.and_false, Bool.false_and]
      exact key_not a0 w (Or.inr (by omega))
  · rw [decide_eq_false h1, Bool.false_and, Bool.false_and]
    exact key_not a0 w (Or.inl (by omega))
def keyIn (l : List S117) (s : ByteArray) : Bool := l.any fun q => q.f0.toList == s.toList
def pairB (p : S117) : Bool := keyB p.f0 && decide (p.f1.size ≤ 255) && decide (Go.Lib.indexByte p.f1.data.toList 0 < 0)
def goodL (l : List S117) : List S117 → Bool
  | [] => true
  | p :: r => !keyIn l p.f0 && pairB p && goodL (l ++ [p]) r
def goodB (l : List S117) : Bool := decide (l.length ≤ 16) && goodL [] l
def smallB (l : List S117) : Bool := l.all fun p => decide (p.f0.size ≤ 1000000) && decide (p.f1.size ≤ 1000000)
def keys_good.f (l0 : List S117) : Option Bool := if smallB l0 = true then some (goodB l0) else none
theorem small_at {l : List S117} (h : smallB l = true) (i : Nat) (hi : i < l.length) : l[i].f0.size ≤ 1000000 ∧ l[i].f1.size ≤ 1000000 := by
  have h := List.all_eq_true.mp h _ (List.getElem_mem hi)
  simpa using h
theorem keyIn_snoc (l : List S117) (p : S117) (s : ByteArray) : keyIn (l ++ [p]) s = (keyIn l s || p.f0.toList == s.toList) := by
  unfold keyIn
  rw [List.any_append]
  simp
def Met (D : DataW Nat) (l : List S117) : Prop := Maps.IsMap D ∧ ∀ s : ByteArray, D.atKey (.string s.data.toList) (.lit (.int .i64 0)) = .lit (.int .i64 (if keyIn l s = true then 1 else 0))
theorem met_nil : Met (.map []) [] := ⟨⟨_, rfl⟩, fun _ => rfl⟩
theorem key_lit (s : ByteArray) : WideAt.IsKeyLit (.string s.data.toList) := by unfold WideAt.IsKeyLit; trivial
theorem toList_data (s t : ByteArray) : s.toList = t.toList ↔ s.data.toList = t.data.toList := by rw [ByteArray.toList_eq, ByteArray.toList_eq]
theorem met_snoc {D : DataW Nat} {l : List S117} (h : Met D l) (p : S117) : Met (D.put (.string p.f0.data.toList) (.lit (.int .i64 1))) (l ++ [p]) := by
  refine ⟨h.1.put _ _, fun s => ?_⟩
  rw [keyIn_snoc]
  by_cases e : s.data.toList = p.f0.data.toList
  · rw [e, Maps.atKey_put_same h.1 (key_lit _)]
    have : (p.f0.toList == s.toList) = true := beq_iff_eq.mpr ((toList_data _ _).mpr e.symm)
    rw [this, Bool.or_true, if_pos rfl]
  · rw [Maps.atKey_put_other (fun z => e (by injection z)), h.2 s]
    have : (p.f0.toList == s.toList) = false := beq_eq_false_iff_ne.mpr fun z => e ((toList_data _ _).mp z).symm
    rw [this, Bool.or_false]
theorem met_c {D : DataW Nat} {l : List S117} {s : ByteArray} {c : Int} (h : Met D l) (hat : D.atKey (.string s.data.toList) (.lit (.int .i64 0)) = .lit (.int .i64 c)) : c = if keyIn l s = true then 1 else 0 := by
  have h1 := (h.2 s).symm.trans hat
  injection h1 with h1
  injection h1 with _ h1
  exact h1.symm
theorem goodL_snoc (p : S117) (l r : List S117) : goodL l (p :: r) = (!keyIn l p.f0 && pairB p && goodL (l ++ [p]) r) := rfl
theorem rd_pair (l : List S117) (j : Nat) (hj : j < l.length) : rd_T117 l (j : Int) = l[j] := by
  unfold rd_T117
  simp [List.getD, List.getElem?_eq_getElem hj]
set_option maxHeartbeats 8000000 in
set_option maxRecDepth 100000 in
theorem good_walk (A0 : Option Addr) (c0 : Nat) (l : List S117) (w : World) (hr : Kd.C k117 w A0 l.length l) (hc0 : l.length ≤ c0) (h16 : l.length ≤ 16) (hsm : smallB l = true) :
    Calls Tryz.prog 66 #[.slice A0 l.length c0] w fun e w' => e = .returned (.bool (goodL [] l)) ∧ Below w.heap.size w w' := by
  have K : Maps.Keyed Tryz.prog 9 := Maps.string_keyed Tryz.underlying9
  have hmm := @run_makeMap Tryz.prog
  have hz : ∀ w : World, (zeroValue 3).run Tryz.prog w = .ok (.int .i64 0) w := fun w => by kernel_rfl
  have i16 : (l.length : Int) ≤ 16 := by omega
  have HR := Aside0.mk hr
  have HSM := Aside0.mk hsm
  clear hr hsm
  obtain ⟨V, hV⟩ : ∃ V, goodL [] l = V := ⟨_, rfl⟩
  rw [hV]
  have HV := Aside0.mk hV
  clear hV
  go_enter Tryz.func66, Tryz.ntmps66
  go_wp2
  go_loopw [12] (fun vi wr => ∃ (i : Nat) (D : DataW Nat), vi = .int .i64 i ∧ i ≤ l.length ∧ Aside0 (wr.ownsMap Tryz.prog 9 (plainElem Tryz.prog 3) w.heap.size i D) ∧ Aside0 (Met D (l.take i)) ∧ Aside0 (goodL (l.take i) (l.drop i) = V) ∧ Aside0 (Below w.heap.size w wr)) (fun vi _ => l.length - (intOf vi).toNat)
  case atStart => exact ⟨0, .map [], rfl, by omega, ⟨World.ownsMap_made _ _ _ _⟩, ⟨met_nil⟩, HV, ⟨(Below.refl _ _).alloc (Nat.le_refl _) _⟩⟩
  case round =>
    obtain ⟨i, D, rfl, hi, hO, hM, hL, hB⟩ := hrel
    by_cases hlt : i < l.length
    · obtain ⟨ad, hA, hc1, hc2⟩ := at_T117 (Kd.C_below HR.out hB.out) i (by omega) (by omega)
      subst hA
      obtain ⟨p, hp⟩ : ∃ p, l[i] = p := ⟨_, rfl⟩
      have hpr : rd_T117 l i = p := by rw [← hp]; exact rd_pair l i hlt
      rw [hpr] at hc1 hc2
      clear hpr
      simp only [Int.toNat_natCast] at hc1 hc2
      have hdrop : l.drop i = p :: l.drop (i + 1) := by rw [List.drop_eq_getElem_cons hlt, hp]
      have htake : l.take (i + 1) = l.take i ++ [p] := by rw [List.take_succ_eq_append_getElem hlt, hp]
      have hstep := hL.out
      rw [hdrop, goodL_snoc, ← htake] at hstep
      have HST := Aside0.mk hstep
      have HTK := Aside0.mk htake
      have hsz : p.f0.size ≤ maxLen := by have := (small_at HSM.out i hlt).1; rw [hp] at this; unfold maxLen; omega
      have HP := Aside0.mk hp
      clear hdrop htake hstep hp hL
      have HKEY := Aside0.mk (Go.WideMaps.keyOf_string_mk (P := Tryz.prog) Tryz.underlying9 hsz)
      clear hsz
      by_cases hk : keyIn (l.take i) p.f0 = true
      · have HK := Aside0.mk hk
        clear hk
        go_wp2_with (first
          | (at_lookup; refine wpList_lookup_own_int _ rfl _ _ 160 rfl 9 3 .i64 K Tryz.underlying160 Tryz.underlying3 (hz _) w.heap.size (i + 1) (D.put (.string p.f0.data.toList) (.lit (.int .i64 2))) rfl HO1.out _ _ rfl HKEY.out ?_; intro c hat hwc; obtain rfl : c = 2 := (by (rw [Maps.atKey_put_same hM.out.1 (key_lit _)] at hat; injection hat with hat; injection hat with _ hat; exact hat.symm)); clear hat hwc)
          | (at_lookup; refine wpList_lookup_own_int _ rfl _ _ 160 rfl 9 3 .i64 K Tryz.underlying160 Tryz.underlying3 (hz _) w.heap.size i (D) rfl (hO.out.alloc _) _ _ rfl HKEY.out ?_; intro c hat hwc; obtain rfl : c = 1 := (met_c hM.out hat).trans (if_pos HK.out); clear hat hwc)
          | (at_mapUpdate; refine wpList_mapUpdate_own _ rfl _ _ _ 160 rfl 9 3 K Tryz.underlying160 _ w.heap.size i D rfl (hO.out.alloc _) (show i < maxLen by (have : maxLen = 9223372036854775807 := rfl); omega) _ _ _ rfl rfl HKEY.out _ [] (plainElem_int Tryz.underlying3 (show (Lit.int .i64 2).wf = true by decide)) ?_; intro w1 hown1 hgrow1; have HO1 := Aside0.mk hown1; have HG1 := Aside0.mk hgrow1; clear hown1 hgrow1; have hbx : w1.heap[wr.heap.size]? = some (.cells #[.string p.f0, .string p.f1] 117 (0, 0)) := (HG1.out.block wr.heap.size (by show wr.heap.size < (wr.heap.push _).size; simp) (fun e => by injection e with e; have := hO.out.lt; omega)).trans Array.getElem?_push_size; have hb0 : w1.cell? ⟨wr.heap.size, 0, none⟩ = some (.string p.f0) := (blk_cell hbx 0).trans rfl; have hb1 : w1.cell? ⟨wr.heap.size, 1, none⟩ = some (.string p.f1) := (blk_cell hbx 1).trans rfl; have HB1 := Aside0.mk (show Below w.heap.size w w1 from (below_alloc hB.out _).grown HG1.out (below_size (below_alloc hB.out _)) (fun k hk => by cases hk; exact Nat.le_refl _)); clear hbx))
        go_ret
        have hV : V = false := by rw [← HST.out, HK.out]; rfl
        exact ⟨by rw [hV]; rfl, HB1.out⟩
      · have hk : keyIn (l.take i) p.f0 = false := by simpa using hk
        have HK := Aside0.mk hk
        clear hk
        have hst := HST.out
        rw [HK.out, Bool.not_false, Bool.true_and] at hst
        have HS2 := Aside0.mk hst
        clear hst
        obtain ⟨kb, hkb⟩ : ∃ b, keyB p.f0 = b := ⟨_, rfl⟩
        have HKB := Aside0.mk hkb
        obtain ⟨x, hx⟩ : ∃ x, Go.Lib.indexByte p.f1.data.toList 0 = x := ⟨_, rfl⟩
        have HX := Aside0.mk hx
        have hpb : pairB p = (kb && decide (p.f1.size ≤ 255) && decide (x < 0)) := by unfold pairB; rw [hkb, hx]
        have HPB := Aside0.mk hpb
        clear hkb hx hpb
        cases kb
        · go_wp2_with (first
            | (at_lookup; refine wpList_lookup_own_int _ rfl _ _ 160 rfl 9 3 .i64 K Tryz.underlying160 Tryz.underlying3 (hz _) w.heap.size (i + 1) (D.put (.string p.f0.data.toList) (.lit (.int .i64 1))) rfl HO1.out _ _ rfl HKEY.out ?_; intro c hat hwc; obtain rfl : c = 1 := (by (rw [Maps.atKey_put_same hM.out.1 (key_lit _)] at hat; injection hat with hat; injection hat with _ hat; exact hat.symm)); clear hat hwc)
            | (at_lookup; refine wpList_lookup_own_int _ rfl _ _ 160 rfl 9 3 .i64 K Tryz.underlying160 Tryz.underlying3 (hz _) w.heap.size i (D) rfl (hO.out.alloc _) _ _ rfl HKEY.out ?_; intro c hat hwc; obtain rfl : c = 0 := (met_c hM.out hat).trans (if_neg (by rw [HK.out]; decide)); clear hat hwc)
            | (at_mapUpdate; refine wpList_mapUpdate_own _ rfl _ _ _ 160 rfl 9 3 K Tryz.underlying160 _ w.heap.size i D rfl (hO.out.alloc _) (show i < maxLen by (have : maxLen = 9223372036854775807 := rfl); omega) _ _ _ rfl rfl HKEY.out _ [] (plainElem_int Tryz.underlying3 (show (Lit.int .i64 1).wf = true by decide)) ?_; intro w1 hown1 hgrow1; have HO1 := Aside0.mk hown1; have HG1 := Aside0.mk hgrow1; clear hown1 hgrow1; have hbx : w1.heap[wr.heap.size]? = some (.cells #[.string p.f0, .string p.f1] 117 (0, 0)) := (HG1.out.block wr.heap.size (by show wr.heap.size < (wr.heap.push _).size; simp) (fun e => by injection e with e; have := hO.out.lt; omega)).trans Array.getElem?_push_size; have hb0 : w1.cell? ⟨wr.heap.size, 0, none⟩ = some (.string p.f0) := (blk_cell hbx 0).trans rfl; have hb1 : w1.cell? ⟨wr.heap.size, 1, none⟩ = some (.string p.f1) := (blk_cell hbx 1).trans rfl; have HB1 := Aside0.mk (show Below w.heap.size w w1 from (below_alloc hB.out _).grown HG1.out (below_size (below_alloc hB.out _)) (fun k hk => by cases hk; exact Nat.le_refl _)); clear hbx)
            | (go_at_call 80; refine (keys_key.calls p.f0 _ _ rfl).mono ?_; rintro e w2 ⟨rfl, ⟨nd, rfl⟩⟩; rw [HKB.out])
            | (go_at_call 81; refine (Tryz.strings_IndexByte p.f1 0 _).mono ?_; rintro e w3 ⟨rfl, rfl⟩; rw [show Go.Lib.indexByte p.f1.data.toList (0 : Int).toNat.toUInt8 = x from HX.out]))
          go_ret
          have hV : V = false := by rw [← HS2.out, HPB.out]; simp
          exact ⟨by rw [hV]; rfl, by repeat (first | exact HB1.out | apply pw_below_drewN)⟩
        · by_cases f255 : p.f1.size ≤ 255
          · have j255 : (p.f1.size : Int) ≤ 255 := by omega
            by_cases fx : x < 0
            · go_wp2_with (first
                | (at_lookup; refine wpList_lookup_own_int _ rfl _ _ 160 rfl 9 3 .i64 K Tryz.underlying160 Tryz.underlying3 (hz _) w.heap.size (i + 1) (D.put (.string p.f0.data.toList) (.lit (.int .i64 1))) rfl HO1.out _ _ rfl HKEY.out ?_; intro c hat hwc; obtain rfl : c = 1 := (by (rw [Maps.atKey_put_same hM.out.1 (key_lit _)] at hat; injection hat with hat; injection hat with _ hat; exact hat.symm)); clear hat hwc)
                | (at_lookup; refine wpList_lookup_own_int _ rfl _ _ 160 rfl 9 3 .i64 K Tryz.underlying160 Tryz.underlying3 (hz _) w.heap.size i (D) rfl (hO.out.alloc _) _ _ rfl HKEY.out ?_; intro c hat hwc; obtain rfl : c = 0 := (met_c hM.out hat).trans (if_neg (by rw [HK.out]; decide)); clear hat hwc)
                | (at_mapUpdate; refine wpList_mapUpdate_own _ rfl _ _ _ 160 rfl 9 3 K Tryz.underlying160 _ w.heap.size i D rfl (hO.out.alloc _) (show i < maxLen by (have : maxLen = 9223372036854775807 := rfl); omega) _ _ _ rfl rfl HKEY.out _ [] (plainElem_int Tryz.underlying3 (show (Lit.int .i64 1).wf = true by decide)) ?_; intro w1 hown1 hgrow1; have HO1 := Aside0.mk hown1; have HG1 := Aside0.mk hgrow1; clear hown1 hgrow1; have hbx : w1.heap[wr.heap.size]? = some (.cells #[.string p.f0, .string p.f1] 117 (0, 0)) := (HG1.out.block wr.heap.size (by show wr.heap.size < (wr.heap.push _).size; simp) (fun e => by injection e with e; have := hO.out.lt; omega)).trans Array.getElem?_push_size; have hb0 : w1.cell? ⟨wr.heap.size, 0, none⟩ = some (.string p.f0) := (blk_cell hbx 0).trans rfl; have hb1 : w1.cell? ⟨wr.heap.size, 1, none⟩ = some (.string p.f1) := (blk_cell hbx 1).trans rfl; have HB1 := Aside0.mk (show Below w.heap.size w w1 from (below_alloc hB.out _).grown HG1.out (below_size (below_alloc hB.out _)) (fun k hk => by cases hk; exact Nat.le_refl _)); clear hbx)
                | (go_at_call 80; refine (keys_key.calls p.f0 _ _ rfl).mono ?_; rintro e w2 ⟨rfl, ⟨nd, rfl⟩⟩; rw [HKB.out])
                | (go_at_call 81; refine (Tryz.strings_IndexByte p.f1 0 _).mono ?_; rintro e w3 ⟨rfl, rfl⟩; rw [show Go.Lib.indexByte p.f1.data.toList (0 : Int).toNat.toUInt8 = x from HX.out]))
              go_roundw
              case rel => exact ⟨i + 1, _, by go_num, by omega, ⟨by repeat (first | exact HO1.out | apply World.ownsMap.drewN)⟩, ⟨by rw [HTK.out]; exact met_snoc hM.out p⟩, ⟨by rw [← HS2.out, HPB.out]; simp [f255, fx]⟩, ⟨by repeat (first | exact HB1.out | apply pw_below_drewN)⟩⟩
              case measure => simp [intOf]; omega
            · have jx : 0 ≤ x := by omega
              go_wp2_with (first
                | (at_lookup; refine wpList_lookup_own_int _ rfl _ _ 160 rfl 9 3 .i64 K Tryz.underlying160 Tryz.underlying3 (hz _) w.heap.size (i + 1) (D.put (.string p.f0.data.toList) (.lit (.int .i64 1))) rfl HO1.out _ _ rfl HKEY.out ?_; intro c hat hwc; obtain rfl : c = 1 := (by (rw [Maps.atKey_put_same hM.out.1 (key_lit _)] at hat; injection hat with hat; injection hat with _ hat; exact hat.symm)); clear hat hwc)
                | (at_lookup; refine wpList_lookup_own_int _ rfl _ _ 160 rfl 9 3 .i64 K Tryz.underlying160 Tryz.underlying3 (hz _) w.heap.size i (D) rfl (hO.out.alloc _) _ _ rfl HKEY.out ?_; intro c hat hwc; obtain rfl : c = 0 := (met_c hM.out hat).trans (if_neg (by rw [HK.out]; decide)); clear hat hwc)
                | (at_mapUpdate; refine wpList_mapUpdate_own _ rfl _ _ _ 160 rfl 9 3 K Tryz.underlying160 _ w.heap.size i D rfl (hO.out.alloc _) (show i < maxLen by (have : maxLen = 9223372036854775807 := rfl); omega) _ _ _ rfl rfl HKEY.out _ [] (plainElem_int Tryz.underlying3 (show (Lit.int .i64 1).wf = true by decide)) ?_; intro w1 hown1 hgrow1; have HO1 := Aside0.mk hown1; have HG1 := Aside0.mk hgrow1; clear hown1 hgrow1; have hbx : w1.heap[wr.heap.size]? = some (.cells #[.string p.f0, .string p.f1] 117 (0, 0)) := (HG1.out.block wr.heap.size (by show wr.heap.size < (wr.heap.push _).size; simp) (fun e => by injection e with e; have := hO.out.lt; omega)).trans Array.getElem?_push_size; have hb0 : w1.cell? ⟨wr.heap.size, 0, none⟩ = some (.string p.f0) := (blk_cell hbx 0).trans rfl; have hb1 : w1.cell? ⟨wr.heap.size, 1, none⟩ = some (.string p.f1) := (blk_cell hbx 1).trans rfl; have HB1 := Aside0.mk (show Below w.heap.size w w1 from (below_alloc hB.out _).grown HG1.out (below_size (below_alloc hB.out _)) (fun k hk => by cases hk; exact Nat.le_refl _)); clear hbx)
                | (go_at_call 80; refine (keys_key.calls p.f0 _ _ rfl).mono ?_; rintro e w2 ⟨rfl, ⟨nd, rfl⟩⟩; rw [HKB.out])
                | (go_at_call 81; refine (Tryz.strings_IndexByte p.f1 0 _).mono ?_; rintro e w3 ⟨rfl, rfl⟩; rw [show Go.Lib.indexByte p.f1.data.toList (0 : Int).toNat.toUInt8 = x from HX.out]))
              go_ret
              have hV : V = false := by rw [← HS2.out, HPB.out, decide_eq_false (show ¬ x < 0 from Int.not_lt.mpr jx), Bool.and_false, Bool.false_and]
              exact ⟨by rw [hV]; rfl, by repeat (first | exact HB1.out | apply pw_below_drewN)⟩
          · have j255 : (255 : Int) < p.f1.size := by omega
            go_wp2_with (first
              | (at_lookup; refine wpList_lookup_own_int _ rfl _ _ 160 rfl 9 3 .i64 K Tryz.underlying160 Tryz.underlying3 (hz _) w.heap.size (i + 1) (D.put (.string p.f0.data.toList) (.lit (.int .i64 1))) rfl HO1.out _ _ rfl HKEY.out ?_; intro c hat hwc; obtain rfl : c = 1 := (by (rw [Maps.atKey_put_same hM.out.1 (key_lit _)] at hat; injection hat with hat; injection hat with _ hat; exact hat.symm)); clear hat hwc)
              | (at_lookup; refine wpList_lookup_own_int _ rfl _ _ 160 rfl 9 3 .i64 K Tryz.underlying160 Tryz.underlying3 (hz _) w.heap.size i (D) rfl (hO.out.alloc _) _ _ rfl HKEY.out ?_; intro c hat hwc; obtain rfl : c = 0 := (met_c hM.out hat).trans (if_neg (by rw [HK.out]; decide)); clear hat hwc)
              | (at_mapUpdate; refine wpList_mapUpdate_own _ rfl _ _ _ 160 rfl 9 3 K Tryz.underlying160 _ w.heap.size i D rfl (hO.out.alloc _) (show i < maxLen by (have : maxLen = 9223372036854775807 := rfl); omega) _ _ _ rfl rfl HKEY.out _ [] (plainElem_int Tryz.underlying3 (show (Lit.int .i64 1).wf = true by decide)) ?_; intro w1 hown1 hgrow1; have HO1 := Aside0.mk hown1; have HG1 := Aside0.mk hgrow1; clear hown1 hgrow1; have hbx : w1.heap[wr.heap.size]? = some (.cells #[.string p.f0, .string p.f1] 117 (0, 0)) := (HG1.out.block wr.heap.size (by show wr.heap.size < (wr.heap.push _).size; simp) (fun e => by injection e with e; have := hO.out.lt; omega)).trans Array.getElem?_push_size; have hb0 : w1.cell? ⟨wr.heap.size, 0, none⟩ = some (.string p.f0) := (blk_cell hbx 0).trans rfl; have hb1 : w1.cell? ⟨wr.heap.size, 1, none⟩ = some (.string p.f1) := (blk_cell hbx 1).trans rfl; have HB1 := Aside0.mk (show Below w.heap.size w w1 from (below_alloc hB.out _).grown HG1.out (below_size (below_alloc hB.out _)) (fun k hk => by cases hk; exact Nat.le_refl _)); clear hbx)
              | (go_at_call 80; refine (keys_key.calls p.f0 _ _ rfl).mono ?_; rintro e w2 ⟨rfl, ⟨nd, rfl⟩⟩; rw [HKB.out])
              | (go_at_call 81; refine (Tryz.strings_IndexByte p.f1 0 _).mono ?_; rintro e w3 ⟨rfl, rfl⟩; rw [show Go.Lib.indexByte p.f1.data.toList (0 : Int).toNat.toUInt8 = x from HX.out]))
            go_ret
            have hV : V = false := by rw [← HS2.out, HPB.out, decide_eq_false f255]; simp
            exact ⟨by rw [hV]; rfl, by repeat (first | exact HB1.out | apply pw_below_drewN)⟩
    · have hil : i = l.length := by omega
      subst hil
      have hV : V = true := by rw [← hL.out, List.drop_eq_nil_of_le (Nat.le_refl _)]; rfl
      have HVT := Aside0.mk hV
      clear hV
      go_wp2
      go_ret
      exact ⟨by rw [HVT.out]; rfl, hB.out⟩
theorem keys_good.calls (A0 : Option Addr) (c0 : Nat) (l0 : List S117) (r : Bool) (w : World) (hr0 : Kd.C k117 w A0 l0.length l0) (hc0 : l0.length ≤ c0) (h : keys_good.f l0 = some r) :
    Calls Tryz.prog 66 #[.slice A0 l0.length c0] w fun e w' => e = .returned (.bool r) ∧ Below w.heap.size w w' := by
  unfold keys_good.f at h
  split at h
  · next hsm =>
    obtain rfl := Option.some.inj h
    unfold goodB
    by_cases h16 : l0.length ≤ 16
    · rw [decide_eq_true h16, Bool.true_and]
      exact good_walk A0 c0 l0 w hr0 hc0 h16 hsm
    · rw [decide_eq_false h16, Bool.false_and]
      have i16 : (16 : Int) < l0.length := by omega
      clear h hr0
      go_enter Tryz.func66, Tryz.ntmps66
      go_wp2
      go_ret
      exact ⟨rfl, Below.refl _ _⟩
  · cases h
end Go.Proofs.YthglbmihbmneaaaGreatDoor.P
