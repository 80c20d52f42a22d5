-- written by this session's patched copy of the printer (wip/tools/patch_print.py); Lean checks it
import Derived.Test.YtmpicpenbhdbhaaDoorPx0
import Derived.Test.YtmpicpenbhdbhaaDoorPx1
import Derived.Test.YtmpicpenbhdbhaaDoorPx2
import Derived.Test.YtmpicpenbhdbhaaDoorPx3
namespace Go.Proofs.YtmpicpenbhdbhaaDoor.P
open Go.RowKit Go.Proofs.YtmpicpenbhdbhaaDoorW.PrintWords Go.Proofs.YtmpicpenbhdbhaaDoorW.PrintLast Go.Proofs.YtmpicpenbhdbhaaDoorW.PrintMore
attribute [local go_sem] max2_int min2_int max_two min_two max_three min_three max_four min_four   -- for this text's walks alone
set_option linter.unusedVariables false
set_option linter.unusedSimpArgs false
set_option linter.unnecessarySimpa false

-- NOT PRINTED: function 25 (image_Decode_1)

/-! ### fields_get_uint64: function 41 -/
mutual
def fields_get_uint64.j0 : Nat → ByteArray → Int → Int → Bool → Bool → Option (Int × Bool)
 | 0, _, _, _, _, _ => none
 | k + 1, x0, x1, x2, x3, x30 => if x30 = true then (some (0, false)) else ((fields_shifts.f k x2 x3).bind fun t136 => (fields_get_uint64.l0 k x0 x1 0 t136 (t136.length : Int) 0))
def fields_get_uint64.l0 : Nat → ByteArray → Int → Int → List Int → Int → Int → Option (Int × Bool)
 | 0, _, _, _, _, _, _ => none
 | k + 1, x0, x1, x10, x33, x34, x35 => if x35 < x34 then (if 0 ≤ x35 then (if x35 < (x33.length : Int) then (if 0 ≤ (wrap64 (x1 + x35)) then (if (wrap64 (x1 + x35)) < (x0.size : Int) then (if 0 ≤ (rd x33 x35) then (fields_get_uint64.l0 k x0 x1 (Go.bits .or .u64 x10 (shl .u64 (IntKind.u64.wrap (bt x0 (wrap64 (x1 + x35)))) (rd x33 x35))) x33 x34 (wrap64 (x35 + 1))) else (none)) else (none)) else (none)) else (none)) else (none)) else (some (x10, true))
end
def fields_get_uint64.f (k : Nat) (a0 : ByteArray) (a1 : Int) (a2 : Int) (a3 : Bool) : Option (Int × Bool) := if a2 < 1 then (fields_get_uint64.j0 k a0 a1 a2 a3 true) else (if a2 > 8 then (fields_get_uint64.j0 k a0 a1 a2 a3 true) else (if a1 < 0 then (fields_get_uint64.j0 k a0 a1 a2 a3 true) else (fields_get_uint64.j0 k a0 a1 a2 a3 (decide (a1 > (wrap64 ((a0.size : Int) - a2)))))))
theorem fields_get_uint64.mono_l : ∀ k, (∀ y0 y1 y2 y3 y4, LeO (fields_get_uint64.j0 k y0 y1 y2 y3 y4) (fields_get_uint64.j0 (k + 1) y0 y1 y2 y3 y4)) ∧ (∀ y0 y1 y2 y3 y4 y5, LeO (fields_get_uint64.l0 k y0 y1 y2 y3 y4 y5) (fields_get_uint64.l0 (k + 1) y0 y1 y2 y3 y4 y5))
 | 0 => ⟨fun _ _ _ _ _ r h => by simp [fields_get_uint64.j0] at h, fun _ _ _ _ _ _ r h => by simp [fields_get_uint64.l0] at h⟩
 | k + 1 => by
  obtain ⟨ih0, ih1⟩ := fields_get_uint64.mono_l k
  refine ⟨?_, ?_⟩
  ·intro y0 y1 y2 y3 y4
   unfold fields_get_uint64.j0
   repeat' first
   | (with_reducible exact ih0 _ _ _ _ _)
   | (with_reducible exact ih1 _ _ _ _ _ _)
   | (with_reducible exact fields_shifts.mono _ _ _)
   | (with_reducible exact LeO.refl _)
   | (with_reducible exact LeO.none _)
   | (with_reducible refine LeO.ite ?_ ?_)
   | (with_reducible refine LeO.bind ?_ (fun _ => ?_))
   | exact ih0 _ _ _ _ _
   | exact ih1 _ _ _ _ _ _
   | exact fields_shifts.mono _ _ _
   | exact LeO.none _
   | refine LeO.ite ?_ ?_
   | refine LeO.bind ?_ (fun _ => ?_)
  ·intro y0 y1 y2 y3 y4 y5
   unfold fields_get_uint64.l0
   repeat' first
   | (with_reducible exact ih0 _ _ _ _ _)
   | (with_reducible exact ih1 _ _ _ _ _ _)
   | (with_reducible exact fields_shifts.mono _ _ _)
   | (with_reducible exact LeO.refl _)
   | (with_reducible exact LeO.none _)
   | (with_reducible refine LeO.ite ?_ ?_)
   | (with_reducible refine LeO.bind ?_ (fun _ => ?_))
   | exact ih0 _ _ _ _ _
   | exact ih1 _ _ _ _ _ _
   | exact fields_shifts.mono _ _ _
   | exact LeO.none _
   | refine LeO.ite ?_ ?_
   | refine LeO.bind ?_ (fun _ => ?_)
theorem fields_get_uint64.mono : ∀ a0 a1 a2 a3 k, LeO (fields_get_uint64.f k a0 a1 a2 a3) (fields_get_uint64.f (k + 1) a0 a1 a2 a3) := by
 intro a0 a1 a2 a3 k
 obtain ⟨ih0, ih1⟩ := fields_get_uint64.mono_l k
 unfold fields_get_uint64.f
 repeat' first
   | (with_reducible exact ih0 _ _ _ _ _)
   | (with_reducible exact ih1 _ _ _ _ _ _)
   | (with_reducible exact fields_shifts.mono _ _ _)
   | (with_reducible exact LeO.refl _)
   | (with_reducible exact LeO.none _)
   | (with_reducible refine LeO.ite ?_ ?_)
   | (with_reducible refine LeO.bind ?_ (fun _ => ?_))
   | exact ih0 _ _ _ _ _
   | exact ih1 _ _ _ _ _ _
   | exact fields_shifts.mono _ _ _
   | exact LeO.none _
   | refine LeO.ite ?_ ?_
   | refine LeO.bind ?_ (fun _ => ?_)
set_option maxHeartbeats 8000000 in
set_option maxRecDepth 100000 in
theorem fields_get_uint64.calls (k : Nat) (a0 : ByteArray) (a1 : Int) (a2 : Int) (a3 : Bool) (r1 : Int) (r2 : Bool) (w : World) (h : fields_get_uint64.f k a0 a1 a2 a3 = some (r1, r2)) :
  Calls Tryd.prog 41 #[.string a0, .int .i64 a1, .int .i64 a2, .bool a3] w fun e w' => e = .returned (.tuple #[.int .u64 r1, .bool r2]) ∧ Below w.heap.size w w' := by
 have HB := Aside0.mk (Below.refl w.heap.size w)
 have H : (if a2 < 1 then (fields_get_uint64.j0 k a0 a1 a2 a3 true) else (if a2 > 8 then (fields_get_uint64.j0 k a0 a1 a2 a3 true) else (if a1 < 0 then (fields_get_uint64.j0 k a0 a1 a2 a3 true) else (fields_get_uint64.j0 k a0 a1 a2 a3 (decide (a1 > (wrap64 ((a0.size : Int) - a2)))))))) = some (r1, r2) := h
 clear h
 have HC5 := Aside0.mk H
 clear H
 go_enter Tryd.func41, Tryd.ntmps41
 go_upto_region 1 with (fail)
 go_cut [30] (fun v30 wc => ∃ (kq : Nat) (x30_4 : Bool), v30 = .bool x30_4 ∧ Aside0 (fields_get_uint64.j0 kq a0 a1 a2 a3 x30_4 = some (r1, r2)) ∧ Aside0 (kq ≤ k) ∧ Aside0 (Below w.heap.size w wc))
 case first =>
  have H := HC5.out
  clear HC5
  by_cases c6 : a2 < 1
  ·rw [if_pos c6] at H
   have c6b0 : decide (a2 < 1) = true := decide_eq_true c6
   clear c6
   (first | rw [c6b0] | (simp only [i64_w, i32_w]; rw [c6b0]) | skip)
   have H' := Aside0.mk H
   clear H
   go_wp2
   go_meet
   case rel => exact ⟨_, (true), (by first | rfl | (simp; done) | (simp [*]; done)), H', ⟨by first | omega | exact Nat.le_refl _⟩, ⟨hb_ HB⟩⟩
  rw [if_neg c6] at H
  have c6b0 : decide (a2 < 1) = false := decide_eq_false c6
  clear c6
  (first | rw [c6b0] | (simp only [i64_w, i32_w]; rw [c6b0]) | skip)
  by_cases c7 : a2 > 8
  ·rw [if_pos c7] at H
   have c7b0 : decide (8 < a2) = true := decide_eq_true c7
   clear c7
   have H' := Aside0.mk H
   clear H
   go_wp2
   go_meet
   case rel => exact ⟨_, (true), (by first | rfl | (simp; done) | (simp [*]; done)), H', ⟨by first | omega | exact Nat.le_refl _⟩, ⟨hb_ HB⟩⟩
  rw [if_neg c7] at H
  have c7b0 : decide (8 < a2) = false := decide_eq_false c7
  clear c7
  by_cases c8 : a1 < 0
  ·rw [if_pos c8] at H
   have c8b0 : decide (a1 < 0) = true := decide_eq_true c8
   clear c8
   have H' := Aside0.mk H
   clear H
   go_wp2
   go_meet
   case rel => exact ⟨_, (true), (by first | rfl | (simp; done) | (simp [*]; done)), H', ⟨by first | omega | exact Nat.le_refl _⟩, ⟨hb_ HB⟩⟩
  rw [if_neg c8] at H
  have c8b0 : decide (a1 < 0) = false := decide_eq_false c8
  clear c8
  have H' := Aside0.mk H
  clear H
  go_wp2
  go_meet
  case rel => exact ⟨_, (decide (a1 > (wrap64 ((a0.size : Int) - a2)))), (by first | rfl | (simp; done) | (simp [*]; done)), H', ⟨by first | omega | exact Nat.le_refl _⟩, ⟨hb_ HB⟩⟩
 case rest =>
  clear HC5
  try clear p2
  try clear c4
  try clear c6
  try clear c6b0
  try clear p6
  try clear c7
  try clear c7b0
  try clear c8
  try clear c8b0
  obtain ⟨kq, x30_4, rfl, HA, HJ4, HB⟩ := hcut
  cases kq with
  | zero => exact absurd HA.out (by simp [fields_get_uint64.j0])
  | succ kj4 =>
   have H := HA.out
   clear HA
   simp only [fields_get_uint64.j0] at H
   by_cases c9 : x30_4 = true
   ·subst c9
    have H1 := H
    rw [if_pos rfl] at H1
    clear H
    have H := H1
    clear H1
    simp only [Option.some.injEq, Prod.mk.injEq] at H
    obtain ⟨rfl, rfl⟩ := H
    go_wp2
    go_ret2
    exact ⟨by first | rfl | (simp [errW_none, errW_some] <;> rfl) | (simp [*, errW_none, errW_some] <;> rfl) | (simp [bt, *]; done) | (unfold bt; simp [*]; done), by repeat (first | (with_reducible first | exact HB.out | apply below_alloc | apply pw_below_drewN | apply below_drew1) | exact HB.out)⟩
   replace c9 := Bool.eq_false_iff.mpr c9
   subst c9
   have H1 := H
   rw [if_neg (show ¬ (false = true) by decide)] at H1
   clear H
   have H := H1
   clear H1
   replace H := Option.bind_eq_some_iff.mp H
   obtain ⟨t136, A100, H⟩ := H
   try dsimp only at H
   have A10 := Aside0.mk A100
   clear A100
   have H' := Aside0.mk H
   clear H
   go_wp2_with (first | ((with_reducible refine gate_callee (f := 44) rfl ?_); refine goesL_ (some 33) rfl rfl Tryd.func44 (by kernel_rfl) rfl #[.int .i64 a2, .bool a3] rfl (by (try simp only [List.map_toArray, List.map_cons, List.map_nil]); first | done | rfl | (simp only [List.length_drop, List.length_take]; rfl)) ?_; (with_reducible refine (fields_shifts.calls kj4 a2 a3 t136 _ A10.out).mono ?_); rintro e w11 ⟨v137, rfl, ho0, hb⟩; refine ⟨_, rfl, ?_⟩; have n0_ := Aside0.mk (Kd.R_lower ho0 (below_size (hb_ HB))); have n1_ := Aside0.mk (below_step (hb_ HB) hb); clear HB; have HO138 := n0_; have HB := n1_; clear n0_ n1_; (try clear hb); (try clear hb2); (try clear hk); (try clear hi); (try clear ho0); obtain ⟨Ao12, co12, eo12⟩ := Kd.R_slice HO138.out; subst eo12))
   go_loopg [10, 35] kj4 (fun kq v10 v35 w' => ∃ (x10_2 : Int) (x35_2 : Int), v10 = .int .u64 x10_2 ∧ v35 = .int .i64 x35_2 ∧ Aside0 (fields_get_uint64.l0 kq a0 a1 x10_2 t136 (t136.length : Int) x35_2 = some (r1, r2)) ∧ Aside0 (kq ≤ kj4) ∧ Aside0 (Kd.R (Kd.int .i64) 3 w' w.heap.size (fun _ => True) (.slice Ao12 t136.length co12) t136) ∧ Aside0 (Below w.heap.size w w'))
   case atStart => exact ⟨(0), (0), (by first | rfl | (simp; done) | (simp [*]; done)), (by first | rfl | (simp; done) | (simp [*]; done)), H', ⟨Nat.le_refl _⟩, ⟨by (with_reducible repeat (first | apply Kd.R_alloc | apply Kd.R_drewN | apply Kd.R_drew)); exact HO138.out⟩, ⟨hb_ HB⟩⟩
   case round =>
    clear H'
    try clear p2
    try clear c4
    try clear c6
    try clear c6b0
    try clear p6
    try clear c7
    try clear c7b0
    try clear c8
    try clear c8b0
    try clear c9
    try clear p2
    try clear p6
    obtain ⟨x10_2, x35_2, rfl, rfl, HA, HK2, HO_33, HB⟩ := hrel
    cases gk with
    | zero => exact absurd HA.out (by simp [fields_get_uint64.l0])
    | succ k2 =>
     have H := HA.out
     clear HA
     simp only [fields_get_uint64.l0] at H
     refine neg_first (p := (x35_2 < (t136.length : Int))) (fun c13 => ?_) (fun c13 => ?_)
     ·rw [if_neg c13] at H
      have c13b0 : decide (x35_2 < (t136.length : Int)) = false := decide_eq_false c13
      clear c13
      simp only [Option.some.injEq, Prod.mk.injEq] at H
      obtain ⟨rfl, rfl⟩ := H
      go_wp2
      go_ret2
      exact ⟨by first | rfl | (simp [errW_none, errW_some] <;> rfl) | (simp [*, errW_none, errW_some] <;> rfl) | (simp [bt, *]; done) | (unfold bt; simp [*]; done), by repeat (first | (with_reducible first | exact HB.out | apply below_alloc | apply pw_below_drewN | apply below_drew1) | exact HB.out)⟩

     rw [if_pos c13] at H
     have c13b0 : decide (x35_2 < (t136.length : Int)) = true := decide_eq_true c13
     clear c13
     refine neg_first (p := (0 ≤ x35_2)) (fun c14 => ?_) (fun c14 => ?_)
     ·rw [if_neg c14] at H
      exact absurd H (by simp)
     rw [if_pos c14] at H
     have c14b0 : decide (0 ≤ x35_2) = true := decide_eq_true c14
     clear c14
     refine neg_first (p := (x35_2 < (t136.length : Int))) (fun c15 => ?_) (fun c15 => ?_)
     ·rw [if_neg c15] at H
      exact absurd H (by simp)
     rw [if_pos c15] at H
     have c15b0 : decide (x35_2 < (t136.length : Int)) = true := decide_eq_true c15
     clear c15
     obtain ⟨ji16, hji16⟩ : ∃ j_ : Int, (wrap64 (a1 + x35_2)) = j_ := ⟨_, rfl⟩
     replace H : (if 0 ≤ (ji16) then (if (ji16) < (a0.size : Int) then (if 0 ≤ (rd t136 x35_2) then (fields_get_uint64.l0 k2 a0 a1 (Go.bits .or .u64 x10_2 (shl .u64 (IntKind.u64.wrap (bt a0 (ji16))) (rd t136 x35_2))) t136 (t136.length : Int) (wrap64 (x35_2 + 1))) else (none)) else (none)) else (none)) = some (r1, r2) := by first | (rw [hji16] at H; exact H) | (simp only [hji16] at H ⊢; exact H)
     have hji16w : (IntKind.i64.wrap (a1 + x35_2)) = ji16 := (i64_w _).trans hji16
     refine neg_first (p := (0 ≤ (ji16))) (fun c17 => ?_) (fun c17 => ?_)
     ·rw [if_neg c17] at H
      exact absurd H (by simp)
     rw [if_pos c17] at H
     have c17b0 : decide (0 ≤ (ji16)) = true := decide_eq_true c17
     clear c17
     refine neg_first (p := ((ji16) < (a0.size : Int))) (fun c18 => ?_) (fun c18 => ?_)
     ·rw [if_neg c18] at H
      exact absurd H (by simp)
     rw [if_pos c18] at H
     have c18b0 : decide ((ji16) < (a0.size : Int)) = true := decide_eq_true c18
     clear c18
     refine neg_first (p := (0 ≤ (rd t136 x35_2))) (fun c20 => ?_) (fun c20 => ?_)
     ·rw [if_neg c20] at H
      exact absurd H (by simp)
     rw [if_pos c20] at H
     have c20b0 := eq_true c20
     have c20b1 : decide (0 ≤ (rd t136 x35_2)) = true := decide_eq_true c20
     clear c20
     obtain ⟨ji21, hji21⟩ : ∃ j_ : Int, (shl .u64 (IntKind.u64.wrap (bt a0 (ji16))) (rd t136 x35_2)) = j_ := ⟨_, rfl⟩
     replace H : (fields_get_uint64.l0 k2 a0 a1 (Go.bits .or .u64 x10_2 (ji21)) t136 (t136.length : Int) (wrap64 (x35_2 + 1))) = some (r1, r2) := by first | (rw [hji21] at H; exact H) | (simp only [hji21] at H ⊢; exact H)
     have hji21_ : (IntKind.u64.wrap ((IntKind.u64.wrap (bt a0 (ji16))) * 2 ^ min (rd t136 x35_2).toNat 64)) = ji21 := hji21
     have hji21z : (rd t136 x35_2) ≤ 64 → (IntKind.u64.wrap ((IntKind.u64.wrap (bt a0 (ji16))) * 2 ^ (rd t136 x35_2).toNat)) = ji21 := shl_small hji21
     have H' := Aside0.mk H
     clear H
     have p139 : 0 ≤ (x35_2 : Int) := of_decide_eq_true (by first | (with_reducible assumption) | assumption)
     have q139 : x35_2 < (t136.length : Int) := of_decide_eq_true (by first | (with_reducible assumption) | assumption)
     obtain ⟨ad139, e139, hx139_0⟩ := Kd.at_int (Kd.R_reads' HO_33.out).2.2 x35_2 p139 q139
     cases e139
     replace p139 := eq_true p139
     replace q139 := eq_true q139
     have p19 : 0 ≤ ((ji16) : Int) := of_decide_eq_true (by first | (with_reducible assumption) | assumption)
     have q19 : (ji16) < (a0.size : Int) := of_decide_eq_true (by first | (with_reducible assumption) | assumption)
     have hx19 := bt_at a0 (ji16)
     replace p19 := eq_true p19
     replace q19 := eq_true q19
     go_wp2
     go_roundg k2
     case measure => have := HJ4.out; have := HK2.out; omega
     case rel => exact ⟨(Go.bits .or .u64 x10_2 (ji21)), (wrap64 (x35_2 + 1)), (by first | rfl | (simp; done) | (simp only [← hji21] <;> (first | rfl | simp)) | (simp [*]; done)), (by first | rfl | (simp; done) | (simp [*]; done)), H', ⟨by have := HJ4.out; have := HK2.out; omega⟩, ⟨by (with_reducible repeat (first | apply Kd.R_alloc | apply Kd.R_drewN | apply Kd.R_drew)); exact HO_33.out⟩, ⟨hb_ HB⟩⟩
/-! ### fields_Big: function 27 -/
def fields_Big.f (k : Nat) (a0 : ByteArray) (a1 : Int) (a2 : Int) : Option (Int × Bool) := (fields_get_uint64.f k a0 a1 a2 true).bind fun bt140 => (some (bt140.1, bt140.2))
theorem fields_Big.mono : ∀ a0 a1 a2 k, LeO (fields_Big.f k a0 a1 a2) (fields_Big.f (k + 1) a0 a1 a2) := by
  intro a0 a1 a2 k
  unfold fields_Big.f
  repeat' first
      | (with_reducible exact fields_get_uint64.mono _ _ _ _ _)
      | (with_reducible exact LeO.refl _)
      | (with_reducible exact LeO.none _)
      | (with_reducible refine LeO.ite ?_ ?_)
      | (with_reducible refine LeO.bind ?_ (fun _ => ?_))
      | exact fields_get_uint64.mono _ _ _ _ _
      | exact LeO.none _
      | refine LeO.ite ?_ ?_
      | refine LeO.bind ?_ (fun _ => ?_)
set_option maxHeartbeats 8000000 in
set_option maxRecDepth 100000 in
theorem fields_Big.calls (k : Nat) (a0 : ByteArray) (a1 : Int) (a2 : Int) (r1 : Int) (r2 : Bool) (w : World) (h : fields_Big.f k a0 a1 a2 = some (r1, r2)) :
    Calls Tryd.prog 27 #[.string a0, .int .i64 a1, .int .i64 a2] w fun e w' => e = .returned (.tuple #[.int .u64 r1, .bool r2]) ∧ Below w.heap.size w w' := by
  have HB := Aside0.mk (Below.refl w.heap.size w)
  have H : ((fields_get_uint64.f k a0 a1 a2 true).bind fun bt140 => (some (bt140.1, bt140.2))) = some (r1, r2) := h
  clear h
  replace H := Option.bind_eq_some_iff.mp H
  obtain ⟨⟨t140, t141⟩, A40, H⟩ := H
  replace H : (some (t140, t141)) = some (r1, r2) := H
  have A4 := Aside0.mk A40
  clear A40
  simp only [Option.some.injEq, Prod.mk.injEq] at H
  obtain ⟨rfl, rfl⟩ := H
  go_enter Tryd.func27, Tryd.ntmps27
  go_wp2_with (first | ((with_reducible refine gate_callee (f := 41) rfl ?_); refine goesL_ (some 11) rfl rfl Tryd.func41 (by kernel_rfl) rfl #[.string a0, .int .i64 a1, .int .i64 a2, .bool true] rfl (by (try simp only [List.map_toArray, List.map_cons, List.map_nil]); first | done | rfl | (simp only [List.length_drop, List.length_take]; rfl)) ?_; (with_reducible refine (fields_get_uint64.calls k a0 a1 a2 true t140 t141 _ A4.out).mono ?_); rintro e w5 ⟨rfl, hb⟩; refine ⟨_, rfl, ?_⟩; have n0_ := Aside0.mk (below_step (by repeat (first | (with_reducible first | exact HB.out | apply below_alloc | apply pw_below_drewN | apply below_drew1) | exact HB.out)) hb); clear HB; have HB := n0_; clear n0_; (try clear hb); (try clear hb2); (try clear hk); (try clear hi)))
  go_ret2
  exact ⟨by first | rfl | (simp [errW_none, errW_some] <;> rfl) | (simp [*, errW_none, errW_some] <;> rfl) | (simp [bt, *]; done) | (unfold bt; simp [*]; done), by repeat (first | (with_reducible first | exact HB.out | apply below_alloc | apply pw_below_drewN | apply below_drew1) | exact HB.out)⟩

-- NOT PRINTED: function 26 (image_Decode_2)

/-! ### image_Decode: function 14 -/
/-- From w to w' nothing but the two cells is turned; what is new lies behind. -/
def Fr (gB gR : Nat) (w w' : World) : Prop := ∀ S : World → Prop, (∀ w1 w2, S w1 → Below w1.heap.size w1 w2 → S w2) → (∀ w1 v, S w1 → S (w1.setCell ⟨gB, 0, none⟩ v)) → (∀ w1 v, S w1 → S (w1.setCell ⟨gR, 0, none⟩ v)) → S w → S w'
theorem Fr.refl (gB gR : Nat) (w : World) : Fr gB gR w w := fun _ _ _ _ h => h
theorem Fr.trans {gB gR : Nat} {w w1 w2 : World} (h : Fr gB gR w w1) (k : Fr gB gR w1 w2) : Fr gB gR w w2 := fun S a b c s => k S a b c (h S a b c s)
theorem Fr.below {gB gR : Nat} {w w1 w2 : World} (h : Fr gB gR w w1) (k : Below w1.heap.size w1 w2) : Fr gB gR w w2 := fun S a b c s => a _ _ (h S a b c s) k
theorem Fr.setB {gB gR : Nat} {w w1 : World} (h : Fr gB gR w w1) (v : Value) : Fr gB gR w (w1.setCell ⟨gB, 0, none⟩ v) := fun S a b c s => b _ _ (h S a b c s)
theorem Fr.setR {gB gR : Nat} {w w1 : World} (h : Fr gB gR w w1) (v : Value) : Fr gB gR w (w1.setCell ⟨gR, 0, none⟩ v) := fun S a b c s => c _ _ (h S a b c s)
theorem Fr.blk {gB gR g : Nat} {w w' : World} {o : Obj} (h : Fr gB gR w w') (hB : g ≠ gB) (hR : g ≠ gR) (hb : w.heap[g]? = some o) : w'.heap[g]? = some o :=
  h (fun w => w.heap[g]? = some o) (fun _ _ a b => blk_below a b) (fun w1 v a => (Below.heap_setCell w1 ⟨gB, 0, none⟩ v g hB).trans a) (fun w1 v a => (Below.heap_setCell w1 ⟨gR, 0, none⟩ v g hR).trans a) hb
theorem Fr.bel {gB gR : Nat} {w0 w w' : World} (h : Fr gB gR w w') (h1 : w0.heap.size ≤ gB) (h2 : w0.heap.size ≤ gR) (hb : Below w0.heap.size w0 w) : Below w0.heap.size w0 w' :=
  h (fun w => Below w0.heap.size w0 w) (fun _ _ a b => below_step a b) (fun _ _ a => below_set a h1) (fun _ _ a => below_set a h2) hb
theorem Fr.row {gB gR base : Nat} {w w' : World} {v vB vR : Value} {xs : List S48} {ok : Nat → Prop} (h : Fr gB gR w w') (hr : Kd.R k48 48 w base ok v xs) (hB : w.heap[gB]? = some (.cells #[vB] 4 (0, 0))) (hR : w.heap[gR]? = some (.cells #[vR] 9 (0, 0))) (hne : gB ≠ gR) : Kd.R k48 48 w' base ok v xs := by
  refine (h (fun w => Kd.R k48 48 w base ok v xs ∧ (∃ x, w.heap[gB]? = some (.cells #[x] 4 (0, 0))) ∧ ∃ x, w.heap[gR]? = some (.cells #[x] 9 (0, 0))) ?_ ?_ ?_ ⟨hr, ⟨_, hB⟩, ⟨_, hR⟩⟩).1
  · rintro w1 w2 ⟨a, ⟨x, b⟩, ⟨y, c⟩⟩ hb
    exact ⟨Kd.R_below a hb, ⟨x, blk_below b hb⟩, ⟨y, blk_below c hb⟩⟩
  · rintro w1 u ⟨a, ⟨x, b⟩, ⟨y, c⟩⟩
    exact ⟨Kd.R_mono (Kd.R_far (p := ⟨gB, 0, none⟩) (Kd.R_types a b (by decide)) (fun _ hk => hk.2) u) (fun _ hk => hk.1), ⟨u, blk_put (cs := #[x]) b 0 u rfl⟩, ⟨y, (Below.heap_setCell w1 ⟨gB, 0, none⟩ u gR (Ne.symm hne)).trans c⟩⟩
  · rintro w1 u ⟨a, ⟨x, b⟩, ⟨y, c⟩⟩
    exact ⟨Kd.R_mono (Kd.R_far (p := ⟨gR, 0, none⟩) (Kd.R_types a c (by decide)) (fun _ hk => hk.2) u) (fun _ hk => hk.1), ⟨x, (Below.heap_setCell w1 ⟨gR, 0, none⟩ u gB hne).trans b⟩, ⟨u, blk_put (cs := #[y]) c 0 u rfl⟩⟩
/-- What is taken: whether all is bad then, the text, and the rest. -/
def tkB (rest : ByteArray) (bad : Bool) (n : Int) : Bool := bad || decide ((rest.size : Int) < n)
def tkS (rest : ByteArray) (bad : Bool) (n : Int) : ByteArray := if tkB rest bad n = true then strOfNums (List.replicate n.toNat 0) else rest.extract 0 n.toNat
def tkR (rest : ByteArray) (bad : Bool) (n : Int) : ByteArray := if tkB rest bad n = true then rest else rest.extract n.toNat rest.size
set_option maxHeartbeats 4000000 in
set_option maxRecDepth 100000 in
theorem take_calls (gB gR : Nat) (rest : ByteArray) (bad : Bool) (n : Int) (w : World) (hB : w.heap[gB]? = some (.cells #[.bool bad] 4 (0, 0))) (hR : w.heap[gR]? = some (.cells #[.string rest] 9 (0, 0))) (hne : gB ≠ gR) (h0 : 0 ≤ n) (h1 : n ≤ 255) :
    Calls Tryd.prog 25 #[.int .i64 n, .pointer (some ⟨gB, 0, none⟩), .pointer (some ⟨gR, 0, none⟩)] w fun e w' => e = .returned (.string (tkS rest bad n)) ∧ w'.heap[gB]? = some (.cells #[.bool (tkB rest bad n)] 4 (0, 0)) ∧ w'.heap[gR]? = some (.cells #[.string (tkR rest bad n)] 9 (0, 0)) ∧ Fr gB gR w w' := by
  have hcB : w.cell? ⟨gB, 0, none⟩ = some (.bool bad) := (blk_cell hB 0).trans rfl
  have hfB := blk_frozen hB 0
  have hcR : w.cell? ⟨gR, 0, none⟩ = some (.string rest) := (blk_cell hR 0).trans rfl
  have hfR := blk_frozen hR 0
  have HB := Aside0.mk hB
  have HR := Aside0.mk hR
  have HN := Aside0.mk hne
  clear hB hR
  unfold tkS tkR
  cases hc : tkB rest bad n
  · have hb : bad = false := by unfold tkB at hc; simp at hc; exact hc.1
    subst hb
    have hle : n ≤ (rest.size : Int) := by unfold tkB at hc; simp at hc; exact hc
    have d1 : decide ((rest.size : Int) < n) = false := decide_eq_false (by omega)
    clear hc
    go_enter Tryd.func25, Tryd.ntmps25
    go_wp2
    go_ret
    exact ⟨rfl, (Below.heap_setCell w ⟨gR, 0, none⟩ _ gB HN.out).trans HB.out, blk_put HR.out 0 _ rfl, (Fr.refl _ _ _).setR _⟩
  · have hd : bad = true ∨ (bad = false ∧ decide ((rest.size : Int) < n) = true) := by unfold tkB at hc; cases bad <;> simp_all
    have hz := Aside0.mk h0
    have hy := Aside0.mk h1
    clear hc h0 h1
    rcases hd with rfl | ⟨rfl, d1⟩
    all_goals
      go_enter Tryd.func25, Tryd.ntmps25
      go_wp2_with (first
        | ((with_reducible refine gate_dst (N := 14) rfl ?_); refine Kd.R_make (w0 := w.setCell ⟨gB, 0, none⟩ (.bool true)) (Kd.int .u8) _ 5 rfl (N := 14) rfl 44 _ _ rfl n rfl rfl Tryd.underlying44 (.int .u8 0) 1 info5 rfl (by decide) (by omega) 0 (ok := fun _ => True) (okp := fun _ => True) rfl (fun _ hk => hk) trivial hz.out (by have := hy.out; have := hz.out; omega) (Below.refl _ _) (Nat.le_refl _) ?_; intro v120 w11 ho12 hb hg_ hnew_; clear hg_ hnew_; have HBB := Aside0.mk hb; have hcv13 := own_string (P := Tryd.prog) Tryd.underlying44 Tryd.underlying5 Tryd.underlying9 (Kd.own_of_R ho12); clear hb ho12))
      go_ret
      have hbb := HBB.out
      have hfr := ((Fr.refl gB gR w).setB (.bool true)).below hbb
      exact ⟨rfl, blk_below (blk_put HB.out 0 _ rfl) hbb, blk_below ((Below.heap_setCell w ⟨gB, 0, none⟩ _ gR (Ne.symm HN.out)).trans HR.out) hbb, hfr⟩
set_option maxHeartbeats 4000000 in
set_option maxRecDepth 100000 in
theorem number_calls (k gB gR g6 : Nat) (rest : ByteArray) (bad : Bool) (n v : Int) (ok : Bool) (w : World) (hB : w.heap[gB]? = some (.cells #[.bool bad] 4 (0, 0))) (hR : w.heap[gR]? = some (.cells #[.string rest] 9 (0, 0))) (h6 : w.heap[g6]? = some (.cells #[(.func (.func 25) #[] #[.pointer (some ⟨gB, 0, none⟩), .pointer (some ⟨gR, 0, none⟩)])] 54 (0, 0))) (hne : gB ≠ gR) (h0 : 0 ≤ n) (h1 : n ≤ 255) (h : fields_Big.f k (tkS rest bad n) 0 n = some (v, ok)) :
    Calls Tryd.prog 26 #[.int .i64 n, .pointer (some ⟨g6, 0, none⟩)] w fun e w' => e = .returned (.int .u64 v) ∧ w'.heap[gB]? = some (.cells #[.bool (tkB rest bad n)] 4 (0, 0)) ∧ w'.heap[gR]? = some (.cells #[.string (tkR rest bad n)] 9 (0, 0)) ∧ Fr gB gR w w' := by
  have hc6 : w.cell? ⟨g6, 0, none⟩ = some (.func (.func 25) #[] #[.pointer (some ⟨gB, 0, none⟩), .pointer (some ⟨gR, 0, none⟩)]) := (blk_cell h6 0).trans rfl
  have HB := Aside0.mk hB
  have HR := Aside0.mk hR
  have HN := Aside0.mk hne
  have H := Aside0.mk h
  have H01 := Aside0.mk (And.intro h0 h1)
  clear hB hR h6 hne h h0 h1
  go_enter Tryd.func26, Tryd.ntmps26
  go_wp2_with (first
    | (go_at_call 25; refine (take_calls gB gR rest bad n _ HB.out HR.out HN.out H01.out.1 H01.out.2).mono ?_; rintro e w1 ⟨rfl, hb1, hb2, hf⟩; have B1 := Aside0.mk hb1; have R1 := Aside0.mk hb2; have F1 := Aside0.mk hf; clear hb1 hb2 hf hc6)
    | (go_at_call 27; refine (fields_Big.calls k (tkS rest bad n) 0 n v ok _ H.out).mono ?_; rintro e w2 ⟨rfl, hb⟩; have HD := Aside0.mk hb; clear hb))
  go_ret
  exact ⟨rfl, blk_below B1.out HD.out, blk_below R1.out HD.out, F1.out.below HD.out⟩
/-- What stands while an image is read: the answer's cells, the rest, whether all is bad, and what takes. -/
structure D0 (w0 w : World) (g2 gR gB g6 : Nat) (rest : ByteArray) (bad : Bool) : Prop where
  o0 : w0.heap.size ≤ g2
  o1 : g2 < gR
  o2 : gR < gB
  o3 : gB < g6
  b2 : w.heap[g2]? = some (.cells #[.slice none 0 0, .int .i64 0, .string (⟨#[]⟩ : ByteArray), .int .u32 0, .bool false] 27 (0, 0))
  bR : w.heap[gR]? = some (.cells #[.string rest] 9 (0, 0))
  bB : w.heap[gB]? = some (.cells #[.bool bad] 4 (0, 0))
  b6 : w.heap[g6]? = some (.cells #[(.func (.func 25) #[] #[.pointer (some ⟨gB, 0, none⟩), .pointer (some ⟨gR, 0, none⟩)])] 54 (0, 0))
  hb : Below w0.heap.size w0 w
theorem D0.below {w0 w w1 : World} {g2 gR gB g6 : Nat} {rest : ByteArray} {bad : Bool} (h : D0 w0 w g2 gR gB g6 rest bad) (hb : Below w.heap.size w w1) : D0 w0 w1 g2 gR gB g6 rest bad :=
  ⟨h.o0, h.o1, h.o2, h.o3, blk_below h.b2 hb, blk_below h.bR hb, blk_below h.bB hb, blk_below h.b6 hb, below_step h.hb hb⟩
theorem D0.fr {w0 w w1 : World} {g2 gR gB g6 : Nat} {rest rest' : ByteArray} {bad bad' : Bool} (h : D0 w0 w g2 gR gB g6 rest bad) (f : Fr gB gR w w1) (hB : w1.heap[gB]? = some (.cells #[.bool bad'] 4 (0, 0))) (hR : w1.heap[gR]? = some (.cells #[.string rest'] 9 (0, 0))) : D0 w0 w1 g2 gR gB g6 rest' bad' := by
  have := h.o0; have := h.o1; have := h.o2; have := h.o3
  exact ⟨h.o0, h.o1, h.o2, h.o3, f.blk (by omega) (by omega) h.b2, hR, hB, f.blk (by omega) (by omega) h.b6, f.bel (by omega) (by omega) h.hb⟩
theorem D0.far {w0 w : World} {g2 gR gB g6 g j : Nat} {rest : ByteArray} {bad : Bool} (h : D0 w0 w g2 gR gB g6 rest bad) (hg : g6 < g) (v : Value) : D0 w0 (w.setCell ⟨g, j, none⟩ v) g2 gR gB g6 rest bad := by
  have := h.o0; have := h.o1; have := h.o2; have := h.o3
  exact ⟨h.o0, h.o1, h.o2, h.o3, blk_far h.b2 (p := ⟨g, j, none⟩) (show g2 ≠ g by omega) v, blk_far h.bR (p := ⟨g, j, none⟩) (show gR ≠ g by omega) v, blk_far h.bB (p := ⟨g, j, none⟩) (show gB ≠ g by omega) v, blk_far h.b6 (p := ⟨g, j, none⟩) (show g6 ≠ g by omega) v, below_set h.hb (by omega)⟩
/-- And the table that is read, with its rows. -/
structure D9 (w0 w : World) (g2 gR gB g6 g9 : Nat) (rest : ByteArray) (bad : Bool) (ok : Nat → Prop) (u : Value) (l : List S48) (typ : Int) (host : ByteArray) (gen : Int) (apt : Bool) : Prop where
  d : D0 w0 w g2 gR gB g6 rest bad
  o4 : g6 < g9
  b9 : w.heap[g9]? = some (.cells #[u, .int .i64 typ, .string host, .int .u32 gen, .bool apt] 27 (0, 0))
  r : Kd.R k48 48 w w0.heap.size ok u l
theorem D9.below {w0 w w1 : World} {g2 gR gB g6 g9 : Nat} {rest : ByteArray} {bad : Bool} {ok : Nat → Prop} {u : Value} {l : List S48} {typ : Int} {host : ByteArray} {gen : Int} {apt : Bool} (h : D9 w0 w g2 gR gB g6 g9 rest bad ok u l typ host gen apt) (hb : Below w.heap.size w w1) : D9 w0 w1 g2 gR gB g6 g9 rest bad ok u l typ host gen apt :=
  ⟨h.d.below hb, h.o4, blk_below h.b9 hb, Kd.R_below h.r hb⟩
theorem D9.fr {w0 w w1 : World} {g2 gR gB g6 g9 : Nat} {rest rest' : ByteArray} {bad bad' : Bool} {ok : Nat → Prop} {u : Value} {l : List S48} {typ : Int} {host : ByteArray} {gen : Int} {apt : Bool} (h : D9 w0 w g2 gR gB g6 g9 rest bad ok u l typ host gen apt) (f : Fr gB gR w w1) (hB : w1.heap[gB]? = some (.cells #[.bool bad'] 4 (0, 0))) (hR : w1.heap[gR]? = some (.cells #[.string rest'] 9 (0, 0))) : D9 w0 w1 g2 gR gB g6 g9 rest' bad' ok u l typ host gen apt := by
  have := h.d.o0; have := h.d.o1; have := h.d.o2; have := h.d.o3; have := h.o4
  exact ⟨h.d.fr f hB hR, h.o4, f.blk (by omega) (by omega) h.b9, f.row h.r h.d.bB h.d.bR (by omega)⟩
/-- A store into the table's cells. -/
theorem D9.put {w0 w : World} {g2 gR gB g6 g9 : Nat} {rest : ByteArray} {bad : Bool} {ok : Nat → Prop} {u u' : Value} {l : List S48} {typ typ' : Int} {host host' : ByteArray} {gen gen' : Int} {apt apt' : Bool} (h : D9 w0 w g2 gR gB g6 g9 rest bad ok u l typ host gen apt) (j : Nat) (v : Value) (e : (#[u, .int .i64 typ, .string host, .int .u32 gen, .bool apt] : Array Value).setIfInBounds j v = #[u', .int .i64 typ', .string host', .int .u32 gen', .bool apt']) (hu : u' = u) : D9 w0 (w.setCell ⟨g9, j, none⟩ v) g2 gR gB g6 g9 rest bad ok u' l typ' host' gen' apt' := by
  subst hu
  exact ⟨h.d.far h.o4 v, h.o4, blk_put h.b9 j v e, Kd.R_mono (Kd.R_far (p := ⟨g9, j, none⟩) (Kd.R_types h.r h.b9 (by decide)) (fun _ hk => hk.2) v) (fun _ hk => hk.1)⟩
/-- A registration's own box, and the rows are apart. -/
structure DC (w0 w : World) (g2 gR gB g6 g9 gc : Nat) (rest : ByteArray) (bad : Bool) (u : Value) (l : List S48) (typ : Int) (gen : Int) (apt : Bool) (host : ByteArray) (key : Int) : Prop where
  d : D9 w0 w g2 gR gB g6 g9 rest bad (fun k => k ≠ gc) u l typ (⟨#[]⟩ : ByteArray) gen apt
  o5 : g9 < gc
  bc : w.heap[gc]? = some (.cells #[.string host, .int .u64 key] 48 (0, 0))
theorem D9.box {w0 w w1 : World} {g2 gR gB g6 g9 gc : Nat} {rest : ByteArray} {bad : Bool} {u : Value} {l : List S48} {typ : Int} {gen : Int} {apt : Bool} (h : D9 w0 w g2 gR gB g6 g9 rest bad (fun _ => True) u l typ (⟨#[]⟩ : ByteArray) gen apt) (hg : gc = w.heap.size) (hb : Below w.heap.size w w1) (hc : w1.heap[gc]? = some (.cells #[.string (⟨#[]⟩ : ByteArray), .int .u64 0] 48 (0, 0))) : DC w0 w1 g2 gR gB g6 g9 gc rest bad u l typ gen apt (⟨#[]⟩ : ByteArray) 0 := by
  have h1 := h.below hb
  exact ⟨⟨h1.d, h1.o4, h1.b9, Kd.R_below (Kd.R_mono (Kd.R_bound h.r) (fun k hk => by rw [hg]; exact Nat.ne_of_lt hk.2.2.1)) hb⟩, by rw [hg]; exact blk_lt h.b9, hc⟩
theorem DC.fr {w0 w w1 : World} {g2 gR gB g6 g9 gc : Nat} {rest rest' : ByteArray} {bad bad' : Bool} {u : Value} {l : List S48} {typ : Int} {gen : Int} {apt : Bool} {host : ByteArray} {key : Int} (h : DC w0 w g2 gR gB g6 g9 gc rest bad u l typ gen apt host key) (f : Fr gB gR w w1) (hB : w1.heap[gB]? = some (.cells #[.bool bad'] 4 (0, 0))) (hR : w1.heap[gR]? = some (.cells #[.string rest'] 9 (0, 0))) : DC w0 w1 g2 gR gB g6 g9 gc rest' bad' u l typ gen apt host key := by
  have := h.d.d.o0; have := h.d.d.o1; have := h.d.d.o2; have := h.d.d.o3; have := h.d.o4; have := h.o5
  exact ⟨h.d.fr f hB hR, h.o5, f.blk (by omega) (by omega) h.bc⟩
theorem DC.below {w0 w w1 : World} {g2 gR gB g6 g9 gc : Nat} {rest : ByteArray} {bad : Bool} {u : Value} {l : List S48} {typ : Int} {gen : Int} {apt : Bool} {host : ByteArray} {key : Int} (h : DC w0 w g2 gR gB g6 g9 gc rest bad u l typ gen apt host key) (hb : Below w.heap.size w w1) : DC w0 w1 g2 gR gB g6 g9 gc rest bad u l typ gen apt host key :=
  ⟨h.d.below hb, h.o5, blk_below h.bc hb⟩
theorem DC.put {w0 w : World} {g2 gR gB g6 g9 gc : Nat} {rest : ByteArray} {bad : Bool} {u : Value} {l : List S48} {typ : Int} {gen : Int} {apt : Bool} {host host' : ByteArray} {key key' : Int} (h : DC w0 w g2 gR gB g6 g9 gc rest bad u l typ gen apt host key) (j : Nat) (v : Value) (e : (#[.string host, .int .u64 key] : Array Value).setIfInBounds j v = #[.string host', .int .u64 key']) : DC w0 (w.setCell ⟨gc, j, none⟩ v) g2 gR gB g6 g9 gc rest bad u l typ gen apt host' key' := by
  have := h.d.o4; have := h.o5
  exact ⟨⟨h.d.d.far (by omega) v, h.d.o4, blk_far h.d.b9 (p := ⟨gc, j, none⟩) (show g9 ≠ gc by omega) v, Kd.R_far (p := ⟨gc, j, none⟩) h.d.r (fun _ hk => hk) v⟩, h.o5, blk_put h.bc j v e⟩
def dnum (k : Nat) (rest : ByteArray) (bad : Bool) (n lim : Int) : Option (Int × ByteArray × Bool) := (fields_Big.f k (tkS rest bad n) 0 n).bind fun p => if 0 ≤ p.1 ∧ p.1 < lim then some (p.1, tkR rest bad n, tkB rest bad n) else none
def dregs (k : Nat) : Nat → ByteArray → Bool → Option (List S48 × ByteArray × Bool)
  | 0, rest, bad => some ([], rest, bad)
  | m + 1, rest, bad => (dnum k rest bad 8 18446744073709551616).bind fun p => (dnum k p.2.1 p.2.2 1 256).bind fun q => (dregs k m (tkR q.2.1 q.2.2 q.1) (tkB q.2.1 q.2.2 q.1)).bind fun t => some (⟨tkS q.2.1 q.2.2 q.1, p.1⟩ :: t.1, t.2)
def dend (k : Nat) (a0 : ByteArray) (head : ByteArray) (gen typ host apt : Int) (l : List S48) (bad : Bool) : Option (List S48 × Int × ByteArray × Int × Bool × Int) :=
  if bad = true ∨ head.toList ≠ ([72, 71, 82, 84] : List UInt8) ∨ (l.length : Int) < host then some ([], 0, (⟨#[]⟩ : ByteArray), 0, false, 61)
  else (image_Encode.f k l typ (if 0 < host then (rd_T48 l (host - 1)).f0 else (⟨#[]⟩ : ByteArray)) gen (apt == 1)).bind fun p =>
    if p.2 ≠ 0 ∨ p.1.toList ≠ a0.toList then some ([], 0, (⟨#[]⟩ : ByteArray), 0, false, 61) else some (l, typ, (if 0 < host then (rd_T48 l (host - 1)).f0 else (⟨#[]⟩ : ByteArray)), gen, apt == 1, 0)
def image_Decode.f (k : Nat) (a0 : ByteArray) : Option (List S48 × Int × ByteArray × Int × Bool × Int) :=
  (dnum k (tkR a0 false 4) (tkB a0 false 4) 4 4294967296).bind fun gen =>
  (dnum k gen.2.1 gen.2.2 1 256).bind fun typ =>
  (dnum k typ.2.1 typ.2.2 1 256).bind fun host =>
  (dnum k host.2.1 host.2.2 1 256).bind fun apt =>
  (dnum k apt.2.1 apt.2.2 1 256).bind fun cnt =>
  (dregs k cnt.1.toNat cnt.2.1 cnt.2.2).bind fun t => dend k a0 (tkS a0 false 4) gen.1 typ.1 host.1 apt.1 t.1 t.2.2
theorem dnum.mono : ∀ rest bad n lim k, LeO (dnum k rest bad n lim) (dnum (k + 1) rest bad n lim) := by
  intro rest bad n lim k
  unfold dnum
  exact LeO.bind (fields_Big.mono _ _ _ _) (fun _ => LeO.refl _)
theorem dregs.mono : ∀ m rest bad k, LeO (dregs k m rest bad) (dregs (k + 1) m rest bad)
  | 0, _, _, _ => LeO.refl _
  | m + 1, _, _, _ => LeO.bind (dnum.mono _ _ _ _ _) (fun _ => LeO.bind (dnum.mono _ _ _ _ _) (fun _ => LeO.bind (dregs.mono m _ _ _) (fun _ => LeO.refl _)))
theorem dend.mono : ∀ a0 head gen typ host apt l bad k, LeO (dend k a0 head gen typ host apt l bad) (dend (k + 1) a0 head gen typ host apt l bad) := by
  intro a0 head gen typ host apt l bad k
  unfold dend
  exact LeO.ite (LeO.refl _) (LeO.bind (image_Encode.mono _ _ _ _ _ _) (fun _ => LeO.refl _))
theorem image_Decode.mono : ∀ a0 k, LeO (image_Decode.f k a0) (image_Decode.f (k + 1) a0) := fun _ _ =>
  LeO.bind (dnum.mono _ _ _ _ _) (fun _ => LeO.bind (dnum.mono _ _ _ _ _) (fun _ => LeO.bind (dnum.mono _ _ _ _ _) (fun _ => LeO.bind (dnum.mono _ _ _ _ _) (fun _ => LeO.bind (dnum.mono _ _ _ _ _) (fun _ => LeO.bind (dregs.mono _ _ _ _) (fun _ => dend.mono _ _ _ _ _ _ _ _ _))))))
theorem dnum.some {k : Nat} {rest : ByteArray} {bad : Bool} {n lim v : Int} {r : ByteArray} {b : Bool} (h : dnum k rest bad n lim = some (v, r, b)) : (∃ ok, fields_Big.f k (tkS rest bad n) 0 n = Option.some (v, ok)) ∧ 0 ≤ v ∧ v < lim ∧ r = tkR rest bad n ∧ b = tkB rest bad n := by
  unfold dnum at h
  obtain ⟨⟨v', ok⟩, h1, h2⟩ := Option.bind_eq_some_iff.mp h
  by_cases hc : 0 ≤ v' ∧ v' < lim
  · rw [if_pos hc] at h2
    simp only [Option.some.injEq, Prod.mk.injEq] at h2
    obtain ⟨rfl, rfl, rfl⟩ := h2
    exact ⟨⟨ok, h1⟩, hc.1, hc.2, rfl, rfl⟩
  · rw [if_neg hc] at h2
    exact absurd h2 (by simp)
theorem then_world {K : Act → World → Prop} {Q : Exit → Act → World → Prop} {e : Exit} {a : Act} {w : World} (S : World → Prop) (hS : S w) (h : ∀ w', S w' → Exit.then K Q e a w') : Exit.then K Q e a w := h w hS
theorem D9.app {w0 W w1 : World} {g2 gR gB g6 g9 : Nat} {rest : ByteArray} {bad : Bool} {ok : Nat → Prop} {u : Value} {l l' : List S48} {A : Option Addr} {n c : Nat} {typ : Int} {host : ByteArray} {gen : Int} {apt : Bool} (h : D9 w0 W g2 gR gB g6 g9 rest bad ok u l typ host gen apt) (hb : Below w0.heap.size w0 w1) (hg : W.grownBy w1 u.ownBlock) (ho : Kd.R k48 48 w1 w0.heap.size ok (.slice A n c) l') : w1.heap[g9]? = some (.cells #[u, .int .i64 typ, .string host, .int .u32 gen, .bool apt] 27 (0, 0)) ∧ D9 w0 (w1.setCell ⟨g9, 0, none⟩ (.slice A n c)) g2 gR gB g6 g9 rest bad (fun _ => True) (.slice A n c) l' typ host gen apt := by
  have h9 := blk_grown h.b9 hg (Kd.R_ne h.r h.b9 (by decide))
  have d : D0 w0 w1 g2 gR gB g6 rest bad := ⟨h.d.o0, h.d.o1, h.d.o2, h.d.o3, blk_grown h.d.b2 hg (Kd.R_ne h.r h.d.b2 (by decide)), blk_grown h.d.bR hg (Kd.R_ne h.r h.d.bR (by decide)), blk_grown h.d.bB hg (Kd.R_ne h.r h.d.bB (by decide)), blk_grown h.d.b6 hg (Kd.R_ne h.r h.d.b6 (by decide)), hb⟩
  exact ⟨h9, d.far h.o4 _, h.o4, blk_put h9 0 _ rfl, Kd.R_mono (Kd.R_far (p := ⟨g9, 0, none⟩) (Kd.R_types ho h9 (by decide)) (fun _ hk => hk.2) _) (fun _ _ => trivial)⟩
theorem call_world {P : Program} {n : Nat} {args : Array Value} {w : World} {Q : Ending → World → Prop} (S : World → Prop) (hS : S w) (h : ∀ w', S w' → Calls P n args w' Q) : Calls P n args w Q := h w hS
theorem dec_step (i : Nat) (h : i ≤ 255) : wrap64 ((i : Int) + 1) = (i : Int) + 1 := by unfold wrap64; omega
theorem dec_next (i : Nat) (h : i ≤ 255) : Value.int .i64 (wrap64 ((i : Int) + 1)) = .int .i64 ((i + 1 : Nat) : Int) := by rw [dec_step i h, Int.natCast_add]; rfl
theorem dec_less (i n : Nat) (h : i ≤ 255) (hn : i < n) : n - (intOf (.int .i64 (wrap64 ((i : Int) + 1)))).toNat < n - (intOf (.int .i64 (i : Int))).toNat := by
  rw [dec_step i h]
  simp [intOf]
  omega
theorem dec_cnt {cnt : Int} (h : cnt < 256) : cnt.toNat ≤ 256 := by omega
theorem blk_put5 {w : World} {g t : Nat} {a b c d e a' b' c' d' e' : Value} (h : w.heap[g]? = some (.cells #[a, b, c, d, e] t (0, 0))) : (((((w.setCell ⟨g, 0, none⟩ a').setCell ⟨g, 1, none⟩ b').setCell ⟨g, 2, none⟩ c').setCell ⟨g, 3, none⟩ d').setCell ⟨g, 4, none⟩ e').heap[g]? = some (.cells #[a', b', c', d', e'] t (0, 0)) :=
  blk_put (blk_put (blk_put (blk_put (blk_put h 0 a' rfl) 1 b' rfl) 2 c' rfl) 3 d' rfl) 4 e' rfl
theorem D9.fin {w0 w : World} {g2 gR gB g6 g9 : Nat} {rest : ByteArray} {bad : Bool} {u : Value} {l : List S48} {typ : Int} {host : ByteArray} {gen : Int} {apt : Bool} (h : D9 w0 w g2 gR gB g6 g9 rest bad (fun _ => True) u l typ host gen apt) (a b c d e : Value) :
    (((((w.setCell ⟨g2, 0, none⟩ a).setCell ⟨g2, 1, none⟩ b).setCell ⟨g2, 2, none⟩ c).setCell ⟨g2, 3, none⟩ d).setCell ⟨g2, 4, none⟩ e).heap[g2]? = some (.cells #[a, b, c, d, e] 27 (0, 0)) ∧ Kd.R k48 48 (((((w.setCell ⟨g2, 0, none⟩ a).setCell ⟨g2, 1, none⟩ b).setCell ⟨g2, 2, none⟩ c).setCell ⟨g2, 3, none⟩ d).setCell ⟨g2, 4, none⟩ e) w0.heap.size (fun _ => True) u l ∧ Below w0.heap.size w0 (((((w.setCell ⟨g2, 0, none⟩ a).setCell ⟨g2, 1, none⟩ b).setCell ⟨g2, 2, none⟩ c).setCell ⟨g2, 3, none⟩ d).setCell ⟨g2, 4, none⟩ e) := by
  refine ⟨blk_put5 h.d.b2, ?_, below_set (below_set (below_set (below_set (below_set h.d.hb h.d.o0) h.d.o0) h.d.o0) h.d.o0) h.d.o0⟩
  have r0 := Kd.R_types h.r h.d.b2 (by decide)
  have ne : ∀ k, (True ∧ k ≠ g2) → k ≠ g2 := fun _ hk => hk.2
  exact Kd.R_mono (Kd.R_far (p := ⟨g2, 4, none⟩) (Kd.R_far (p := ⟨g2, 3, none⟩) (Kd.R_far (p := ⟨g2, 2, none⟩) (Kd.R_far (p := ⟨g2, 1, none⟩) (Kd.R_far (p := ⟨g2, 0, none⟩) r0 ne a) ne b) ne c) ne d) ne e) (fun _ _ => trivial)
set_option maxHeartbeats 8000000 in
set_option maxRecDepth 100000 in
theorem image_Decode.calls (k : Nat) (a0 : ByteArray) (r1 : List S48) (r2 : Int) (r3 : ByteArray) (r4 : Int) (r5 : Bool) (r6 : Int) (w : World) (hG : Glob w) (h : image_Decode.f k a0 = some (r1, r2, r3, r4, r5, r6)) :
    Calls Tryd.prog 14 #[.string a0] w fun e w' => ∃ v0_ : Value, e = .returned (.tuple #[.agg #[v0_, .int .i64 r2, .string r3, .int .u32 r4, .bool r5], .int .i64 r6]) ∧ Kd.R k48 48 w' w.heap.size (fun _ => True) v0_ r1 ∧ Below w.heap.size w w' := by
  have hu27 := Tryd.underlying27
  have hu24 := Tryd.underlying24
  have hu48 := Tryd.underlying48
  have hmf : ∀ (fn : Fn) (first cap : Array Value) (w : World), (Instr.makeFunc fn first cap).run Tryd.prog w = .ok (.func fn first cap) w := fun _ _ _ _ => rfl
  have hsf : ∀ (a : Addr) (fn : Fn) (first cap : Array Value) (m : Mode) (w : World), (store a (.func fn first cap) m).run Tryd.prog w = stored Tryd.prog w a (.func fn first cap) m := fun a fn first cap m w => run_store Tryd.prog w a _ m rfl
  have HG := Aside0.mk hG
  clear hG
  unfold image_Decode.f at h
  replace h := Option.bind_eq_some_iff.mp h
  obtain ⟨⟨gen, rgen, bgen⟩, hgen, h⟩ := h
  obtain ⟨⟨okgen_, nn_⟩, pgen, qgen, e1_, e2_⟩ := dnum.some hgen
  have Ngen := Aside0.mk nn_
  have Egen := Aside0.mk (And.intro e1_ e2_)
  clear hgen nn_ e1_ e2_
  try dsimp only at h
  replace h := Option.bind_eq_some_iff.mp h
  obtain ⟨⟨typ, rtyp, btyp⟩, htyp, h⟩ := h
  obtain ⟨⟨oktyp_, nn_⟩, ptyp, qtyp, e1_, e2_⟩ := dnum.some htyp
  have Ntyp := Aside0.mk nn_
  have Etyp := Aside0.mk (And.intro e1_ e2_)
  clear htyp nn_ e1_ e2_
  try dsimp only at h
  replace h := Option.bind_eq_some_iff.mp h
  obtain ⟨⟨host, rhost, bhost⟩, hhost, h⟩ := h
  obtain ⟨⟨okhost_, nn_⟩, phost, qhost, e1_, e2_⟩ := dnum.some hhost
  have Nhost := Aside0.mk nn_
  have Ehost := Aside0.mk (And.intro e1_ e2_)
  clear hhost nn_ e1_ e2_
  try dsimp only at h
  replace h := Option.bind_eq_some_iff.mp h
  obtain ⟨⟨apt, rapt, bapt⟩, hapt, h⟩ := h
  obtain ⟨⟨okapt_, nn_⟩, papt, qapt, e1_, e2_⟩ := dnum.some hapt
  have Napt := Aside0.mk nn_
  have Eapt := Aside0.mk (And.intro e1_ e2_)
  clear hapt nn_ e1_ e2_
  try dsimp only at h
  replace h := Option.bind_eq_some_iff.mp h
  obtain ⟨⟨cnt, rcnt, bcnt⟩, hcnt, h⟩ := h
  obtain ⟨⟨okcnt_, nn_⟩, pcnt, qcnt, e1_, e2_⟩ := dnum.some hcnt
  have Ncnt := Aside0.mk nn_
  have Ecnt := Aside0.mk (And.intro e1_ e2_)
  clear hcnt nn_ e1_ e2_
  try dsimp only at h
  replace h := Option.bind_eq_some_iff.mp h
  obtain ⟨⟨lF, rF, bF⟩, hrg, h⟩ := h
  try dsimp only at h
  have HRG := Aside0.mk hrg
  have HEND := Aside0.mk h
  clear hrg h
  have m1 : gen % 4294967296 = gen := Int.emod_eq_of_lt pgen qgen
  have m2 : wrap64 typ = typ := by unfold wrap64; omega
  have m3 : wrap64 host = host := by unfold wrap64; omega
  have m4 : wrap64 cnt = cnt := by unfold wrap64; omega
  have PQ := Aside0.mk (And.intro (And.intro phost qhost) (And.intro pcnt qcnt))
  clear pgen qgen ptyp qtyp phost qhost papt qapt pcnt qcnt
  go_enter Tryd.func14, Tryd.ntmps14
  go_wp2_with (first
    | ((with_reducible refine gate_dst (N := 2) rfl ?_); refine box_event ?hg (N := 2) ?hd (cs := #[.slice none 0 0, .int .i64 0, .string (⟨#[]⟩ : ByteArray), .int .u32 0, .bool false]) (t := 27) ?hr ?_; (case hd => rfl); (case hg => rfl); (case hr => first | (go_simp; done) | (go_simp; rfl)); intro g2 hg w1 hbox hb; have O2 := Aside0.mk (show w.heap.size ≤ g2 by rw [hg]; exact Nat.le_refl _); have HB := Aside0.mk hb; have BK2 := Aside0.mk hbox; clear hb hbox hg)
    | ((with_reducible refine gate_dst (N := 4) rfl ?_); refine box_event ?hg (N := 4) ?hd (cs := #[.string (⟨#[]⟩ : ByteArray)]) (t := 9) ?hr ?_; (case hd => rfl); (case hg => rfl); (case hr => first | (go_simp; done) | (go_simp; rfl)); intro gR hg w2 hbox hb; have OR := Aside0.mk (show g2 < gR by rw [hg]; exact blk_lt BK2.out); have n1_ := Aside0.mk (blk_below BK2.out hb); have n2_ := Aside0.mk (below_step HB.out hb); clear BK2 HB; have BK2 := n1_; have HB := n2_; have BKR := Aside0.mk hbox; clear n1_ n2_ hb hbox hg)
    | ((with_reducible refine gate_dst (N := 5) rfl ?_); refine box_event ?hg (N := 5) ?hd (cs := #[.bool false]) (t := 4) ?hr ?_; (case hd => rfl); (case hg => rfl); (case hr => first | (go_simp; done) | (go_simp; rfl)); intro gB hg w3 hbox hb; have OB := Aside0.mk (show gR < gB by rw [hg]; exact blk_lt BKR.out); have n1_ := Aside0.mk (blk_below BK2.out hb); have n2_ := Aside0.mk (below_step HB.out hb); have n3_ := Aside0.mk (blk_below BKR.out hb); clear BK2 HB BKR; have BK2 := n1_; have HB := n2_; have BKR := n3_; have BKB := Aside0.mk hbox; clear n1_ n2_ n3_ hb hbox hg; have neRB : gR ≠ gB := Nat.ne_of_lt OB.out; have neBR : gB ≠ gR := Ne.symm neRB; have hcgR_0 : w3.cell? ⟨gR, 0, none⟩ = some (.string (⟨#[]⟩ : ByteArray)) := (blk_cell BKR.out 0).trans rfl; have hfgR_0 := blk_frozen BKR.out 0; have hcgB_0 : w3.cell? ⟨gB, 0, none⟩ = some (.bool false) := (blk_cell BKB.out 0).trans rfl; have hfgB_0 := blk_frozen BKB.out 0)
    | ((with_reducible refine gate_dst (N := 16) rfl ?_); refine good_world (fun w' => w'.heap[g2]? = some (.cells #[.slice none 0 0, .int .i64 0, .string (⟨#[]⟩ : ByteArray), .int .u32 0, .bool false] 27 (0, 0)) ∧ w'.heap[gR]? = some (.cells #[.string a0] 9 (0, 0)) ∧ w'.heap[gB]? = some (.cells #[.bool false] 4 (0, 0)) ∧ Below w.heap.size w w') ⟨blk_far (blk_far BK2.out (p := ⟨gR, 0, none⟩) (show g2 ≠ gR from Nat.ne_of_lt OR.out) _) (p := ⟨gB, 0, none⟩) (show g2 ≠ gB from Nat.ne_of_lt (Nat.lt_trans OR.out OB.out)) _, blk_far (blk_put BKR.out 0 _ rfl) (p := ⟨gB, 0, none⟩) neRB _, blk_put (blk_far BKB.out (p := ⟨gR, 0, none⟩) neBR _) 0 _ rfl, below_set (below_set HB.out (Nat.le_of_lt (Nat.lt_of_le_of_lt O2.out OR.out))) (Nat.le_of_lt (Nat.lt_trans (Nat.lt_of_le_of_lt O2.out OR.out) OB.out))⟩ ?_; rintro w4 ⟨h2_, hR_, hB_, hb_⟩; clear BK2 BKR BKB HB hcgR_0 hfgR_0 hcgB_0 hfgB_0; have C2 := Aside0.mk h2_; have CR := Aside0.mk hR_; have CB := Aside0.mk hB_; have HB := Aside0.mk hb_; clear h2_ hR_ hB_ hb_)
    | ((with_reducible refine gate_dst (N := 6) rfl ?_); refine box_event ?hg (N := 6) ?hd (cs := #[.nilFunc]) (t := 54) ?hr ?_; (case hd => rfl); (case hg => rfl); (case hr => first | (go_simp; done) | (go_simp; rfl)); intro g6 hg w5 hbox hb; have O6 := Aside0.mk (show gB < g6 by rw [hg]; exact blk_lt CB.out); have n1_ := Aside0.mk (blk_below C2.out hb); have n2_ := Aside0.mk (blk_below CR.out hb); have n3_ := Aside0.mk (blk_below CB.out hb); have n4_ := Aside0.mk (below_step HB.out hb); clear C2 CR CB HB; have C2 := n1_; have CR := n2_; have CB := n3_; have HB := n4_; have C6 := Aside0.mk hbox; clear n1_ n2_ n3_ n4_ hb hbox hg; have hcg6_0 : w5.cell? ⟨g6, 0, none⟩ = some (.nilFunc) := (blk_cell C6.out 0).trans rfl; have hfg6_0 := blk_frozen C6.out 0)
    | ((with_reducible refine gate_dst (N := 17) rfl ?_); refine good_world (fun w' => D0 w w' g2 gR gB g6 a0 false) ⟨O2.out, OR.out, OB.out, O6.out, blk_far C2.out (p := ⟨g6, 0, none⟩) (show g2 ≠ g6 from Nat.ne_of_lt (Nat.lt_trans (Nat.lt_trans OR.out OB.out) O6.out)) _, blk_far CR.out (p := ⟨g6, 0, none⟩) (show gR ≠ g6 from Nat.ne_of_lt (Nat.lt_trans OB.out O6.out)) _, blk_far CB.out (p := ⟨g6, 0, none⟩) (show gB ≠ g6 from Nat.ne_of_lt O6.out) _, blk_put C6.out 0 _ rfl, below_set HB.out (Nat.le_of_lt (Nat.lt_trans (Nat.lt_trans (Nat.lt_of_le_of_lt O2.out OR.out) OB.out) O6.out))⟩ ?_; intro w6 hd_; clear C2 CR CB C6 HB O2 OR OB O6 hcg6_0 hfg6_0; have A0 := Aside0.mk hd_; clear hd_; have hc6 : w6.cell? ⟨g6, 0, none⟩ = some (.func (.func 25) #[] #[.pointer (some ⟨gB, 0, none⟩), .pointer (some ⟨gR, 0, none⟩)]) := (blk_cell A0.out.b6 0).trans rfl)
    | (go_at_call 25; refine (take_calls gB gR a0 false 4 _ A0.out.bB A0.out.bR neBR (by decide) (by decide)).mono ?_; rintro e w7 ⟨rfl, hb1, hb2, hf⟩; have A1 := Aside0.mk (A0.out.fr hf hb1 hb2); clear A0 hb1 hb2 hf hc6)
    | (go_at_call 26; refine (number_calls k gB gR g6 (tkR a0 false 4) (tkB a0 false 4) 4 gen okgen_ _ A1.out.bB A1.out.bR A1.out.b6 neBR (by decide) (by decide) Ngen.out).mono ?_; rintro e w8 ⟨rfl, hb1, hb2, hf⟩; rw [← Egen.out.1] at hb2; rw [← Egen.out.2] at hb1; have A2 := Aside0.mk (A1.out.fr hf hb1 hb2); clear A1 hb1 hb2 hf; skip)
    | ((with_reducible refine gate_dst (N := 9) rfl ?_); refine box_event ?hg (N := 9) ?hd (cs := #[.slice none 0 0, .int .i64 0, .string (⟨#[]⟩ : ByteArray), .int .u32 0, .bool false]) (t := 27) ?hr ?_; (case hd => rfl); (case hg => rfl); (case hr => first | (go_simp; done) | (go_simp; rfl)); intro g9 hg w9 hbox hb; have O9 := Aside0.mk (show g6 < g9 by rw [hg]; exact blk_lt A2.out.b6); have n1_ := Aside0.mk (A2.out.below hb); clear A2; have A3 := n1_; have BK9 := Aside0.mk hbox; clear n1_ hb hbox hg; have hcg9_0 : w9.cell? ⟨g9, 0, none⟩ = some (.slice none 0 0) := (blk_cell BK9.out 0).trans rfl; have hcg9_1 : w9.cell? ⟨g9, 1, none⟩ = some (.int .i64 0) := (blk_cell BK9.out 1).trans rfl; have hcg9_2 : w9.cell? ⟨g9, 2, none⟩ = some (.string (⟨#[]⟩ : ByteArray)) := (blk_cell BK9.out 2).trans rfl; have hcg9_3 : w9.cell? ⟨g9, 3, none⟩ = some (.int .u32 0) := (blk_cell BK9.out 3).trans rfl; have hcg9_4 : w9.cell? ⟨g9, 4, none⟩ = some (.bool false) := (blk_cell BK9.out 4).trans rfl; have hfg9_0 := blk_frozen BK9.out 0; have hfg9_1 := blk_frozen BK9.out 1; have hfg9_2 := blk_frozen BK9.out 2; have hfg9_3 := blk_frozen BK9.out 3; have hfg9_4 := blk_frozen BK9.out 4)
    | (go_at_call 26; refine call_world (fun w' => D9 w w' g2 gR gB g6 g9 rgen bgen (fun _ => True) (.slice none 0 0) [] 0 (⟨#[]⟩ : ByteArray) gen false) ⟨((((A3.out.far O9.out _).far O9.out _).far O9.out _).far O9.out _).far O9.out _, O9.out, blk_put5 BK9.out, Kd.R_nil _ _ _ _ _⟩ ?_; intro w10 hd_; clear A3 BK9 O9 hcg9_0 hcg9_1 hcg9_2 hcg9_3 hcg9_4 hfg9_0 hfg9_1 hfg9_2 hfg9_3 hfg9_4; have B0 := Aside0.mk hd_; clear hd_; refine (number_calls k gB gR g6 rgen bgen 1 typ oktyp_ _ B0.out.d.bB B0.out.d.bR B0.out.d.b6 neBR (by decide) (by decide) Ntyp.out).mono ?_; rintro e w11 ⟨rfl, hb1, hb2, hf⟩; rw [← Etyp.out.1] at hb2; rw [← Etyp.out.2] at hb1; have B1 := Aside0.mk (B0.out.fr hf hb1 hb2); clear B0 hb1 hb2 hf; have hcg9_0 : w11.cell? ⟨g9, 0, none⟩ = some (.slice none 0 0) := (blk_cell B1.out.b9 0).trans rfl; have hcg9_1 : w11.cell? ⟨g9, 1, none⟩ = some (.int .i64 0) := (blk_cell B1.out.b9 1).trans rfl; have hcg9_2 : w11.cell? ⟨g9, 2, none⟩ = some (.string (⟨#[]⟩ : ByteArray)) := (blk_cell B1.out.b9 2).trans rfl; have hcg9_3 : w11.cell? ⟨g9, 3, none⟩ = some (.int .u32 gen) := (blk_cell B1.out.b9 3).trans rfl; have hcg9_4 : w11.cell? ⟨g9, 4, none⟩ = some (.bool false) := (blk_cell B1.out.b9 4).trans rfl; have hfg9_0 := blk_frozen B1.out.b9 0; have hfg9_1 := blk_frozen B1.out.b9 1; have hfg9_2 := blk_frozen B1.out.b9 2; have hfg9_3 := blk_frozen B1.out.b9 3; have hfg9_4 := blk_frozen B1.out.b9 4)
    | (go_at_call 26; refine call_world (fun w' => D9 w w' g2 gR gB g6 g9 rtyp btyp (fun _ => True) (.slice none 0 0) [] typ (⟨#[]⟩ : ByteArray) gen false) (B1.out.put 1 _ rfl rfl) ?_; intro w12 hd_; clear B1 hcg9_0 hcg9_1 hcg9_2 hcg9_3 hcg9_4 hfg9_0 hfg9_1 hfg9_2 hfg9_3 hfg9_4; have B2 := Aside0.mk hd_; clear hd_; refine (number_calls k gB gR g6 rtyp btyp 1 host okhost_ _ B2.out.d.bB B2.out.d.bR B2.out.d.b6 neBR (by decide) (by decide) Nhost.out).mono ?_; rintro e w13 ⟨rfl, hb1, hb2, hf⟩; rw [← Ehost.out.1] at hb2; rw [← Ehost.out.2] at hb1; have B3 := Aside0.mk (B2.out.fr hf hb1 hb2); clear B2 hb1 hb2 hf; skip)
    | (go_at_call 26; refine (number_calls k gB gR g6 rhost bhost 1 apt okapt_ _ B3.out.d.bB B3.out.d.bR B3.out.d.b6 neBR (by decide) (by decide) Napt.out).mono ?_; rintro e w14 ⟨rfl, hb1, hb2, hf⟩; rw [← Eapt.out.1] at hb2; rw [← Eapt.out.2] at hb1; have B4 := Aside0.mk (B3.out.fr hf hb1 hb2); clear B3 hb1 hb2 hf; have hcg9_0 : w14.cell? ⟨g9, 0, none⟩ = some (.slice none 0 0) := (blk_cell B4.out.b9 0).trans rfl; have hcg9_1 : w14.cell? ⟨g9, 1, none⟩ = some (.int .i64 typ) := (blk_cell B4.out.b9 1).trans rfl; have hcg9_2 : w14.cell? ⟨g9, 2, none⟩ = some (.string (⟨#[]⟩ : ByteArray)) := (blk_cell B4.out.b9 2).trans rfl; have hcg9_3 : w14.cell? ⟨g9, 3, none⟩ = some (.int .u32 gen) := (blk_cell B4.out.b9 3).trans rfl; have hcg9_4 : w14.cell? ⟨g9, 4, none⟩ = some (.bool false) := (blk_cell B4.out.b9 4).trans rfl; have hfg9_0 := blk_frozen B4.out.b9 0; have hfg9_1 := blk_frozen B4.out.b9 1; have hfg9_2 := blk_frozen B4.out.b9 2; have hfg9_3 := blk_frozen B4.out.b9 3; have hfg9_4 := blk_frozen B4.out.b9 4)
    | (go_at_call 26; refine call_world (fun w' => D9 w w' g2 gR gB g6 g9 rapt bapt (fun _ => True) (.slice none 0 0) [] typ (⟨#[]⟩ : ByteArray) gen (apt == 1)) (B4.out.put 4 _ rfl rfl) ?_; intro w15 hd_; clear B4 hcg9_0 hcg9_1 hcg9_2 hcg9_3 hcg9_4 hfg9_0 hfg9_1 hfg9_2 hfg9_3 hfg9_4; have B5 := Aside0.mk hd_; clear hd_; refine (number_calls k gB gR g6 rapt bapt 1 cnt okcnt_ _ B5.out.d.bB B5.out.d.bR B5.out.d.b6 neBR (by decide) (by decide) Ncnt.out).mono ?_; rintro e w16 ⟨rfl, hb1, hb2, hf⟩; rw [← Ecnt.out.1] at hb2; rw [← Ecnt.out.2] at hb1; have B6 := Aside0.mk (B5.out.fr hf hb1 hb2); clear B5 hb1 hb2 hf; skip))
  try rw [m4]
  go_loopw [40] (fun iv wr => ∃ (i : Nat) (rest : ByteArray) (bad : Bool) (u : Value) (l lr : List S48), i ≤ cnt.toNat ∧ iv = .int .i64 i ∧ Aside0 (D9 w wr g2 gR gB g6 g9 rest bad (fun _ => True) u l typ (⟨#[]⟩ : ByteArray) gen (apt == 1)) ∧ Aside0 (dregs k (cnt.toNat - i) rest bad = some (lr, rF, bF) ∧ l ++ lr = lF ∧ l.length = i)) (fun iv _ => cnt.toNat - (intOf iv).toNat)
  case atStart => exact ⟨0, rcnt, bcnt, _, [], lF, Nat.zero_le _, rfl, B6, ⟨HRG.out, rfl, rfl⟩⟩
  case round =>
    clear B6
    obtain ⟨i, rest, bad, u, l, lr, hi, rfl, C0, HD⟩ := hrel
    obtain ⟨Au, cu, eu⟩ := Kd.R_slice C0.out.r
    subst eu
    by_cases hlt : i < cnt.toNat
    · have q0 : (i : Int) < cnt := by omega
      have d3 : decide ((i : Int) < cnt) = true := decide_eq_true q0
      have HLT := Aside0.mk hlt
      obtain ⟨hd, hl1, hl2⟩ := HD.out
      have LL := Aside0.mk (show l.length < 256 by have := PQ.out; omega)
      rw [show cnt.toNat - i = (cnt.toNat - (i + 1)) + 1 by omega] at hd
      unfold dregs at hd
      obtain ⟨⟨key, rkey, bkey⟩, hkey, hd⟩ := Option.bind_eq_some_iff.mp hd
      try dsimp only at hd
      obtain ⟨⟨hn, rhn, bhn⟩, hhn, hd⟩ := Option.bind_eq_some_iff.mp hd
      try dsimp only at hd
      obtain ⟨⟨lt, rt, bt_⟩, hlt_, hd⟩ := Option.bind_eq_some_iff.mp hd
      try dsimp only at hd
      obtain ⟨⟨okkey_, n1_⟩, _, _, e1_, e2_⟩ := dnum.some hkey
      obtain ⟨⟨okhn_, n2_⟩, p2_, q2_, e3_, e4_⟩ := dnum.some hhn
      have Nkey := Aside0.mk n1_
      have Ekey := Aside0.mk (And.intro e1_ e2_)
      have Nhn := Aside0.mk n2_
      have Ehn := Aside0.mk (And.intro e3_ e4_)
      have HN01 := Aside0.mk (show 0 ≤ hn ∧ hn ≤ 255 by omega)
      have m5 : wrap64 hn = hn := by unfold wrap64; omega
      have m6 : IntKind.i64.wrap hn = hn := by rw [i64_w]; exact m5
      have HT := Aside0.mk hlt_
      have HL := Aside0.mk (And.intro (And.intro hl1 hl2) hd)
      clear hd hl1 hl2 hkey hhn hlt_ n1_ n2_ e1_ e2_ e3_ e4_ p2_ q2_ HD hlt hi
      go_wp2_with (first
        | (go_at_call 26; refine (number_calls k gB gR g6 rest bad 8 key okkey_ _ C0.out.d.bB C0.out.d.bR C0.out.d.b6 neBR (by decide) (by decide) Nkey.out).mono ?_; rintro e x1 ⟨rfl, hb1, hb2, hf⟩; rw [← Ekey.out.1] at hb2; rw [← Ekey.out.2] at hb1; have C1 := Aside0.mk (C0.out.fr hf hb1 hb2); clear C0 hb1 hb2 hf; skip)
        | ((with_reducible refine gate_dst (N := 12) rfl ?_); refine box_event ?hg (N := 12) ?hd (cs := #[.string (⟨#[]⟩ : ByteArray), .int .u64 0]) (t := 48) ?hr ?_; (case hd => rfl); (case hg => rfl); (case hr => first | (go_simp; done) | (go_simp; rfl)); intro gc hg x2 hbox hb; have C2 := Aside0.mk (C1.out.box hg hb hbox); clear C1 hb hbox hg; have hcgc_0 : x2.cell? ⟨gc, 0, none⟩ = some (.string (⟨#[]⟩ : ByteArray)) := (blk_cell C2.out.bc 0).trans rfl; have hcgc_1 : x2.cell? ⟨gc, 1, none⟩ = some (.int .u64 0) := (blk_cell C2.out.bc 1).trans rfl; have hfgc_0 := blk_frozen C2.out.bc 0; have hfgc_1 := blk_frozen C2.out.bc 1))
      refine Hand.at_world (fun w' => DC w w' g2 gR gB g6 g9 gc rkey bkey (.slice Au l.length cu) l typ gen (apt == 1) (⟨#[]⟩ : ByteArray) key) ((C2.out.put 0 _ rfl).put 1 _ rfl) ?_
      intro x3 hd_
      clear C2 hcgc_0 hcgc_1 hfgc_0 hfgc_1
      have C3 := Aside0.mk hd_
      clear hd_
      have hc6 : x3.cell? ⟨g6, 0, none⟩ = some (.func (.func 25) #[] #[.pointer (some ⟨gB, 0, none⟩), .pointer (some ⟨gR, 0, none⟩)]) := (blk_cell C3.out.d.d.b6 0).trans rfl
      go_region_with (first
        | (go_at_call 26; have X_ := C3.out.below (below_drew (Below.refl _ _)); refine (number_calls k gB gR g6 rkey bkey 1 hn okhn_ _ X_.d.d.bB X_.d.d.bR X_.d.d.b6 neBR (by decide) (by decide) Nhn.out).mono ?_; rintro e x4 ⟨rfl, hb1, hb2, hf⟩; rw [← Ehn.out.1] at hb2; rw [← Ehn.out.2] at hb1; have C4 := Aside0.mk (X_.fr hf hb1 hb2); clear X_ hb1 hb2 hf; have hc6 : x4.cell? ⟨g6, 0, none⟩ = some (.func (.func 25) #[] #[.pointer (some ⟨gB, 0, none⟩), .pointer (some ⟨gR, 0, none⟩)]) := (blk_cell C4.out.d.d.b6 0).trans rfl)
        | (go_at_call 25; (try rw [m6]); refine (take_calls gB gR rhn bhn hn _ C4.out.d.d.bB C4.out.d.d.bR neBR HN01.out.1 HN01.out.2).mono ?_; rintro e x5 ⟨rfl, hb1, hb2, hf⟩; have C5 := Aside0.mk (C4.out.fr hf hb1 hb2); clear hb1 hb2 hf; have hcgc_0 : x5.cell? ⟨gc, 0, none⟩ = some (.string (⟨#[]⟩ : ByteArray)) := (blk_cell C5.out.bc 0).trans rfl; have hcgc_1 : x5.cell? ⟨gc, 1, none⟩ = some (.int .u64 key) := (blk_cell C5.out.bc 1).trans rfl; have hfgc_0 := blk_frozen C5.out.bc 0; have hfgc_1 := blk_frozen C5.out.bc 1))
      all_goals
        refine then_world (fun w' => DC w w' g2 gR gB g6 g9 gc (tkR rhn bhn hn) (tkB rhn bhn hn) (.slice Au l.length cu) l typ gen (apt == 1) (tkS rhn bhn hn) key) (C5.out.put 0 _ rfl) ?_
        intro x6 hd_
        clear C3 C4 C5 hcgc_0 hcgc_1 hfgc_0 hfgc_1 hc6
        have C6 := Aside0.mk hd_
        clear hd_
        have hcg9_0 : x6.cell? ⟨g9, 0, none⟩ = some (.slice Au l.length cu) := (blk_cell C6.out.d.b9 0).trans rfl
        have hcgc_0 : x6.cell? ⟨gc, 0, none⟩ = some (.string (tkS rhn bhn hn)) := (blk_cell C6.out.bc 0).trans rfl
        have hcgc_1 : x6.cell? ⟨gc, 1, none⟩ = some (.int .u64 key) := (blk_cell C6.out.bc 1).trans rfl
        go_wp2_with (first
          | ((with_reducible refine gate_builtin (b := .append) (xs := #[.tmp 52, .tmp 54]) rfl ?_); at_builtin; refine Kd.R_append k48 (w0 := w) w.heap.size rfl (.tmp 52) (.tmp 54) 22 48 (.agg #[(.string ⟨#[]⟩), (.int .u64 0)]) 24 rfl Tryd.underlying22 info48 rfl (by decide) (by omega) (.slice Au l.length cu) l (⟨tkS rhn bhn hn, key⟩ : S48) [.string (tkS rhn bhn hn), .int .u64 key] (fun k => k ≠ gc) (fun _ => False) rfl rfl ?aP (fun _ hk => hk.elim) ?aF ?aO ?aB ?aS ?aL ?_; (case aP => exact k48_mkM _ _ _ (⟨tkS rhn bhn hn, key⟩ : S48)); (case aB => exact C6.out.d.d.hb); (case aF => exact (fun z_ hz_ => Nat.ne_of_gt (Nat.lt_of_lt_of_le (blk_lt C6.out.bc) hz_))); (case aO => exact C6.out.d.r); (case aS => exact below_size C6.out.d.d.hb); (case aL => have := LL.out; omega); intro v1 y1 ho hb hg hat; obtain ⟨A1, c1, e1⟩ := Kd.R_slice ho; subst e1; obtain ⟨h9_, hD_⟩ := C6.out.d.app hb hg ho; have C7 := Aside0.mk hD_; clear ho hb hg hat hD_ C6 hcg9_0 hcgc_0 hcgc_1; have hcg9_0 : y1.cell? ⟨g9, 0, none⟩ = some (.slice Au l.length cu) := (blk_cell h9_ 0).trans rfl; have hfg9_0 := blk_frozen h9_ 0; clear h9_))
        go_roundw
        case rel =>
          have H1_ := HLT.out
          have H2_ := Nat.le_of_lt_succ (Nat.lt_of_lt_of_le HLT.out (dec_cnt PQ.out.2.2))
          obtain ⟨⟨hl1, hll⟩, hd⟩ := HL.out
          have hd := Option.some.inj hd
          simp only [Prod.mk.injEq] at hd
          have hC7 := C7.out
          rw [show (l ++ [(⟨tkS rhn bhn hn, key⟩ : S48)]).length = l.length + 1 by rw [List.length_append]; rfl] at hC7
          refine ⟨i + 1, tkR rhn bhn hn, tkB rhn bhn hn, .slice A1 (l.length + 1) c1, l ++ [(⟨tkS rhn bhn hn, key⟩ : S48)], lt, H1_, dec_next i H2_, ⟨hC7⟩, ⟨?_, ?_, ?_⟩⟩
          · rw [HT.out, hd.2.1, hd.2.2]
          · rw [← hl1, ← hd.1, List.append_assoc]; rfl
          · rw [List.length_append, hll]; rfl
        case measure =>
          exact dec_less i cnt.toNat (Nat.le_of_lt_succ (Nat.lt_of_lt_of_le HLT.out (dec_cnt PQ.out.2.2))) HLT.out
    · have hic : i = cnt.toNat := Nat.le_antisymm hi (Nat.le_of_not_lt hlt)
      subst hic
      have d3 : decide (((cnt.toNat : Nat) : Int) < cnt) = false := decide_eq_false (by omega)
      obtain ⟨hd, hl1, hl2⟩ := HD.out
      rw [Nat.sub_self] at hd
      unfold dregs at hd
      have hd := Option.some.inj hd
      simp only [Prod.mk.injEq] at hd
      obtain ⟨hd1, hd2, hd3⟩ := hd
      subst hd1
      subst hd2
      subst hd3
      rw [List.append_nil] at hl1
      subst hl1
      have hend := HEND.out
      clear HEND HRG HD hl2 hlt hi
      unfold dend at hend
      have hcgB_0 : wr.cell? ⟨gB, 0, none⟩ = some (.bool bad) := (blk_cell C0.out.d.bB 0).trans rfl
      have hcg9_0 : wr.cell? ⟨g9, 0, none⟩ = some (.slice Au l.length cu) := (blk_cell C0.out.b9 0).trans rfl
      have hcg9_1 : wr.cell? ⟨g9, 1, none⟩ = some (.int .i64 typ) := (blk_cell C0.out.b9 1).trans rfl
      have hcg9_2 : wr.cell? ⟨g9, 2, none⟩ = some (.string (⟨#[]⟩ : ByteArray)) := (blk_cell C0.out.b9 2).trans rfl
      have hcg9_3 : wr.cell? ⟨g9, 3, none⟩ = some (.int .u32 gen) := (blk_cell C0.out.b9 3).trans rfl
      have hcg9_4 : wr.cell? ⟨g9, 4, none⟩ = some (.bool (apt == 1)) := (blk_cell C0.out.b9 4).trans rfl
      have hfg9_0 := blk_frozen C0.out.b9 0
      have hfg9_1 := blk_frozen C0.out.b9 1
      have hfg9_2 := blk_frozen C0.out.b9 2
      have hfg9_3 := blk_frozen C0.out.b9 3
      have hfg9_4 := blk_frozen C0.out.b9 4
      have hcg2_0 : wr.cell? ⟨g2, 0, none⟩ = some (.slice none 0 0) := (blk_cell C0.out.d.b2 0).trans rfl
      have hcg2_1 : wr.cell? ⟨g2, 1, none⟩ = some (.int .i64 0) := (blk_cell C0.out.d.b2 1).trans rfl
      have hcg2_2 : wr.cell? ⟨g2, 2, none⟩ = some (.string (⟨#[]⟩ : ByteArray)) := (blk_cell C0.out.d.b2 2).trans rfl
      have hcg2_3 : wr.cell? ⟨g2, 3, none⟩ = some (.int .u32 0) := (blk_cell C0.out.d.b2 3).trans rfl
      have hcg2_4 : wr.cell? ⟨g2, 4, none⟩ = some (.bool false) := (blk_cell C0.out.d.b2 4).trans rfl
      have hfg2_0 := blk_frozen C0.out.d.b2 0
      have hfg2_1 := blk_frozen C0.out.d.b2 1
      have hfg2_2 := blk_frozen C0.out.d.b2 2
      have hfg2_3 := blk_frozen C0.out.d.b2 3
      have hfg2_4 := blk_frozen C0.out.d.b2 4
      by_cases hA : bad = true ∨ (tkS a0 false 4).toList ≠ ([72, 71, 82, 84] : List UInt8) ∨ (l.length : Int) < host
      · rw [if_pos hA] at hend
        simp only [Option.some.injEq, Prod.mk.injEq] at hend
        obtain ⟨e1_, e2_, e3_, e4_, e5_, e6_⟩ := hend
        subst e1_
        subst e2_
        subst e3_
        subst e4_
        subst e5_
        subst e6_
        have hB : bad = true ∨ (bad = false ∧ ((tkS a0 false 4).toList = ([72, 71, 82, 84] : List UInt8)) = False) ∨ (bad = false ∧ (tkS a0 false 4).toList = ([72, 71, 82, 84] : List UInt8) ∧ (l.length : Int) < host) := by
          cases bad
          · by_cases hh : (tkS a0 false 4).toList = ([72, 71, 82, 84] : List UInt8)
            · refine Or.inr (Or.inr ⟨rfl, hh, ?_⟩)
              rcases hA with h1 | h1 | h1
              · exact absurd h1 (by decide)
              · exact absurd hh h1
              · exact h1
            · exact Or.inr (Or.inl ⟨rfl, eq_false hh⟩)
          · exact Or.inl rfl
        clear hA
        rcases hB with rfl | ⟨rfl, d5⟩ | ⟨rfl, d5, d6⟩
        case' inr.inl =>
          have d5b : ((tkS a0 false 4).toList == ([72, 71, 82, 84] : List UInt8)) = false := beq_eq_false_iff_ne.mpr (of_eq_false d5)
        case' inr.inr =>
          have d5b : ((tkS a0 false 4).toList == ([72, 71, 82, 84] : List UInt8)) = true := beq_iff_eq.mpr d5
          have d6b : decide ((l.length : Int) < host) = true := decide_eq_true d6
        all_goals
          go_wp2
          have hfin_ := C0.out.fin (.slice none 0 0) (.int .i64 0) (.string (⟨#[]⟩ : ByteArray)) (.int .u32 0) (.bool false)
          refine bodyPost_ret (results_ct rfl _ _ g2 27 #[.slice none 0 0, .int .i64 0, .string (⟨#[]⟩ : ByteArray), .int .u32 0, .bool false] (0, 0) _ rfl hfin_.1 Tryd.underlying27 rfl (by kernel_rfl)) rfl ?_
          exact ⟨_, rfl, Kd.R_nil _ _ _ _ _, hfin_.2.2⟩
      · rw [if_neg hA] at hend
        have hb0 : bad = false := by
          cases bad
          · rfl
          · exact absurd (Or.inl rfl) hA
        subst hb0
        have d5 : (tkS a0 false 4).toList = ([72, 71, 82, 84] : List UInt8) := Classical.byContradiction fun z => hA (Or.inr (Or.inl z))
        have d5b : ((tkS a0 false 4).toList == ([72, 71, 82, 84] : List UInt8)) = true := beq_iff_eq.mpr d5
        have d6 : ((l.length : Int) < host) = False := eq_false fun z => hA (Or.inr (Or.inr z))
        have d6b : decide ((l.length : Int) < host) = false := decide_eq_false (of_eq_false d6)
        have d6c : host ≤ (l.length : Int) := Int.not_lt.mp (of_eq_false d6)
        clear hA
        by_cases d7 : 0 < host
        · rw [if_pos d7] at hend
          have d7b : decide (0 < host) = true := decide_eq_true d7
          obtain ⟨jn, hj⟩ : ∃ jn : Nat, host = (jn : Int) + 1 := ⟨(host - 1).toNat, by omega⟩
          have q0 : (jn : Int) < (l.length : Int) := by omega
          have p0 : (0 : Int) ≤ (jn : Int) := Int.natCast_nonneg jn
          have m7 : wrap64 (host - 1) = (jn : Int) := by have := PQ.out.1; unfold wrap64; omega
          have m8 : IntKind.i64.wrap (host - 1) = (jn : Int) := by rw [i64_w]; exact m7
          obtain ⟨ad, ea, hx0, hx1⟩ := at_T48 (Kd.R_reads' C0.out.r).2.2 (jn : Int) p0 q0
          cases ea
          rw [show host - 1 = (jn : Int) by omega] at hend
          obtain ⟨hh, hhh⟩ : ∃ hh, hh = (rd_T48 l (jn : Int)).f0 := ⟨_, rfl⟩
          rw [← hhh] at hend hx0
          simp only [Int.toNat_natCast] at hx0 hx1
          clear hhh hj hx1
          replace hend := Option.bind_eq_some_iff.mp hend
          obtain ⟨⟨again, err⟩, henc, hend⟩ := hend
          have HENC := Aside0.mk henc
          clear henc
          try dsimp only at hend
          by_cases hE : err ≠ 0 ∨ again.toList ≠ a0.toList
          · rw [if_pos hE] at hend
            simp only [Option.some.injEq, Prod.mk.injEq] at hend
            obtain ⟨e1_, e2_, e3_, e4_, e5_, e6_⟩ := hend
            subst e1_
            subst e2_
            subst e3_
            subst e4_
            subst e5_
            subst e6_
            have hF : (err == 0) = false ∨ ((err == 0) = true ∧ (again.toList = a0.toList) = False) := by
              by_cases h0 : err = 0
              · refine Or.inr ⟨beq_iff_eq.mpr h0, eq_false ?_⟩
                rcases hE with h1 | h1
                · exact absurd h0 h1
                · exact h1
              · exact Or.inl (beq_eq_false_iff_ne.mpr h0)
            clear hE
            rcases hF with z1 | ⟨z1, z2⟩
            · have z1b : (err != 0) = true := by simp [bne, z1]
              go_wp2_with (first
                | (go_at_call 11; refine call_world (fun w' => D9 w w' g2 gR gB g6 g9 rest false (fun _ => True) (.slice (some ad) l.length cu) l typ hh gen (apt == 1)) (C0.out.put 2 _ rfl rfl) ?_; intro y1 hd_; clear C0 hcg9_0 hcg9_1 hcg9_2 hcg9_3 hcg9_4 hfg9_0 hfg9_1 hfg9_2 hfg9_3 hfg9_4 hcg2_0 hcg2_1 hcg2_2 hcg2_3 hcg2_4 hfg2_0 hfg2_1 hfg2_2 hfg2_3 hfg2_4; have Z0 := Aside0.mk hd_; clear hd_; refine (image_Encode.calls k (some ad) cu l typ hh gen (apt == 1) again err _ ?side1 ?side2 ?side3 HENC.out).mono ?_; (case side1 => exact (Kd.R_reads' Z0.out.r).2.2); (case side2 => exact (Kd.R_reads' Z0.out.r).2.1); (case side3 => exact HG.out.keep Z0.out.d.hb); rintro e y2 ⟨rfl, hb⟩; have Z1 := Aside0.mk (Z0.out.below hb); clear Z0 hb; have hcg9_0 : y2.cell? ⟨g9, 0, none⟩ = some (.slice (some ad) l.length cu) := (blk_cell Z1.out.b9 0).trans rfl; have hcg9_1 : y2.cell? ⟨g9, 1, none⟩ = some (.int .i64 typ) := (blk_cell Z1.out.b9 1).trans rfl; have hcg9_2 : y2.cell? ⟨g9, 2, none⟩ = some (.string hh) := (blk_cell Z1.out.b9 2).trans rfl; have hcg9_3 : y2.cell? ⟨g9, 3, none⟩ = some (.int .u32 gen) := (blk_cell Z1.out.b9 3).trans rfl; have hcg9_4 : y2.cell? ⟨g9, 4, none⟩ = some (.bool (apt == 1)) := (blk_cell Z1.out.b9 4).trans rfl; have hfg9_0 := blk_frozen Z1.out.b9 0; have hfg9_1 := blk_frozen Z1.out.b9 1; have hfg9_2 := blk_frozen Z1.out.b9 2; have hfg9_3 := blk_frozen Z1.out.b9 3; have hfg9_4 := blk_frozen Z1.out.b9 4; have hcg2_0 : y2.cell? ⟨g2, 0, none⟩ = some (.slice none 0 0) := (blk_cell Z1.out.d.b2 0).trans rfl; have hcg2_1 : y2.cell? ⟨g2, 1, none⟩ = some (.int .i64 0) := (blk_cell Z1.out.d.b2 1).trans rfl; have hcg2_2 : y2.cell? ⟨g2, 2, none⟩ = some (.string (⟨#[]⟩ : ByteArray)) := (blk_cell Z1.out.d.b2 2).trans rfl; have hcg2_3 : y2.cell? ⟨g2, 3, none⟩ = some (.int .u32 0) := (blk_cell Z1.out.d.b2 3).trans rfl; have hcg2_4 : y2.cell? ⟨g2, 4, none⟩ = some (.bool false) := (blk_cell Z1.out.d.b2 4).trans rfl; have hfg2_0 := blk_frozen Z1.out.d.b2 0; have hfg2_1 := blk_frozen Z1.out.d.b2 1; have hfg2_2 := blk_frozen Z1.out.d.b2 2; have hfg2_3 := blk_frozen Z1.out.d.b2 3; have hfg2_4 := blk_frozen Z1.out.d.b2 4))
              have hfin_ := Z1.out.fin (.slice none 0 0) (.int .i64 0) (.string (⟨#[]⟩ : ByteArray)) (.int .u32 0) (.bool false)
              refine bodyPost_ret (results_ct rfl _ _ g2 27 #[.slice none 0 0, .int .i64 0, .string (⟨#[]⟩ : ByteArray), .int .u32 0, .bool false] (0, 0) _ rfl hfin_.1 Tryd.underlying27 rfl (by kernel_rfl)) rfl ?_
              exact ⟨_, rfl, Kd.R_nil _ _ _ _ _, hfin_.2.2⟩
            · have z1b : (err != 0) = false := by simp [bne, z1]
              have z2b : (again.toList == a0.toList) = false := beq_eq_false_iff_ne.mpr (of_eq_false z2)
              go_wp2_with (first
                | (go_at_call 11; refine call_world (fun w' => D9 w w' g2 gR gB g6 g9 rest false (fun _ => True) (.slice (some ad) l.length cu) l typ hh gen (apt == 1)) (C0.out.put 2 _ rfl rfl) ?_; intro y1 hd_; clear C0 hcg9_0 hcg9_1 hcg9_2 hcg9_3 hcg9_4 hfg9_0 hfg9_1 hfg9_2 hfg9_3 hfg9_4 hcg2_0 hcg2_1 hcg2_2 hcg2_3 hcg2_4 hfg2_0 hfg2_1 hfg2_2 hfg2_3 hfg2_4; have Z0 := Aside0.mk hd_; clear hd_; refine (image_Encode.calls k (some ad) cu l typ hh gen (apt == 1) again err _ ?side1 ?side2 ?side3 HENC.out).mono ?_; (case side1 => exact (Kd.R_reads' Z0.out.r).2.2); (case side2 => exact (Kd.R_reads' Z0.out.r).2.1); (case side3 => exact HG.out.keep Z0.out.d.hb); rintro e y2 ⟨rfl, hb⟩; have Z1 := Aside0.mk (Z0.out.below hb); clear Z0 hb; have hcg9_0 : y2.cell? ⟨g9, 0, none⟩ = some (.slice (some ad) l.length cu) := (blk_cell Z1.out.b9 0).trans rfl; have hcg9_1 : y2.cell? ⟨g9, 1, none⟩ = some (.int .i64 typ) := (blk_cell Z1.out.b9 1).trans rfl; have hcg9_2 : y2.cell? ⟨g9, 2, none⟩ = some (.string hh) := (blk_cell Z1.out.b9 2).trans rfl; have hcg9_3 : y2.cell? ⟨g9, 3, none⟩ = some (.int .u32 gen) := (blk_cell Z1.out.b9 3).trans rfl; have hcg9_4 : y2.cell? ⟨g9, 4, none⟩ = some (.bool (apt == 1)) := (blk_cell Z1.out.b9 4).trans rfl; have hfg9_0 := blk_frozen Z1.out.b9 0; have hfg9_1 := blk_frozen Z1.out.b9 1; have hfg9_2 := blk_frozen Z1.out.b9 2; have hfg9_3 := blk_frozen Z1.out.b9 3; have hfg9_4 := blk_frozen Z1.out.b9 4; have hcg2_0 : y2.cell? ⟨g2, 0, none⟩ = some (.slice none 0 0) := (blk_cell Z1.out.d.b2 0).trans rfl; have hcg2_1 : y2.cell? ⟨g2, 1, none⟩ = some (.int .i64 0) := (blk_cell Z1.out.d.b2 1).trans rfl; have hcg2_2 : y2.cell? ⟨g2, 2, none⟩ = some (.string (⟨#[]⟩ : ByteArray)) := (blk_cell Z1.out.d.b2 2).trans rfl; have hcg2_3 : y2.cell? ⟨g2, 3, none⟩ = some (.int .u32 0) := (blk_cell Z1.out.d.b2 3).trans rfl; have hcg2_4 : y2.cell? ⟨g2, 4, none⟩ = some (.bool false) := (blk_cell Z1.out.d.b2 4).trans rfl; have hfg2_0 := blk_frozen Z1.out.d.b2 0; have hfg2_1 := blk_frozen Z1.out.d.b2 1; have hfg2_2 := blk_frozen Z1.out.d.b2 2; have hfg2_3 := blk_frozen Z1.out.d.b2 3; have hfg2_4 := blk_frozen Z1.out.d.b2 4))
              have hfin_ := Z1.out.fin (.slice none 0 0) (.int .i64 0) (.string (⟨#[]⟩ : ByteArray)) (.int .u32 0) (.bool false)
              refine bodyPost_ret (results_ct rfl _ _ g2 27 #[.slice none 0 0, .int .i64 0, .string (⟨#[]⟩ : ByteArray), .int .u32 0, .bool false] (0, 0) _ rfl hfin_.1 Tryd.underlying27 rfl (by kernel_rfl)) rfl ?_
              exact ⟨_, rfl, Kd.R_nil _ _ _ _ _, hfin_.2.2⟩
          · rw [if_neg hE] at hend
            simp only [Option.some.injEq, Prod.mk.injEq] at hend
            obtain ⟨e1_, e2_, e3_, e4_, e5_, e6_⟩ := hend
            subst e1_
            subst e2_
            subst e3_
            subst e4_
            subst e5_
            subst e6_
            have hF : (err == 0) = true ∧ again.toList = a0.toList := by
              refine ⟨beq_iff_eq.mpr (Classical.byContradiction fun z => hE (Or.inl z)), Classical.byContradiction fun z => hE (Or.inr z)⟩
            clear hE
            obtain ⟨z1, z2⟩ := hF
            have z1b : (err != 0) = false := by simp [bne, z1]
            have z2b : (again.toList == a0.toList) = true := beq_iff_eq.mpr z2
            · skip
              go_wp2_with (first
                | (go_at_call 11; refine call_world (fun w' => D9 w w' g2 gR gB g6 g9 rest false (fun _ => True) (.slice (some ad) l.length cu) l typ hh gen (apt == 1)) (C0.out.put 2 _ rfl rfl) ?_; intro y1 hd_; clear C0 hcg9_0 hcg9_1 hcg9_2 hcg9_3 hcg9_4 hfg9_0 hfg9_1 hfg9_2 hfg9_3 hfg9_4 hcg2_0 hcg2_1 hcg2_2 hcg2_3 hcg2_4 hfg2_0 hfg2_1 hfg2_2 hfg2_3 hfg2_4; have Z0 := Aside0.mk hd_; clear hd_; refine (image_Encode.calls k (some ad) cu l typ hh gen (apt == 1) again err _ ?side1 ?side2 ?side3 HENC.out).mono ?_; (case side1 => exact (Kd.R_reads' Z0.out.r).2.2); (case side2 => exact (Kd.R_reads' Z0.out.r).2.1); (case side3 => exact HG.out.keep Z0.out.d.hb); rintro e y2 ⟨rfl, hb⟩; have Z1 := Aside0.mk (Z0.out.below hb); clear Z0 hb; have hcg9_0 : y2.cell? ⟨g9, 0, none⟩ = some (.slice (some ad) l.length cu) := (blk_cell Z1.out.b9 0).trans rfl; have hcg9_1 : y2.cell? ⟨g9, 1, none⟩ = some (.int .i64 typ) := (blk_cell Z1.out.b9 1).trans rfl; have hcg9_2 : y2.cell? ⟨g9, 2, none⟩ = some (.string hh) := (blk_cell Z1.out.b9 2).trans rfl; have hcg9_3 : y2.cell? ⟨g9, 3, none⟩ = some (.int .u32 gen) := (blk_cell Z1.out.b9 3).trans rfl; have hcg9_4 : y2.cell? ⟨g9, 4, none⟩ = some (.bool (apt == 1)) := (blk_cell Z1.out.b9 4).trans rfl; have hfg9_0 := blk_frozen Z1.out.b9 0; have hfg9_1 := blk_frozen Z1.out.b9 1; have hfg9_2 := blk_frozen Z1.out.b9 2; have hfg9_3 := blk_frozen Z1.out.b9 3; have hfg9_4 := blk_frozen Z1.out.b9 4; have hcg2_0 : y2.cell? ⟨g2, 0, none⟩ = some (.slice none 0 0) := (blk_cell Z1.out.d.b2 0).trans rfl; have hcg2_1 : y2.cell? ⟨g2, 1, none⟩ = some (.int .i64 0) := (blk_cell Z1.out.d.b2 1).trans rfl; have hcg2_2 : y2.cell? ⟨g2, 2, none⟩ = some (.string (⟨#[]⟩ : ByteArray)) := (blk_cell Z1.out.d.b2 2).trans rfl; have hcg2_3 : y2.cell? ⟨g2, 3, none⟩ = some (.int .u32 0) := (blk_cell Z1.out.d.b2 3).trans rfl; have hcg2_4 : y2.cell? ⟨g2, 4, none⟩ = some (.bool false) := (blk_cell Z1.out.d.b2 4).trans rfl; have hfg2_0 := blk_frozen Z1.out.d.b2 0; have hfg2_1 := blk_frozen Z1.out.d.b2 1; have hfg2_2 := blk_frozen Z1.out.d.b2 2; have hfg2_3 := blk_frozen Z1.out.d.b2 3; have hfg2_4 := blk_frozen Z1.out.d.b2 4))
              have hfin_ := Z1.out.fin (.slice (some ad) l.length cu) (.int .i64 typ) (.string hh) (.int .u32 gen) (.bool (apt == 1))
              refine bodyPost_ret (results_ct rfl _ _ g2 27 #[.slice (some ad) l.length cu, .int .i64 typ, .string hh, .int .u32 gen, .bool (apt == 1)] (0, 0) _ rfl hfin_.1 Tryd.underlying27 rfl (by kernel_rfl)) rfl ?_
              exact ⟨_, rfl, hfin_.2.1, hfin_.2.2⟩
        · rw [if_neg d7] at hend
          have d7b : decide (0 < host) = false := decide_eq_false d7
          replace hend := Option.bind_eq_some_iff.mp hend
          obtain ⟨⟨again, err⟩, henc, hend⟩ := hend
          have HENC := Aside0.mk henc
          clear henc
          try dsimp only at hend
          by_cases hE : err ≠ 0 ∨ again.toList ≠ a0.toList
          · rw [if_pos hE] at hend
            simp only [Option.some.injEq, Prod.mk.injEq] at hend
            obtain ⟨e1_, e2_, e3_, e4_, e5_, e6_⟩ := hend
            subst e1_
            subst e2_
            subst e3_
            subst e4_
            subst e5_
            subst e6_
            have hF : (err == 0) = false ∨ ((err == 0) = true ∧ (again.toList = a0.toList) = False) := by
              by_cases h0 : err = 0
              · refine Or.inr ⟨beq_iff_eq.mpr h0, eq_false ?_⟩
                rcases hE with h1 | h1
                · exact absurd h0 h1
                · exact h1
              · exact Or.inl (beq_eq_false_iff_ne.mpr h0)
            clear hE
            rcases hF with z1 | ⟨z1, z2⟩
            · have z1b : (err != 0) = true := by simp [bne, z1]
              go_wp2_with (first
                | (go_at_call 11; refine call_world (fun w' => D9 w w' g2 gR gB g6 g9 rest false (fun _ => True) (.slice Au l.length cu) l typ (⟨#[]⟩ : ByteArray) gen (apt == 1)) C0.out ?_; intro y1 hd_; clear C0 hcg9_0 hcg9_1 hcg9_2 hcg9_3 hcg9_4 hfg9_0 hfg9_1 hfg9_2 hfg9_3 hfg9_4 hcg2_0 hcg2_1 hcg2_2 hcg2_3 hcg2_4 hfg2_0 hfg2_1 hfg2_2 hfg2_3 hfg2_4; have Z0 := Aside0.mk hd_; clear hd_; refine (image_Encode.calls k Au cu l typ (⟨#[]⟩ : ByteArray) gen (apt == 1) again err _ ?side1 ?side2 ?side3 HENC.out).mono ?_; (case side1 => exact (Kd.R_reads' Z0.out.r).2.2); (case side2 => exact (Kd.R_reads' Z0.out.r).2.1); (case side3 => exact HG.out.keep Z0.out.d.hb); rintro e y2 ⟨rfl, hb⟩; have Z1 := Aside0.mk (Z0.out.below hb); clear Z0 hb; have hcg9_0 : y2.cell? ⟨g9, 0, none⟩ = some (.slice Au l.length cu) := (blk_cell Z1.out.b9 0).trans rfl; have hcg9_1 : y2.cell? ⟨g9, 1, none⟩ = some (.int .i64 typ) := (blk_cell Z1.out.b9 1).trans rfl; have hcg9_2 : y2.cell? ⟨g9, 2, none⟩ = some (.string (⟨#[]⟩ : ByteArray)) := (blk_cell Z1.out.b9 2).trans rfl; have hcg9_3 : y2.cell? ⟨g9, 3, none⟩ = some (.int .u32 gen) := (blk_cell Z1.out.b9 3).trans rfl; have hcg9_4 : y2.cell? ⟨g9, 4, none⟩ = some (.bool (apt == 1)) := (blk_cell Z1.out.b9 4).trans rfl; have hfg9_0 := blk_frozen Z1.out.b9 0; have hfg9_1 := blk_frozen Z1.out.b9 1; have hfg9_2 := blk_frozen Z1.out.b9 2; have hfg9_3 := blk_frozen Z1.out.b9 3; have hfg9_4 := blk_frozen Z1.out.b9 4; have hcg2_0 : y2.cell? ⟨g2, 0, none⟩ = some (.slice none 0 0) := (blk_cell Z1.out.d.b2 0).trans rfl; have hcg2_1 : y2.cell? ⟨g2, 1, none⟩ = some (.int .i64 0) := (blk_cell Z1.out.d.b2 1).trans rfl; have hcg2_2 : y2.cell? ⟨g2, 2, none⟩ = some (.string (⟨#[]⟩ : ByteArray)) := (blk_cell Z1.out.d.b2 2).trans rfl; have hcg2_3 : y2.cell? ⟨g2, 3, none⟩ = some (.int .u32 0) := (blk_cell Z1.out.d.b2 3).trans rfl; have hcg2_4 : y2.cell? ⟨g2, 4, none⟩ = some (.bool false) := (blk_cell Z1.out.d.b2 4).trans rfl; have hfg2_0 := blk_frozen Z1.out.d.b2 0; have hfg2_1 := blk_frozen Z1.out.d.b2 1; have hfg2_2 := blk_frozen Z1.out.d.b2 2; have hfg2_3 := blk_frozen Z1.out.d.b2 3; have hfg2_4 := blk_frozen Z1.out.d.b2 4))
              have hfin_ := Z1.out.fin (.slice none 0 0) (.int .i64 0) (.string (⟨#[]⟩ : ByteArray)) (.int .u32 0) (.bool false)
              refine bodyPost_ret (results_ct rfl _ _ g2 27 #[.slice none 0 0, .int .i64 0, .string (⟨#[]⟩ : ByteArray), .int .u32 0, .bool false] (0, 0) _ rfl hfin_.1 Tryd.underlying27 rfl (by kernel_rfl)) rfl ?_
              exact ⟨_, rfl, Kd.R_nil _ _ _ _ _, hfin_.2.2⟩
            · have z1b : (err != 0) = false := by simp [bne, z1]
              have z2b : (again.toList == a0.toList) = false := beq_eq_false_iff_ne.mpr (of_eq_false z2)
              go_wp2_with (first
                | (go_at_call 11; refine call_world (fun w' => D9 w w' g2 gR gB g6 g9 rest false (fun _ => True) (.slice Au l.length cu) l typ (⟨#[]⟩ : ByteArray) gen (apt == 1)) C0.out ?_; intro y1 hd_; clear C0 hcg9_0 hcg9_1 hcg9_2 hcg9_3 hcg9_4 hfg9_0 hfg9_1 hfg9_2 hfg9_3 hfg9_4 hcg2_0 hcg2_1 hcg2_2 hcg2_3 hcg2_4 hfg2_0 hfg2_1 hfg2_2 hfg2_3 hfg2_4; have Z0 := Aside0.mk hd_; clear hd_; refine (image_Encode.calls k Au cu l typ (⟨#[]⟩ : ByteArray) gen (apt == 1) again err _ ?side1 ?side2 ?side3 HENC.out).mono ?_; (case side1 => exact (Kd.R_reads' Z0.out.r).2.2); (case side2 => exact (Kd.R_reads' Z0.out.r).2.1); (case side3 => exact HG.out.keep Z0.out.d.hb); rintro e y2 ⟨rfl, hb⟩; have Z1 := Aside0.mk (Z0.out.below hb); clear Z0 hb; have hcg9_0 : y2.cell? ⟨g9, 0, none⟩ = some (.slice Au l.length cu) := (blk_cell Z1.out.b9 0).trans rfl; have hcg9_1 : y2.cell? ⟨g9, 1, none⟩ = some (.int .i64 typ) := (blk_cell Z1.out.b9 1).trans rfl; have hcg9_2 : y2.cell? ⟨g9, 2, none⟩ = some (.string (⟨#[]⟩ : ByteArray)) := (blk_cell Z1.out.b9 2).trans rfl; have hcg9_3 : y2.cell? ⟨g9, 3, none⟩ = some (.int .u32 gen) := (blk_cell Z1.out.b9 3).trans rfl; have hcg9_4 : y2.cell? ⟨g9, 4, none⟩ = some (.bool (apt == 1)) := (blk_cell Z1.out.b9 4).trans rfl; have hfg9_0 := blk_frozen Z1.out.b9 0; have hfg9_1 := blk_frozen Z1.out.b9 1; have hfg9_2 := blk_frozen Z1.out.b9 2; have hfg9_3 := blk_frozen Z1.out.b9 3; have hfg9_4 := blk_frozen Z1.out.b9 4; have hcg2_0 : y2.cell? ⟨g2, 0, none⟩ = some (.slice none 0 0) := (blk_cell Z1.out.d.b2 0).trans rfl; have hcg2_1 : y2.cell? ⟨g2, 1, none⟩ = some (.int .i64 0) := (blk_cell Z1.out.d.b2 1).trans rfl; have hcg2_2 : y2.cell? ⟨g2, 2, none⟩ = some (.string (⟨#[]⟩ : ByteArray)) := (blk_cell Z1.out.d.b2 2).trans rfl; have hcg2_3 : y2.cell? ⟨g2, 3, none⟩ = some (.int .u32 0) := (blk_cell Z1.out.d.b2 3).trans rfl; have hcg2_4 : y2.cell? ⟨g2, 4, none⟩ = some (.bool false) := (blk_cell Z1.out.d.b2 4).trans rfl; have hfg2_0 := blk_frozen Z1.out.d.b2 0; have hfg2_1 := blk_frozen Z1.out.d.b2 1; have hfg2_2 := blk_frozen Z1.out.d.b2 2; have hfg2_3 := blk_frozen Z1.out.d.b2 3; have hfg2_4 := blk_frozen Z1.out.d.b2 4))
              have hfin_ := Z1.out.fin (.slice none 0 0) (.int .i64 0) (.string (⟨#[]⟩ : ByteArray)) (.int .u32 0) (.bool false)
              refine bodyPost_ret (results_ct rfl _ _ g2 27 #[.slice none 0 0, .int .i64 0, .string (⟨#[]⟩ : ByteArray), .int .u32 0, .bool false] (0, 0) _ rfl hfin_.1 Tryd.underlying27 rfl (by kernel_rfl)) rfl ?_
              exact ⟨_, rfl, Kd.R_nil _ _ _ _ _, hfin_.2.2⟩
          · rw [if_neg hE] at hend
            simp only [Option.some.injEq, Prod.mk.injEq] at hend
            obtain ⟨e1_, e2_, e3_, e4_, e5_, e6_⟩ := hend
            subst e1_
            subst e2_
            subst e3_
            subst e4_
            subst e5_
            subst e6_
            have hF : (err == 0) = true ∧ again.toList = a0.toList := by
              refine ⟨beq_iff_eq.mpr (Classical.byContradiction fun z => hE (Or.inl z)), Classical.byContradiction fun z => hE (Or.inr z)⟩
            clear hE
            obtain ⟨z1, z2⟩ := hF
            have z1b : (err != 0) = false := by simp [bne, z1]
            have z2b : (again.toList == a0.toList) = true := beq_iff_eq.mpr z2
            · skip
              go_wp2_with (first
                | (go_at_call 11; refine call_world (fun w' => D9 w w' g2 gR gB g6 g9 rest false (fun _ => True) (.slice Au l.length cu) l typ (⟨#[]⟩ : ByteArray) gen (apt == 1)) C0.out ?_; intro y1 hd_; clear C0 hcg9_0 hcg9_1 hcg9_2 hcg9_3 hcg9_4 hfg9_0 hfg9_1 hfg9_2 hfg9_3 hfg9_4 hcg2_0 hcg2_1 hcg2_2 hcg2_3 hcg2_4 hfg2_0 hfg2_1 hfg2_2 hfg2_3 hfg2_4; have Z0 := Aside0.mk hd_; clear hd_; refine (image_Encode.calls k Au cu l typ (⟨#[]⟩ : ByteArray) gen (apt == 1) again err _ ?side1 ?side2 ?side3 HENC.out).mono ?_; (case side1 => exact (Kd.R_reads' Z0.out.r).2.2); (case side2 => exact (Kd.R_reads' Z0.out.r).2.1); (case side3 => exact HG.out.keep Z0.out.d.hb); rintro e y2 ⟨rfl, hb⟩; have Z1 := Aside0.mk (Z0.out.below hb); clear Z0 hb; have hcg9_0 : y2.cell? ⟨g9, 0, none⟩ = some (.slice Au l.length cu) := (blk_cell Z1.out.b9 0).trans rfl; have hcg9_1 : y2.cell? ⟨g9, 1, none⟩ = some (.int .i64 typ) := (blk_cell Z1.out.b9 1).trans rfl; have hcg9_2 : y2.cell? ⟨g9, 2, none⟩ = some (.string (⟨#[]⟩ : ByteArray)) := (blk_cell Z1.out.b9 2).trans rfl; have hcg9_3 : y2.cell? ⟨g9, 3, none⟩ = some (.int .u32 gen) := (blk_cell Z1.out.b9 3).trans rfl; have hcg9_4 : y2.cell? ⟨g9, 4, none⟩ = some (.bool (apt == 1)) := (blk_cell Z1.out.b9 4).trans rfl; have hfg9_0 := blk_frozen Z1.out.b9 0; have hfg9_1 := blk_frozen Z1.out.b9 1; have hfg9_2 := blk_frozen Z1.out.b9 2; have hfg9_3 := blk_frozen Z1.out.b9 3; have hfg9_4 := blk_frozen Z1.out.b9 4; have hcg2_0 : y2.cell? ⟨g2, 0, none⟩ = some (.slice none 0 0) := (blk_cell Z1.out.d.b2 0).trans rfl; have hcg2_1 : y2.cell? ⟨g2, 1, none⟩ = some (.int .i64 0) := (blk_cell Z1.out.d.b2 1).trans rfl; have hcg2_2 : y2.cell? ⟨g2, 2, none⟩ = some (.string (⟨#[]⟩ : ByteArray)) := (blk_cell Z1.out.d.b2 2).trans rfl; have hcg2_3 : y2.cell? ⟨g2, 3, none⟩ = some (.int .u32 0) := (blk_cell Z1.out.d.b2 3).trans rfl; have hcg2_4 : y2.cell? ⟨g2, 4, none⟩ = some (.bool false) := (blk_cell Z1.out.d.b2 4).trans rfl; have hfg2_0 := blk_frozen Z1.out.d.b2 0; have hfg2_1 := blk_frozen Z1.out.d.b2 1; have hfg2_2 := blk_frozen Z1.out.d.b2 2; have hfg2_3 := blk_frozen Z1.out.d.b2 3; have hfg2_4 := blk_frozen Z1.out.d.b2 4))
              have hfin_ := Z1.out.fin (.slice Au l.length cu) (.int .i64 typ) (.string (⟨#[]⟩ : ByteArray)) (.int .u32 gen) (.bool (apt == 1))
              refine bodyPost_ret (results_ct rfl _ _ g2 27 #[.slice Au l.length cu, .int .i64 typ, .string (⟨#[]⟩ : ByteArray), .int .u32 gen, .bool (apt == 1)] (0, 0) _ rfl hfin_.1 Tryd.underlying27 rfl (by kernel_rfl)) rfl ?_
              exact ⟨_, rfl, hfin_.2.1, hfin_.2.2⟩

end Go.Proofs.YtmpicpenbhdbhaaDoor.P
