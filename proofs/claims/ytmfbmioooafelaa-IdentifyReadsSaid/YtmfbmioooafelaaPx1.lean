-- written by this session's patched copy of the printer (wip/tools/patch_print.py); Lean checks it
import Derived.Test.YtmfbmioooafelaaPx0
namespace Go.Proofs.Ytmfbmioooafelaa.P
open Go.RowKit Go.Proofs.YtmfbmioooafelaaW.PrintWords Go.Proofs.YtmfbmioooafelaaW.PrintLast Go.Proofs.YtmfbmioooafelaaW.PrintMore
attribute [local go_sem] max2_int min2_int max_two min_two max_three min_three max_four min_four   -- for this text's walks alone
set_option linter.unusedVariables false
set_option linter.unusedSimpArgs false

/-! ### fields_shifts: function 24 -/
def fields_shifts.l0 : Nat → Int → Bool → List Int → Int → Int → Option (List Int)
  | 0, _, _, _, _, _ => none
  | k + 1, x0, x1, x5, x7, x8 => if x8 < x7 then (if x1 = true then (if x5.length < 17592186044416 then (fields_shifts.l0 k x0 x1 (x5 ++ [wrap64 (8 * (wrap64 ((wrap64 (x0 - 1)) - x8)))]) x7 (wrap64 (x8 + 1))) else (none)) else (if x5.length < 17592186044416 then (fields_shifts.l0 k x0 x1 (x5 ++ [wrap64 (8 * x8)]) x7 (wrap64 (x8 + 1))) else (none))) else (some x5)
def fields_shifts.f (k : Nat) (a0 : Int) (a1 : Bool) : Option (List Int) := fields_shifts.l0 k a0 a1 ([] : List Int) a0 0
theorem fields_shifts.mono_l : ∀ k, (∀ y0 y1 y2 y3 y4, LeO (fields_shifts.l0 k y0 y1 y2 y3 y4) (fields_shifts.l0 (k + 1) y0 y1 y2 y3 y4))
  | 0 => fun _ _ _ _ _ r h => by simp [fields_shifts.l0] at h
  | k + 1 => by
    have ih0 := fields_shifts.mono_l k
    · intro y0 y1 y2 y3 y4
      unfold fields_shifts.l0
      repeat' first
      | (with_reducible exact ih0 _ _ _ _ _)
      | (with_reducible exact LeO.refl _)
      | (with_reducible exact LeO.none _)
      | (with_reducible refine LeO.ite ?_ ?_)
      | (with_reducible refine LeO.bind ?_ (fun _ => ?_))
      | exact ih0 _ _ _ _ _
      | exact LeO.none _
      | refine LeO.ite ?_ ?_
      | refine LeO.bind ?_ (fun _ => ?_)
theorem fields_shifts.mono : ∀ a0 a1 k, LeO (fields_shifts.f k a0 a1) (fields_shifts.f (k + 1) a0 a1) := by
  intro a0 a1 k
  have ih0 := fields_shifts.mono_l k
  unfold fields_shifts.f
  repeat' first
      | (with_reducible exact ih0 _ _ _ _ _)
      | (with_reducible exact LeO.refl _)
      | (with_reducible exact LeO.none _)
      | (with_reducible refine LeO.ite ?_ ?_)
      | (with_reducible refine LeO.bind ?_ (fun _ => ?_))
      | exact ih0 _ _ _ _ _
      | exact LeO.none _
      | refine LeO.ite ?_ ?_
      | refine LeO.bind ?_ (fun _ => ?_)
set_option maxHeartbeats 8000000 in
set_option maxRecDepth 100000 in
theorem fields_shifts.calls (k : Nat) (a0 : Int) (a1 : Bool) (r : List Int) (w : World) (h : fields_shifts.f k a0 a1 = some r) :
    Calls Try.prog 24 #[.int .i64 a0, .bool a1] w fun e w' => ∃ v0_ : Value, e = .returned (v0_) ∧ Kd.R (Kd.int .i64) 3 w' w.heap.size (fun _ => True) v0_ r ∧ Below w.heap.size w w' := by
  have HB := Aside0.mk (Below.refl w.heap.size w)
  have H : (fields_shifts.l0 k a0 a1 ([] : List Int) a0 0) = some r := h
  clear h
  have H' := Aside0.mk H
  clear H
  go_enter Try.func24, Try.ntmps24
  go_wp2
  go_loopg [5, 8] k (fun kq v5 v8 w' => ∃ (x5_1 : List Int) (x8_1 : Int), v8 = .int .i64 x8_1 ∧ Aside0 (fields_shifts.l0 kq a0 a1 x5_1 a0 x8_1 = some r) ∧ Aside0 (kq ≤ k) ∧ Aside0 (Kd.R (Kd.int .i64) 3 w' w.heap.size (fun _ => True) v5 x5_1) ∧ Aside0 (Below w.heap.size w w'))
  case atStart => exact ⟨(([] : List Int)), (0), (by first | rfl | (simp; done) | (simp [*]; done)), H', ⟨Nat.le_refl _⟩, ⟨by first | exact Kd.R_nil _ _ _ _ _ | exact Kd.N_nil _ _ _ _ _ | exact Kd.V_nil _ _ _ _ _ | exact Kd.Q_nil _ _ _ _ _ | exact Kd.S_nil _ _ _ _ _⟩, ⟨by repeat (first | (with_reducible first | exact HB.out | apply below_alloc | apply pw_below_drewN | apply below_drew1) | exact HB.out)⟩⟩
  case round =>
    clear H'
    try clear c2
    try clear p2
    obtain ⟨x5_1, x8_1, rfl, HA, HK1, HO_5, HB⟩ := hrel
    cases gk with
    | zero => exact absurd HA.out (by simp [fields_shifts.l0])
    | succ k1 =>
      have H := HA.out
      clear HA
      simp only [fields_shifts.l0] at H
      by_cases c3 : x8_1 < a0
      · rw [if_pos c3] at H
        have c3b0 : decide (x8_1 < a0) = true := decide_eq_true c3
        clear c3
        by_cases c4 : a1 = true
        · subst c4
          have H1 : (if x5_1.length < 17592186044416 then (fields_shifts.l0 k1 a0 true (x5_1 ++ [wrap64 (8 * (wrap64 ((wrap64 (a0 - 1)) - x8_1)))]) a0 (wrap64 (x8_1 + 1))) else (none)) = some r := by rw [if_pos rfl] at H; exact H
          clear H
          have H := H1
          clear H1
          by_cases c5 : x5_1.length < 17592186044416
          · rw [if_pos c5] at H
            have LMc5 := Aside0.mk c5
            clear c5
            obtain ⟨y101, hy101⟩ : ∃ y_ : List Int, y_ = (x5_1 ++ [wrap64 (8 * (wrap64 ((wrap64 (a0 - 1)) - x8_1)))]) := ⟨_, rfl⟩
            replace H : (fields_shifts.l0 k1 a0 true y101 a0 (wrap64 (x8_1 + 1))) = some r := by first | (rw [hy101]; with_reducible exact H) | (have H2_ := (Option.bind_some _ _).symm.trans H; rw [hy101]; with_reducible exact H2_) | (have H2_ := (Option.bind_some _ _).symm.trans H; with_reducible exact H2_) | with_reducible exact H | (rw [hy101]; exact H) | exact H
            have Ny101 := Aside0.mk hy101
            clear hy101
            have H' := Aside0.mk H
            clear H
            go_wp2_with (first | ((with_reducible refine gate_builtin (b := .append) (xs := #[.tmp 12, .tmp 18]) rfl ?_); at_builtin; refine Kd.R_append (Kd.int .i64) (w0 := w) w.heap.size rfl (.tmp 12) (.tmp 18) 47 3 (.int .i64 0) 8 rfl Try.underlying47 info3 rfl (by decide) (by omega) u5 x5_1 (wrap64 (8 * (wrap64 ((wrap64 (a0 - 1)) - x8_1)))) [.int .i64 (wrap64 (8 * (wrap64 ((wrap64 (a0 - 1)) - x8_1))))] (fun _ => True) (fun _ => False) rfl rfl ?aP (fun _ hk => hk.elim) ?aF ?aO ?aB ?aS ?aL ?_; (case aP => exact rfl); (case aB => exact (by repeat (first | (with_reducible first | exact HB.out | apply below_alloc | apply pw_below_drewN | apply below_drew1) | exact HB.out))); (case aF => exact (fun _ _ => trivial)); (case aO => exact (by (with_reducible repeat (first | apply Kd.R_alloc | apply Kd.R_drewN | apply Kd.R_drew)); exact HO_5.out)); (case aS => exact (below_size (by repeat (first | (with_reducible first | exact HB.out | apply below_alloc | apply pw_below_drewN | apply below_drew1) | exact HB.out)))); (case aL => have := LMc5.out; omega); intro v102 w6 ho hb hg hat; rw [← Ny101.out] at ho; have n0_ := Aside0.mk (hb); have n1_ := Aside0.mk (ho); clear HB; clear HO_5; have HB := n0_; have HO103 := n1_; clear n0_ n1_; clear ho hb hg hat))
            go_roundg k1
            case measure => have := HK1.out; omega
            case rel => exact ⟨(y101), (wrap64 (x8_1 + 1)), (by first | rfl | (simp; done) | (simp [*]; done)), H', ⟨by have := HK1.out; omega⟩, ⟨by (with_reducible repeat (first | apply Kd.R_alloc | apply Kd.R_drewN | apply Kd.R_drew)); exact HO103.out⟩, ⟨by repeat (first | (with_reducible first | exact HB.out | apply below_alloc | apply pw_below_drewN | apply below_drew1) | exact HB.out)⟩⟩
          · rw [if_neg c5] at H
            exact absurd H (by simp)
        · replace c4 := Bool.eq_false_iff.mpr c4
          subst c4
          have H1 : (if x5_1.length < 17592186044416 then (fields_shifts.l0 k1 a0 false (x5_1 ++ [wrap64 (8 * x8_1)]) a0 (wrap64 (x8_1 + 1))) else (none)) = some r := by rw [if_neg (show ¬ (false = true) by decide)] at H; exact H
          clear H
          have H := H1
          clear H1
          by_cases c7 : x5_1.length < 17592186044416
          · rw [if_pos c7] at H
            have LMc7 := Aside0.mk c7
            clear c7
            obtain ⟨y104, hy104⟩ : ∃ y_ : List Int, y_ = (x5_1 ++ [wrap64 (8 * x8_1)]) := ⟨_, rfl⟩
            replace H : (fields_shifts.l0 k1 a0 false y104 a0 (wrap64 (x8_1 + 1))) = some r := by first | (rw [hy104]; with_reducible exact H) | (have H2_ := (Option.bind_some _ _).symm.trans H; rw [hy104]; with_reducible exact H2_) | (have H2_ := (Option.bind_some _ _).symm.trans H; with_reducible exact H2_) | with_reducible exact H | (rw [hy104]; exact H) | exact H
            have Ny104 := Aside0.mk hy104
            clear hy104
            have H' := Aside0.mk H
            clear H
            go_wp2_with (first | ((with_reducible refine gate_builtin (b := .append) (xs := #[.tmp 20, .tmp 23]) rfl ?_); at_builtin; refine Kd.R_append (Kd.int .i64) (w0 := w) w.heap.size rfl (.tmp 20) (.tmp 23) 47 3 (.int .i64 0) 8 rfl Try.underlying47 info3 rfl (by decide) (by omega) u5 x5_1 (wrap64 (8 * x8_1)) [.int .i64 (wrap64 (8 * x8_1))] (fun _ => True) (fun _ => False) rfl rfl ?aP (fun _ hk => hk.elim) ?aF ?aO ?aB ?aS ?aL ?_; (case aP => exact rfl); (case aB => exact (by repeat (first | (with_reducible first | exact HB.out | apply below_alloc | apply pw_below_drewN | apply below_drew1) | exact HB.out))); (case aF => exact (fun _ _ => trivial)); (case aO => exact (by (with_reducible repeat (first | apply Kd.R_alloc | apply Kd.R_drewN | apply Kd.R_drew)); exact HO_5.out)); (case aS => exact (below_size (by repeat (first | (with_reducible first | exact HB.out | apply below_alloc | apply pw_below_drewN | apply below_drew1) | exact HB.out)))); (case aL => have := LMc7.out; omega); intro v105 w8 ho hb hg hat; rw [← Ny104.out] at ho; have n0_ := Aside0.mk (hb); have n1_ := Aside0.mk (ho); clear HB; clear HO_5; have HB := n0_; have HO106 := n1_; clear n0_ n1_; clear ho hb hg hat))
            go_roundg k1
            case measure => have := HK1.out; omega
            case rel => exact ⟨(y104), (wrap64 (x8_1 + 1)), (by first | rfl | (simp; done) | (simp [*]; done)), H', ⟨by have := HK1.out; omega⟩, ⟨by (with_reducible repeat (first | apply Kd.R_alloc | apply Kd.R_drewN | apply Kd.R_drew)); exact HO106.out⟩, ⟨by repeat (first | (with_reducible first | exact HB.out | apply below_alloc | apply pw_below_drewN | apply below_drew1) | exact HB.out)⟩⟩
          · rw [if_neg c7] at H
            exact absurd H (by simp)
      · rw [if_neg c3] at H
        have c3b0 : decide (x8_1 < a0) = false := decide_eq_false c3
        clear c3
        obtain rfl := Option.some.inj H
        go_wp2
        go_ret
        exact ⟨_, by first | rfl | (simp [errW_none, errW_some] <;> rfl) | (simp [*, errW_none, errW_some] <;> rfl) | (simp [bt, *]; done) | (unfold bt; simp [*]; done), by (with_reducible repeat (first | apply Kd.R_alloc | apply Kd.R_drewN | apply Kd.R_drew)); exact HO_5.out, by repeat (first | (with_reducible first | exact HB.out | apply below_alloc | apply pw_below_drewN | apply below_drew1) | exact HB.out)⟩

/-! ### fields_put_uint64: function 22 -/
mutual
def fields_put_uint64.j0 : Nat → Int → Int → Bool → Bool → Option (ByteArray)
  | 0, _, _, _, _ => none
  | k + 1, x0, x1, x2, x15 => if x15 = true then (some (⟨#[]⟩ : ByteArray)) else ((fields_shifts.f k x1 x2).bind fun t107 => (fields_put_uint64.l0 k x0 ([] : List Int) t107 (t107.length : Int) 0))
def fields_put_uint64.l0 : Nat → Int → List Int → List Int → Int → Int → Option (ByteArray)
  | 0, _, _, _, _, _ => none
  | k + 1, x0, x7, x18, x19, x20 => if x20 < x19 then (if 0 ≤ x20 then (if x20 < (x18.length : Int) then (if 0 ≤ (rd x18 x20) then (if x7.length < 140737488355328 then (fields_put_uint64.l0 k x0 (x7 ++ [(shr .u64 x0 (rd x18 x20)) % 256]) x18 x19 (wrap64 (x20 + 1))) else (none)) else (none)) else (none)) else (none)) else (some (strOfNums x7))
end
def fields_put_uint64.f (k : Nat) (a0 : Int) (a1 : Int) (a2 : Bool) : Option (ByteArray) := if a1 < 1 then (fields_put_uint64.j0 k a0 a1 a2 true) else (fields_put_uint64.j0 k a0 a1 a2 (decide (a1 > 8)))
theorem fields_put_uint64.mono_l : ∀ k, (∀ y0 y1 y2 y3, LeO (fields_put_uint64.j0 k y0 y1 y2 y3) (fields_put_uint64.j0 (k + 1) y0 y1 y2 y3)) ∧ (∀ y0 y1 y2 y3 y4, LeO (fields_put_uint64.l0 k y0 y1 y2 y3 y4) (fields_put_uint64.l0 (k + 1) y0 y1 y2 y3 y4))
  | 0 => ⟨fun _ _ _ _ r h => by simp [fields_put_uint64.j0] at h, fun _ _ _ _ _ r h => by simp [fields_put_uint64.l0] at h⟩
  | k + 1 => by
    obtain ⟨ih0, ih1⟩ := fields_put_uint64.mono_l k
    refine ⟨?_, ?_⟩
    · intro y0 y1 y2 y3
      unfold fields_put_uint64.j0
      repeat' first
      | (with_reducible exact ih0 _ _ _ _)
      | (with_reducible exact ih1 _ _ _ _ _)
      | (with_reducible exact fields_shifts.mono _ _ _)
      | (with_reducible exact LeO.refl _)
      | (with_reducible exact LeO.none _)
      | (with_reducible refine LeO.ite ?_ ?_)
      | (with_reducible refine LeO.bind ?_ (fun _ => ?_))
      | exact ih0 _ _ _ _
      | exact ih1 _ _ _ _ _
      | exact fields_shifts.mono _ _ _
      | exact LeO.none _
      | refine LeO.ite ?_ ?_
      | refine LeO.bind ?_ (fun _ => ?_)
    · intro y0 y1 y2 y3 y4
      unfold fields_put_uint64.l0
      repeat' first
      | (with_reducible exact ih0 _ _ _ _)
      | (with_reducible exact ih1 _ _ _ _ _)
      | (with_reducible exact fields_shifts.mono _ _ _)
      | (with_reducible exact LeO.refl _)
      | (with_reducible exact LeO.none _)
      | (with_reducible refine LeO.ite ?_ ?_)
      | (with_reducible refine LeO.bind ?_ (fun _ => ?_))
      | exact ih0 _ _ _ _
      | exact ih1 _ _ _ _ _
      | exact fields_shifts.mono _ _ _
      | exact LeO.none _
      | refine LeO.ite ?_ ?_
      | refine LeO.bind ?_ (fun _ => ?_)
theorem fields_put_uint64.mono : ∀ a0 a1 a2 k, LeO (fields_put_uint64.f k a0 a1 a2) (fields_put_uint64.f (k + 1) a0 a1 a2) := by
  intro a0 a1 a2 k
  obtain ⟨ih0, ih1⟩ := fields_put_uint64.mono_l k
  unfold fields_put_uint64.f
  repeat' first
      | (with_reducible exact ih0 _ _ _ _)
      | (with_reducible exact ih1 _ _ _ _ _)
      | (with_reducible exact fields_shifts.mono _ _ _)
      | (with_reducible exact LeO.refl _)
      | (with_reducible exact LeO.none _)
      | (with_reducible refine LeO.ite ?_ ?_)
      | (with_reducible refine LeO.bind ?_ (fun _ => ?_))
      | exact ih0 _ _ _ _
      | exact ih1 _ _ _ _ _
      | exact fields_shifts.mono _ _ _
      | exact LeO.none _
      | refine LeO.ite ?_ ?_
      | refine LeO.bind ?_ (fun _ => ?_)
set_option maxHeartbeats 8000000 in
set_option maxRecDepth 100000 in
theorem fields_put_uint64.calls (k : Nat) (a0 : Int) (a1 : Int) (a2 : Bool) (r : ByteArray) (w : World) (h : fields_put_uint64.f k a0 a1 a2 = some r) :
    Calls Try.prog 22 #[.int .u64 a0, .int .i64 a1, .bool a2] w fun e w' => e = .returned (.string r) ∧ Below w.heap.size w w' := by
  have HB := Aside0.mk (Below.refl w.heap.size w)
  have H : (if a1 < 1 then (fields_put_uint64.j0 k a0 a1 a2 true) else (fields_put_uint64.j0 k a0 a1 a2 (decide (a1 > 8)))) = some r := h
  clear h
  have HC4 := Aside0.mk H
  clear H
  go_enter Try.func22, Try.ntmps22
  go_upto_region 1 with (fail)
  go_cut [15] (fun v15 wc => ∃ (kq : Nat) (x15_3 : Bool), v15 = .bool x15_3 ∧ Aside0 (fields_put_uint64.j0 kq a0 a1 a2 x15_3 = some r) ∧ Aside0 (kq ≤ k) ∧ Aside0 (Below w.heap.size w wc))
  case first =>
    have H := HC4.out
    clear HC4
    by_cases c5 : a1 < 1
    · rw [if_pos c5] at H
      have c5b0 : decide (a1 < 1) = true := decide_eq_true c5
      clear c5
      (first | rw [c5b0] | (simp only [i64_w, i32_w]; rw [c5b0]) | skip)
      have H' := Aside0.mk H
      clear H
      go_wp2
      go_meet
      case rel => exact ⟨_, (true), (by first | rfl | (simp; done) | (simp [*]; done)), H', ⟨by first | omega | exact Nat.le_refl _⟩, ⟨by repeat (first | (with_reducible first | exact HB.out | apply below_alloc | apply pw_below_drewN | apply below_drew1) | exact HB.out)⟩⟩
    · rw [if_neg c5] at H
      have c5b0 : decide (a1 < 1) = false := decide_eq_false c5
      clear c5
      (first | rw [c5b0] | (simp only [i64_w, i32_w]; rw [c5b0]) | skip)
      have H' := Aside0.mk H
      clear H
      go_wp2
      go_meet
      case rel => exact ⟨_, (decide (a1 > 8)), (by first | rfl | (simp; done) | (simp [*]; done)), H', ⟨by first | omega | exact Nat.le_refl _⟩, ⟨by repeat (first | (with_reducible first | exact HB.out | apply below_alloc | apply pw_below_drewN | apply below_drew1) | exact HB.out)⟩⟩
  case rest =>
    clear HC4
    try clear c2
    try clear p2
    try clear c5
    try clear c5b0
    obtain ⟨kq, x15_3, rfl, HA, HJ3, HB⟩ := hcut
    cases kq with
    | zero => exact absurd HA.out (by simp [fields_put_uint64.j0])
    | succ kj3 =>
      have H := HA.out
      clear HA
      simp only [fields_put_uint64.j0] at H
      by_cases c6 : x15_3 = true
      · subst c6
        have H1 : (some (⟨#[]⟩ : ByteArray)) = some r := by rw [if_pos rfl] at H; exact H
        clear H
        have H := H1
        clear H1
        obtain rfl := Option.some.inj H
        go_wp2
        go_ret
        exact ⟨by first | rfl | (simp [errW_none, errW_some] <;> rfl) | (simp [*, errW_none, errW_some] <;> rfl) | (simp [bt, *]; done) | (unfold bt; simp [*]; done), by repeat (first | (with_reducible first | exact HB.out | apply below_alloc | apply pw_below_drewN | apply below_drew1) | exact HB.out)⟩
      · replace c6 := Bool.eq_false_iff.mpr c6
        subst c6
        have H1 : ((fields_shifts.f kj3 a1 a2).bind fun t107 => (fields_put_uint64.l0 kj3 a0 ([] : List Int) t107 (t107.length : Int) 0)) = some r := by rw [if_neg (show ¬ (false = true) by decide)] at H; exact H
        clear H
        have H := H1
        clear H1
        replace H := Option.bind_eq_some_iff.mp H
        obtain ⟨t107, A70, H⟩ := H
        replace H : (fields_put_uint64.l0 kj3 a0 ([] : List Int) t107 (t107.length : Int) 0) = some r := H
        have A7 := Aside0.mk A70
        clear A70
        have H' := Aside0.mk H
        clear H
        go_wp2_with (first | ((with_reducible refine gate_callee (f := 24) rfl ?_); refine goesL_ (some 18) rfl rfl Try.func24 (by kernel_rfl) rfl #[.int .i64 a1, .bool a2] rfl (by (try simp only [List.map_toArray, List.map_cons, List.map_nil]); first | done | rfl | (simp only [List.length_drop, List.length_take]; rfl)) ?_; (with_reducible refine (fields_shifts.calls kj3 a1 a2 t107 _ A7.out).mono ?_); rintro e w8 ⟨v108, rfl, ho0, hb⟩; refine ⟨_, rfl, ?_⟩; have n0_ := Aside0.mk (Kd.R_lower ho0 (below_size (by repeat (first | (with_reducible first | exact HB.out | apply below_alloc | apply pw_below_drewN | apply below_drew1) | exact HB.out)))); have n1_ := Aside0.mk (below_step (by repeat (first | (with_reducible first | exact HB.out | apply below_alloc | apply pw_below_drewN | apply below_drew1) | exact HB.out)) hb); clear HB; have HO109 := n0_; have HB := n1_; clear n0_ n1_; (try clear hb); (try clear hb2); (try clear hk); (try clear hi); (try clear ho0); obtain ⟨Ao9, co9, eo9⟩ := Kd.R_slice HO109.out; subst eo9))
        go_loopg [7, 20] kj3 (fun kq v7 v20 w' => ∃ (x7_2 : List Int) (x20_2 : Int), v20 = .int .i64 x20_2 ∧ Aside0 (fields_put_uint64.l0 kq a0 x7_2 t107 (t107.length : Int) x20_2 = some r) ∧ Aside0 (kq ≤ kj3) ∧ Aside0 (Kd.R (Kd.int .u8) 5 w' w.heap.size (fun _ => True) v7 x7_2) ∧ Aside0 (Kd.R (Kd.int .i64) 3 w' w.heap.size (fun _ => True) (.slice Ao9 t107.length co9) t107) ∧ Aside0 (Below w.heap.size w w'))
        case atStart => exact ⟨(([] : List Int)), (0), (by first | rfl | (simp; done) | (simp [*]; done)), H', ⟨Nat.le_refl _⟩, ⟨by first | exact Kd.R_nil _ _ _ _ _ | exact Kd.N_nil _ _ _ _ _ | exact Kd.V_nil _ _ _ _ _ | exact Kd.Q_nil _ _ _ _ _ | exact Kd.S_nil _ _ _ _ _⟩, ⟨by (with_reducible repeat (first | apply Kd.R_alloc | apply Kd.R_drewN | apply Kd.R_drew)); exact HO109.out⟩, ⟨by repeat (first | (with_reducible first | exact HB.out | apply below_alloc | apply pw_below_drewN | apply below_drew1) | exact HB.out)⟩⟩
        case round =>
          clear H'
          try clear c2
          try clear p2
          try clear c5
          try clear c5b0
          try clear c6
          try clear p2
          obtain ⟨x7_2, x20_2, rfl, HA, HK2, HO_7, HO_18, HB⟩ := hrel
          cases gk with
          | zero => exact absurd HA.out (by simp [fields_put_uint64.l0])
          | succ k2 =>
            have H := HA.out
            clear HA
            simp only [fields_put_uint64.l0] at H
            by_cases c10 : x20_2 < (t107.length : Int)
            · rw [if_pos c10] at H
              have c10b0 : decide (x20_2 < (t107.length : Int)) = true := decide_eq_true c10
              clear c10
              by_cases c11 : 0 ≤ x20_2
              · rw [if_pos c11] at H
                have c11b0 : decide (0 ≤ x20_2) = true := decide_eq_true c11
                clear c11
                by_cases c12 : x20_2 < (t107.length : Int)
                · rw [if_pos c12] at H
                  have c12b0 : decide (x20_2 < (t107.length : Int)) = true := decide_eq_true c12
                  clear c12
                  by_cases c13 : 0 ≤ (rd t107 x20_2)
                  · rw [if_pos c13] at H
                    have c13b0 := eq_true c13
                    have c13b1 : decide (0 ≤ (rd t107 x20_2)) = true := decide_eq_true c13
                    clear c13
                    obtain ⟨ji14, hji14⟩ : ∃ j_ : Int, (shr .u64 a0 (rd t107 x20_2)) = j_ := ⟨_, rfl⟩
                    replace H : (if x7_2.length < 140737488355328 then (fields_put_uint64.l0 k2 a0 (x7_2 ++ [(ji14) % 256]) t107 (t107.length : Int) (wrap64 (x20_2 + 1))) else (none)) = some r := by first | (rw [hji14] at H; exact H) | (simp only [hji14] at H ⊢; exact H)
                    have hji14_ : (a0 / 2 ^ min (rd t107 x20_2).toNat 64) = ji14 := hji14
                    have hji14z : (rd t107 x20_2) ≤ 64 → (a0 / 2 ^ (rd t107 x20_2).toNat) = ji14 := shr_small hji14
                    by_cases c15 : x7_2.length < 140737488355328
                    · rw [if_pos c15] at H
                      have LMc15 := Aside0.mk c15
                      clear c15
                      obtain ⟨y111, hy111⟩ : ∃ y_ : List Int, y_ = (x7_2 ++ [(ji14) % 256]) := ⟨_, rfl⟩
                      replace H : (fields_put_uint64.l0 k2 a0 y111 t107 (t107.length : Int) (wrap64 (x20_2 + 1))) = some r := by first | (rw [hy111]; with_reducible exact H) | (have H2_ := (Option.bind_some _ _).symm.trans H; rw [hy111]; with_reducible exact H2_) | (have H2_ := (Option.bind_some _ _).symm.trans H; with_reducible exact H2_) | with_reducible exact H | (rw [hy111]; exact H) | exact H
                      have Ny111 := Aside0.mk hy111
                      clear hy111
                      have H' := Aside0.mk H
                      clear H
                      have p110 : 0 ≤ (x20_2 : Int) := of_decide_eq_true (by first | (with_reducible assumption) | assumption)
                      have q110 : x20_2 < (t107.length : Int) := of_decide_eq_true (by first | (with_reducible assumption) | assumption)
                      obtain ⟨ad110, e110, hx110_0⟩ := Kd.at_int (Kd.R_reads' HO_18.out).2.2 x20_2 p110 q110
                      cases e110
                      replace p110 := eq_true p110
                      replace q110 := eq_true q110
                      go_wp2_with (first | ((with_reducible refine gate_builtin (b := .append) (xs := #[.tmp 24, .tmp 29]) rfl ?_); at_builtin; refine Kd.R_append (Kd.int .u8) (w0 := w) w.heap.size rfl (.tmp 24) (.tmp 29) 43 5 (.int .u8 0) 1 rfl Try.underlying43 info5 rfl (by decide) (by omega) u7 x7_2 ((ji14) % 256) [.int .u8 ((ji14) % 256)] (fun _ => True) (fun _ => False) rfl rfl ?aP (fun _ hk => hk.elim) ?aF ?aO ?aB ?aS ?aL ?_; (case aP => exact rfl); (case aB => exact (by repeat (first | (with_reducible first | exact HB.out | apply below_alloc | apply pw_below_drewN | apply below_drew1) | exact HB.out))); (case aF => exact (fun _ _ => trivial)); (case aO => exact (by (with_reducible repeat (first | apply Kd.R_alloc | apply Kd.R_drewN | apply Kd.R_drew)); exact HO_7.out)); (case aS => exact (below_size (by repeat (first | (with_reducible first | exact HB.out | apply below_alloc | apply pw_below_drewN | apply below_drew1) | exact HB.out)))); (case aL => have := LMc15.out; omega); intro v112 w16 ho hb hg hat; rw [← Ny111.out] at ho; have n0_ := Aside0.mk (Kd.R_over' (by (with_reducible repeat (first | apply Kd.R_alloc | apply Kd.R_drewN | apply Kd.R_drew)); exact HO_18.out) (Kd.R_typed (by (with_reducible repeat (first | apply Kd.R_alloc | apply Kd.R_drewN | apply Kd.R_drew)); exact HO_7.out)) (by decide) hg); have n1_ := Aside0.mk (hb); have n2_ := Aside0.mk (ho); clear HO_18; clear HB; clear HO_7; have HO_18 := n0_; have HB := n1_; have HO113 := n2_; clear n0_ n1_ n2_; clear ho hb hg hat))
                      go_roundg k2
                      case measure => have := HJ3.out; have := HK2.out; omega
                      case rel => exact ⟨(y111), (wrap64 (x20_2 + 1)), (by first | rfl | (simp; done) | (simp [*]; done)), H', ⟨by have := HJ3.out; have := HK2.out; omega⟩, ⟨by (with_reducible repeat (first | apply Kd.R_alloc | apply Kd.R_drewN | apply Kd.R_drew)); exact HO113.out⟩, ⟨by (with_reducible repeat (first | apply Kd.R_alloc | apply Kd.R_drewN | apply Kd.R_drew)); exact HO_18.out⟩, ⟨by repeat (first | (with_reducible first | exact HB.out | apply below_alloc | apply pw_below_drewN | apply below_drew1) | exact HB.out)⟩⟩
                    · rw [if_neg c15] at H
                      exact absurd H (by simp)
                  · rw [if_neg c13] at H
                    exact absurd H (by simp)
                · rw [if_neg c12] at H
                  exact absurd H (by simp)
              · rw [if_neg c11] at H
                exact absurd H (by simp)
            · rw [if_neg c10] at H
              have c10b0 : decide (x20_2 < (t107.length : Int)) = false := decide_eq_false c10
              clear c10
              obtain rfl := Option.some.inj H
              have hcv17 := own_string (P := Try.prog) Try.underlying43 Try.underlying5 Try.underlying9 (Kd.own_of_R HO_7.out)
              go_wp2
              go_ret
              exact ⟨by first | rfl | (simp [errW_none, errW_some] <;> rfl) | (simp [*, errW_none, errW_some] <;> rfl) | (simp [bt, *]; done) | (unfold bt; simp [*]; done), by repeat (first | (with_reducible first | exact HB.out | apply below_alloc | apply pw_below_drewN | apply below_drew1) | exact HB.out)⟩

/-! ### fields_PutLittle: function 19 -/
def fields_PutLittle.f (k : Nat) (a0 : Int) (a1 : Int) : Option (ByteArray) := (fields_put_uint64.f k a0 a1 false).bind fun t114 => (some t114)
theorem fields_PutLittle.mono : ∀ a0 a1 k, LeO (fields_PutLittle.f k a0 a1) (fields_PutLittle.f (k + 1) a0 a1) := by
  intro a0 a1 k
  unfold fields_PutLittle.f
  repeat' first
      | (with_reducible exact fields_put_uint64.mono _ _ _ _)
      | (with_reducible exact LeO.refl _)
      | (with_reducible exact LeO.none _)
      | (with_reducible refine LeO.ite ?_ ?_)
      | (with_reducible refine LeO.bind ?_ (fun _ => ?_))
      | exact fields_put_uint64.mono _ _ _ _
      | exact LeO.none _
      | refine LeO.ite ?_ ?_
      | refine LeO.bind ?_ (fun _ => ?_)
set_option maxHeartbeats 8000000 in
set_option maxRecDepth 100000 in
theorem fields_PutLittle.calls (k : Nat) (a0 : Int) (a1 : Int) (r : ByteArray) (w : World) (h : fields_PutLittle.f k a0 a1 = some r) :
    Calls Try.prog 19 #[.int .u64 a0, .int .i64 a1] w fun e w' => e = .returned (.string r) ∧ Below w.heap.size w w' := by
  have HB := Aside0.mk (Below.refl w.heap.size w)
  have H : ((fields_put_uint64.f k a0 a1 false).bind fun t114 => (some t114)) = some r := h
  clear h
  replace H := Option.bind_eq_some_iff.mp H
  obtain ⟨t114, A30, H⟩ := H
  replace H : (some t114) = some r := H
  have A3 := Aside0.mk A30
  clear A30
  obtain rfl := Option.some.inj H
  go_enter Try.func19, Try.ntmps19
  go_wp2_with (first | ((with_reducible refine gate_callee (f := 22) rfl ?_); refine goesL_ (some 7) rfl rfl Try.func22 (by kernel_rfl) rfl #[.int .u64 a0, .int .i64 a1, .bool false] rfl (by (try simp only [List.map_toArray, List.map_cons, List.map_nil]); first | done | rfl | (simp only [List.length_drop, List.length_take]; rfl)) ?_; (with_reducible refine (fields_put_uint64.calls k a0 a1 false t114 _ A3.out).mono ?_); rintro e w4 ⟨rfl, hb⟩; refine ⟨_, rfl, ?_⟩; have n0_ := Aside0.mk (below_step (by repeat (first | (with_reducible first | exact HB.out | apply below_alloc | apply pw_below_drewN | apply below_drew1) | exact HB.out)) hb); clear HB; have HB := n0_; clear n0_; (try clear hb); (try clear hb2); (try clear hk); (try clear hi)))
  go_ret
  exact ⟨by first | rfl | (simp [errW_none, errW_some] <;> rfl) | (simp [*, errW_none, errW_some] <;> rfl) | (simp [bt, *]; done) | (unfold bt; simp [*]; done), by repeat (first | (with_reducible first | exact HB.out | apply below_alloc | apply pw_below_drewN | apply below_drew1) | exact HB.out)⟩

/-! ### identify_number: function 13 -/
def identify_number.f (k : Nat) (a0 : Int) (a1 : Int) (a2 : Int) : Option (Int × ByteArray) := (fields_PutLittle.f k (IntKind.u64.wrap (a1)) a2).bind fun t116 => (some (a0, t116))
theorem identify_number.mono : ∀ a0 a1 a2 k, LeO (identify_number.f k a0 a1 a2) (identify_number.f (k + 1) a0 a1 a2) := by
  intro a0 a1 a2 k
  unfold identify_number.f
  repeat' first
      | (with_reducible exact fields_PutLittle.mono _ _ _)
      | (with_reducible exact LeO.refl _)
      | (with_reducible exact LeO.none _)
      | (with_reducible refine LeO.ite ?_ ?_)
      | (with_reducible refine LeO.bind ?_ (fun _ => ?_))
      | exact fields_PutLittle.mono _ _ _
      | exact LeO.none _
      | refine LeO.ite ?_ ?_
      | refine LeO.bind ?_ (fun _ => ?_)
set_option maxHeartbeats 8000000 in
set_option maxRecDepth 100000 in
theorem identify_number.calls (k : Nat) (a0 : Int) (a1 : Int) (a2 : Int) (r1 : Int) (r2 : ByteArray) (w : World) (h : identify_number.f k a0 a1 a2 = some (r1, r2)) :
    Calls Try.prog 13 #[.int .i64 a0, .int .i64 a1, .int .i64 a2] w fun e w' => e = .returned (.agg #[.int .i64 r1, .string r2]) ∧ Below w.heap.size w w' := by
  have hu34 := Try.underlying34
  have HB := Aside0.mk (Below.refl w.heap.size w)
  have H : ((fields_PutLittle.f k (IntKind.u64.wrap (a1)) a2).bind fun t116 => (some (a0, t116))) = some (r1, r2) := h
  clear h
  replace H := Option.bind_eq_some_iff.mp H
  obtain ⟨t116, A40, H⟩ := H
  replace H : (some (a0, t116)) = some (r1, r2) := H
  have A4 := Aside0.mk A40
  clear A40
  simp only [Option.some.injEq, Prod.mk.injEq] at H
  obtain ⟨rfl, rfl⟩ := H
  go_enter Try.func13, Try.ntmps13
  go_wp2_with (first | ((with_reducible refine gate_dst (N := 6) rfl ?_); refine box_event ?hg (N := 6) ?hd (cs := #[.int .i64 0, .string (⟨#[]⟩ : ByteArray)]) (t := 34) ?hr ?_; (case hd => rfl); (case hg => rfl); (case hr => first | (go_simp; done) | (go_simp; rfl)); intro gb115 hg w5 hbox hb; have n0_ := Aside0.mk (below_step (by repeat (first | (with_reducible first | exact HB.out | apply below_alloc | apply pw_below_drewN | apply below_drew1) | exact HB.out)) hb); have n1_ := Aside0.mk (hbox); have n2_ := Aside0.mk ((by rw [hg]; exact (below_size (by repeat (first | (with_reducible first | exact HB.out | apply below_alloc | apply pw_below_drewN | apply below_drew1) | exact HB.out))) : w.heap.size ≤ gb115)); have n3_ := Aside0.mk ((by rw [hg]; exact (below_size (by repeat (first | (with_reducible first | exact HB.out | apply below_alloc | apply pw_below_drewN | apply below_drew1) | exact HB.out))) : w.heap.size ≤ gb115)); clear HB; have HB := n0_; have BK115 := n1_; have GW115 := n2_; have GE115 := n3_; clear n0_ n1_ n2_ n3_; clear hb hbox hg) | ((with_reducible refine gate_callee (f := 19) rfl ?_); refine goesL_ (some 11) rfl rfl Try.func19 (by kernel_rfl) rfl #[.int .u64 (IntKind.u64.wrap (a1)), .int .i64 a2] rfl (by (try simp only [List.map_toArray, List.map_cons, List.map_nil]); first | done | rfl | (simp only [List.length_drop, List.length_take]; rfl)) ?_; (with_reducible refine (fields_PutLittle.calls k (IntKind.u64.wrap (a1)) a2 t116 _ A4.out).mono ?_); rintro e w6 ⟨rfl, hb⟩; refine ⟨_, rfl, ?_⟩; have n0_ := Aside0.mk (blk_below (g := gb115) (o := .cells #[.int .i64 0, .string (⟨#[]⟩ : ByteArray)] 34 (0, 0)) (by (with_reducible repeat (first | refine blk_drewN ?_ _ | refine blk_drew ?_ | refine blk_alloc ?_ _)); exact BK115.out) hb); have n1_ := Aside0.mk (below_step (by repeat (first | (with_reducible first | exact HB.out | apply below_alloc | apply pw_below_drewN | apply below_drew1 | refine below_set ?_ GE115.out) | exact HB.out)) hb); clear BK115; clear HB; have BK115 := n0_; have HB := n1_; clear n0_ n1_; (try clear hb); (try clear hb2); (try clear hk); (try clear hi); have hcz7_0 : w6.cell? ⟨gb115, 0, none⟩ = some (.int .i64 0) := (blk_cell BK115.out 0).trans rfl; have hcz7_1 : w6.cell? ⟨gb115, 1, none⟩ = some (.string (⟨#[]⟩ : ByteArray)) := (blk_cell BK115.out 1).trans rfl; have hfz7_0 := blk_frozen BK115.out 0; have hfz7_1 := blk_frozen BK115.out 1))
  refine bodyPost_ret (results_cell_row rfl _ _ gb115 34 #[.int .i64 a0, .string t116] (0, 0) _ rfl (by (with_reducible repeat (first | refine blk_drewN ?_ _ | refine blk_drew ?_ | refine blk_alloc ?_ _)); refine blk_put (cs := #[.int .i64 a0, .string (⟨#[]⟩ : ByteArray)]) ?_ 1 _ rfl; (with_reducible repeat (first | refine blk_drewN ?_ _ | refine blk_drew ?_ | refine blk_alloc ?_ _)); refine blk_put (cs := #[.int .i64 0, .string (⟨#[]⟩ : ByteArray)]) ?_ 0 _ rfl; (with_reducible repeat (first | refine blk_drewN ?_ _ | refine blk_drew ?_ | refine blk_alloc ?_ _)); exact BK115.out) Try.underlying34 rfl (by kernel_rfl)) rfl ?_
  exact ⟨by first | rfl | (simp [errW_none, errW_some] <;> rfl) | (simp [*, errW_none, errW_some] <;> rfl) | (simp [bt, *]; done) | (unfold bt; simp [*]; done), by repeat (first | (with_reducible first | exact HB.out | apply below_alloc | apply pw_below_drewN | apply below_drew1 | refine below_set ?_ GE115.out) | exact HB.out)⟩

/-! ### identify_page: function 14 -/
/-- The page's bytes with parts at their places. -/
def pageOf : List UInt8 → List S34 → Option ByteArray
  | L, [] => some ⟨L.toArray⟩
  | L, p :: r => if 0 ≤ p.f0 ∧ p.f0 < 4096 ∧ p.f0 + p.f1.size ≤ 4096 then pageOf (L.take p.f0.toNat ++ p.f1.data.toList ++ L.drop (p.f0.toNat + p.f1.size)) r else none
def identify_page.f (l0 : List S34) : Option ByteArray := if l0.length ≤ 100000 then pageOf (List.replicate 4096 0) l0 else none
set_option maxHeartbeats 8000000 in
set_option maxRecDepth 100000 in
theorem identify_page.calls (A0 : Option Addr) (c0 : Nat) (l0 : List (S34)) (r : ByteArray) (w : World) (hr0 : Kd.C k34 w A0 l0.length l0) (hc0 : l0.length ≤ c0) (h : identify_page.f l0 = some r) :
    Calls Try.prog 14 #[.slice A0 l0.length c0] w fun e w' => e = .returned (.string r) ∧ Below w.heap.size w w' := by
  have hu := Try.underlying34
  have HB := Aside0.mk (Below.refl w.heap.size w)
  have hlz : ∀ m, (List.replicate m (0 : UInt8)).length = m := fun m => List.length_replicate
  unfold identify_page.f at h
  have hlen : l0.length ≤ 100000 := by
    by_cases hx : l0.length ≤ 100000
    · exact hx
    · rw [if_neg hx] at h; exact absurd h (by simp)
  rw [if_pos hlen] at h
  have HP := Aside0.mk h
  clear h hlz
  have hzv : ∀ W, (zeroValue 5).run Try.prog W = .ok (.int .u8 0) W := fun _ => by kernel_rfl
  go_enter Try.func14, Try.ntmps14
  go_wp2_with (first
    | ((with_reducible refine gate_dst (N := 6) rfl ?_); refine zeros_event rfl (N := 6) rfl 43 5 _ _ 4096 rfl rfl rfl Try.underlying43 info5 (by decide) ?_; intro g w1 hg hrow hb; have GE := Aside0.mk (show w.heap.size ≤ g by rw [hg]; exact below_size HB.out); have n1_ := Aside0.mk (below_step HB.out hb); have RA := Aside0.mk hrow; clear HB; have HB := n1_; clear n1_ hb hrow hg)
    | ((with_reducible refine gate_ (.call { callee := .builtin .clear, args := #[.tmp 7], argTypes := #[43] }) rfl ?_); refine clear_event rfl rfl (.tmp 7) 43 5 g 4096 4096 rfl rfl Try.underlying43 hzv (by decide) RA.out HB.out GE.out ?_; intro w2 hrow hb; have n1_ := Aside0.mk hb; have n2_ := Aside0.mk hrow; clear HB RA; have HB := n1_; have RA := n2_; clear n1_ n2_ hb hrow))
  have hu8 : Try.prog.underlying 5 = some (.int .u8) := Try.underlying5
  have hsz : (Try.prog.info? 5).map (·.size) = some 1 := by kernel_rfl
  go_loopw [10] (fun iv wr => ∃ (k : Nat) (L : List UInt8), k ≤ l0.length ∧ iv = .int .i64 k ∧ Aside0 (L.length = 4096) ∧ Aside0 (pageOf L (l0.drop k) = some r) ∧ Aside0 (RowAt wr g 5 L) ∧ Aside0 (Below w.heap.size w wr)) (fun iv _ => l0.length - (intOf iv).toNat)
  case atStart => exact ⟨0, List.replicate 4096 0, Nat.zero_le _, rfl, ⟨List.length_replicate⟩, ⟨by rw [List.drop_zero]; exact HP.out⟩, RA, HB⟩
  case round =>
    clear HB RA HP
    obtain ⟨k, L, hk, rfl, HL, HP, RA, HB⟩ := hrel
    by_cases hlt : k < l0.length
    · have hp := HP.out
      rw [List.drop_eq_getElem_cons hlt] at hp
      obtain ⟨p, hpp⟩ : ∃ p, p = l0[k] := ⟨_, rfl⟩
      rw [← hpp] at hp
      have hp' : (if 0 ≤ p.f0 ∧ p.f0 < 4096 ∧ p.f0 + p.f1.size ≤ 4096 then pageOf (L.take p.f0.toNat ++ p.f1.data.toList ++ L.drop (p.f0.toNat + p.f1.size)) (l0.drop (k + 1)) else none) = some r := hp
      clear hp
      by_cases hc : 0 ≤ p.f0 ∧ p.f0 < 4096 ∧ p.f0 + p.f1.size ≤ 4096
      · rw [if_pos hc] at hp'
        obtain ⟨m, hm⟩ : ∃ m : Nat, p.f0 = m := ⟨p.f0.toNat, by omega⟩
        rw [hm, Int.toNat_natCast] at hp'
        have hms : m + p.f1.size ≤ 4096 := by omega
        have hm1 : (m : Int) ≤ 4096 := by omega
        have hm2 : (4096 = m) = False := eq_false (by omega)
        have hm0 : (0 : Int) ≤ (m : Int) := by omega
        obtain ⟨s, hs⟩ : ∃ s, s = p.f1 := ⟨_, rfl⟩
        rw [← hs] at hp' hms
        replace HP := Aside0.mk hp'
        clear hp'
        obtain ⟨ad, rfl, hx0, hx1⟩ := at_T34 (Kd.C_below hr0 HB.out) (k : Int) (by omega) (by omega)
        have hrd : rd_T34 l0 (k : Int) = p := by
          unfold rd_T34
          rw [List.getD_eq_getElem?_getD, Int.toNat_natCast, List.getElem?_eq_getElem hlt, hpp]
          rfl
        rw [hrd, Int.toNat_natCast] at hx0 hx1
        rw [hm] at hx0
        rw [← hs] at hx1
        clear hrd hpp hm hs hc
        go_wp2_with (first
          | ((with_reducible refine gate_dst (N := 5) rfl ?_); refine box_event ?hg (N := 5) ?hd (cs := #[.int .i64 0, .string (⟨#[]⟩ : ByteArray)]) (t := 34) ?hr ?_; (case hd => rfl); (case hg => rfl); (case hr => first | (go_simp; done) | (go_simp; rfl)); intro gb hgb w3 hbox hb; have NE := Aside0.mk (show g ≠ gb by rw [hgb]; exact Nat.ne_of_lt RA.out.lt); have GE2 := Aside0.mk (show w.heap.size ≤ gb by rw [hgb]; exact below_size HB.out); have n1_ := Aside0.mk (below_step HB.out hb); have n2_ := Aside0.mk (RA.out.below hb); clear HB RA; have HB := n1_; have RA := n2_; have hcz0 : w3.cell? ⟨gb, 0, none⟩ = some (.int .i64 0) := (blk_cell hbox 0).trans rfl; have hcz1 : w3.cell? ⟨gb, 1, none⟩ = some (.string (⟨#[]⟩ : ByteArray)) := (blk_cell hbox 1).trans rfl; have hfz0 := blk_frozen hbox 0; have hfz1 := blk_frozen hbox 1; have BK := Aside0.mk hbox; clear n1_ n2_ hb hbox hgb))
        have n1_ : Aside0 (RowAt ((w3.setCell ⟨gb, 0, none⟩ (.int .i64 (m : Int))).setCell ⟨gb, 1, none⟩ (.string s)) g 5 L) := ⟨(RA.out.far NE.out _).far NE.out _⟩
        have n2_ : Aside0 (Below w.heap.size w ((w3.setCell ⟨gb, 0, none⟩ (.int .i64 (m : Int))).setCell ⟨gb, 1, none⟩ (.string s))) := ⟨below_set (below_set HB.out GE2.out) GE2.out⟩
        have n3_ : Aside0 (((w3.setCell ⟨gb, 0, none⟩ (.int .i64 (m : Int))).setCell ⟨gb, 1, none⟩ (.string s)).heap[gb]? = some (.cells #[.int .i64 (m : Int), .string s] 34 (0, 0))) := ⟨blk_put (blk_put (cs' := #[.int .i64 (m : Int), .string (⟨#[]⟩ : ByteArray)]) BK.out 0 _ rfl) 1 _ rfl⟩
        clear RA HB BK hcz0 hcz1 hfz0 hfz1 hx0 hx1
        generalize ((w3.setCell ⟨gb, 0, none⟩ (.int .i64 (m : Int))).setCell ⟨gb, 1, none⟩ (.string s)) = w4 at n1_ n2_ n3_ ⊢
        refine wp_region_still_tail 6 (by kernel_rfl) (by kernel_rfl) ?_
        have m1_ : Aside0 (RowAt w4.drew g 5 L) := ⟨n1_.out.drew⟩
        have m2_ : Aside0 (Below w.heap.size w w4.drew) := ⟨below_drew1 n2_.out⟩
        have m3_ : Aside0 (w4.drew.heap[gb]? = some (.cells #[.int .i64 (m : Int), .string s] 34 (0, 0))) := ⟨blk_drew n3_.out⟩
        clear n1_ n2_ n3_
        rw [show ({ heap := w4.heap, tape := w4.tape, drawn := w4.drawn + 1, os := w4.os, output := w4.output } : World) = w4.drew from rfl]
        generalize w4.drew = w5 at m1_ m2_ m3_ ⊢
        have hc0 : w5.cell? ⟨gb, 0, none⟩ = some (.int .i64 (m : Int)) := (blk_cell m3_.out 0).trans rfl
        have hc1 : w5.cell? ⟨gb, 1, none⟩ = some (.string s) := (blk_cell m3_.out 1).trans rfl
        simp only [List.take_succ_cons, List.take_zero, List.drop_succ_cons, List.drop_zero]
        repeat still_step
        try refine wpStill_nil ?_
        go_wp2_with (first
          | ((with_reducible refine gate_dst (N := 20) rfl ?_); refine copy_event rfl (N := 20) rfl _ _ 43 9 5 g m (4096 - m) (4096 - m) s L rfl rfl rfl Try.underlying43 hsz (by omega) (by rw [HL.out]; exact hms) m1_.out m2_.out GE.out ?_; intro w6 hrow hb; have RA := Aside0.mk hrow; have HB := Aside0.mk hb; clear m1_ m2_ m3_ hrow hb))
        go_roundw
        case rel =>
          refine ⟨k + 1, L.take m ++ s.data.toList ++ L.drop (m + s.size), by omega, by go_num, ⟨?_⟩, HP, RA, HB⟩
          have hsl : s.data.toList.length = s.size := rfl
          have hLl := HL.out
          rw [List.length_append, List.length_append, List.length_take, List.length_drop]
          omega
        case measure => simp [intOf]; omega
      · rw [if_neg hc] at hp'
        exact absurd hp' (by simp)
    · have hke : l0.drop k = [] := List.drop_eq_nil_of_le (by omega)
      have hp := HP.out
      rw [hke] at hp
      obtain rfl : (⟨L.toArray⟩ : ByteArray) = r := Option.some.inj hp
      clear hp hke
      have HL' := HL.out
      go_wp2_with (first
        | ((with_reducible refine gate_dst (N := 23) rfl ?_); refine whole_event rfl (N := 23) rfl (.tmp 22) rfl L _ _ _ rfl HL.out.symm RA.out Try.underlying43 Try.underlying5 Try.underlying9 ?_))
      go_ret
      exact ⟨rfl, HB.out⟩

/-! ### identify_List: function 6 -/
mutual
def identify_List.j0 : Nat → Int → Int → Bool → Option (ByteArray)
  | 0, _, _, _ => none
  | k + 1, x0, x1, x12 => if x12 = true then (identify_List.j1 k 0 x1) else (identify_List.j1 k x0 x1)
def identify_List.j1 : Nat → Int → Int → Option (ByteArray)
  | 0, _, _ => none
  | k + 1, x0, x1 => identify_List.l0 k x0 ([] : List (S34)) (wrap64 ((mn (mx x1 0) x0) + 1))
def identify_List.l0 : Nat → Int → List (S34) → Int → Option (ByteArray)
  | 0, _, _, _ => none
  | k + 1, x0, x5, x6 => if x6 ≤ x0 then ((identify_number.f k (wrap64 (4 * (x5.length : Int))) x6 4).bind fun bt117 => (if x5.length < 5864062014805 then (identify_List.l0 k x0 (x5 ++ [(⟨bt117.1, bt117.2⟩ : S34)]) (wrap64 (x6 + 1))) else (none))) else ((identify_page.f x5).bind fun t122 => (some t122))
end
def identify_List.f (k : Nat) (a0 : Int) (a1 : Int) : Option (ByteArray) := if a0 < 0 then (identify_List.j0 k a0 a1 true) else (identify_List.j0 k a0 a1 (decide (a0 > 256)))
theorem identify_List.mono_l : ∀ k, (∀ y0 y1 y2, LeO (identify_List.j0 k y0 y1 y2) (identify_List.j0 (k + 1) y0 y1 y2)) ∧ (∀ y0 y1, LeO (identify_List.j1 k y0 y1) (identify_List.j1 (k + 1) y0 y1)) ∧ (∀ y0 y1 y2, LeO (identify_List.l0 k y0 y1 y2) (identify_List.l0 (k + 1) y0 y1 y2))
  | 0 => ⟨fun _ _ _ r h => by simp [identify_List.j0] at h, fun _ _ r h => by simp [identify_List.j1] at h, fun _ _ _ r h => by simp [identify_List.l0] at h⟩
  | k + 1 => by
    obtain ⟨ih0, ih1, ih2⟩ := identify_List.mono_l k
    refine ⟨?_, ?_, ?_⟩
    · intro y0 y1 y2
      unfold identify_List.j0
      repeat' first
      | (with_reducible exact ih0 _ _ _)
      | (with_reducible exact ih1 _ _)
      | (with_reducible exact ih2 _ _ _)
      | (with_reducible exact identify_number.mono _ _ _ _)
      | (with_reducible exact LeO.refl _)
      | (with_reducible exact LeO.none _)
      | (with_reducible refine LeO.ite ?_ ?_)
      | (with_reducible refine LeO.bind ?_ (fun _ => ?_))
      | exact ih0 _ _ _
      | exact ih1 _ _
      | exact ih2 _ _ _
      | exact identify_number.mono _ _ _ _
      | exact LeO.none _
      | refine LeO.ite ?_ ?_
      | refine LeO.bind ?_ (fun _ => ?_)
    · intro y0 y1
      unfold identify_List.j1
      repeat' first
      | (with_reducible exact ih0 _ _ _)
      | (with_reducible exact ih1 _ _)
      | (with_reducible exact ih2 _ _ _)
      | (with_reducible exact identify_number.mono _ _ _ _)
      | (with_reducible exact LeO.refl _)
      | (with_reducible exact LeO.none _)
      | (with_reducible refine LeO.ite ?_ ?_)
      | (with_reducible refine LeO.bind ?_ (fun _ => ?_))
      | exact ih0 _ _ _
      | exact ih1 _ _
      | exact ih2 _ _ _
      | exact identify_number.mono _ _ _ _
      | exact LeO.none _
      | refine LeO.ite ?_ ?_
      | refine LeO.bind ?_ (fun _ => ?_)
    · intro y0 y1 y2
      unfold identify_List.l0
      repeat' first
      | (with_reducible exact ih0 _ _ _)
      | (with_reducible exact ih1 _ _)
      | (with_reducible exact ih2 _ _ _)
      | (with_reducible exact identify_number.mono _ _ _ _)
      | (with_reducible exact LeO.refl _)
      | (with_reducible exact LeO.none _)
      | (with_reducible refine LeO.ite ?_ ?_)
      | (with_reducible refine LeO.bind ?_ (fun _ => ?_))
      | exact ih0 _ _ _
      | exact ih1 _ _
      | exact ih2 _ _ _
      | exact identify_number.mono _ _ _ _
      | exact LeO.none _
      | refine LeO.ite ?_ ?_
      | refine LeO.bind ?_ (fun _ => ?_)
theorem identify_List.mono : ∀ a0 a1 k, LeO (identify_List.f k a0 a1) (identify_List.f (k + 1) a0 a1) := by
  intro a0 a1 k
  obtain ⟨ih0, ih1, ih2⟩ := identify_List.mono_l k
  unfold identify_List.f
  repeat' first
      | (with_reducible exact ih0 _ _ _)
      | (with_reducible exact ih1 _ _)
      | (with_reducible exact ih2 _ _ _)
      | (with_reducible exact identify_number.mono _ _ _ _)
      | (with_reducible exact LeO.refl _)
      | (with_reducible exact LeO.none _)
      | (with_reducible refine LeO.ite ?_ ?_)
      | (with_reducible refine LeO.bind ?_ (fun _ => ?_))
      | exact ih0 _ _ _
      | exact ih1 _ _
      | exact ih2 _ _ _
      | exact identify_number.mono _ _ _ _
      | exact LeO.none _
      | refine LeO.ite ?_ ?_
      | refine LeO.bind ?_ (fun _ => ?_)
set_option maxHeartbeats 8000000 in
set_option maxRecDepth 100000 in
theorem identify_List.calls (k : Nat) (a0 : Int) (a1 : Int) (r : ByteArray) (w : World) (h : identify_List.f k a0 a1 = some r) :
    Calls Try.prog 6 #[.int .i64 a0, .int .i64 a1] w fun e w' => e = .returned (.string r) ∧ Below w.heap.size w w' := by
  have HB := Aside0.mk (Below.refl w.heap.size w)
  have H : (if a0 < 0 then (identify_List.j0 k a0 a1 true) else (identify_List.j0 k a0 a1 (decide (a0 > 256)))) = some r := h
  clear h
  have HC3 := Aside0.mk H
  clear H
  go_enter Try.func6, Try.ntmps6
  go_upto_region 1 with (fail)
  go_cut [12] (fun v12 wc => ∃ (kq : Nat) (x12_2 : Bool), v12 = .bool x12_2 ∧ Aside0 (identify_List.j0 kq a0 a1 x12_2 = some r) ∧ Aside0 (kq ≤ k) ∧ Aside0 (Below w.heap.size w wc))
  case first =>
    have H := HC3.out
    clear HC3
    by_cases c4 : a0 < 0
    · rw [if_pos c4] at H
      have c4b0 : decide (a0 < 0) = true := decide_eq_true c4
      clear c4
      (first | rw [c4b0] | (simp only [i64_w, i32_w]; rw [c4b0]) | skip)
      have H' := Aside0.mk H
      clear H
      go_wp2
      go_meet
      case rel => exact ⟨_, (true), (by first | rfl | (simp; done) | (simp [*]; done)), H', ⟨by first | omega | exact Nat.le_refl _⟩, ⟨by repeat (first | (with_reducible first | exact HB.out | apply below_alloc | apply pw_below_drewN | apply below_drew1) | exact HB.out)⟩⟩
    · rw [if_neg c4] at H
      have c4b0 : decide (a0 < 0) = false := decide_eq_false c4
      clear c4
      (first | rw [c4b0] | (simp only [i64_w, i32_w]; rw [c4b0]) | skip)
      have H' := Aside0.mk H
      clear H
      go_wp2
      go_meet
      case rel => exact ⟨_, (decide (a0 > 256)), (by first | rfl | (simp; done) | (simp [*]; done)), H', ⟨by first | omega | exact Nat.le_refl _⟩, ⟨by repeat (first | (with_reducible first | exact HB.out | apply below_alloc | apply pw_below_drewN | apply below_drew1) | exact HB.out)⟩⟩
  case rest =>
    clear HC3
    try clear p2
    try clear c4
    try clear c4b0
    obtain ⟨kq, x12_2, rfl, HA, HJ2, HB⟩ := hcut
    cases kq with
    | zero => exact absurd HA.out (by simp [identify_List.j0])
    | succ kj2 =>
      have H := HA.out
      clear HA
      simp only [identify_List.j0] at H
      have HC5 := Aside0.mk H
      clear H
      go_upto_if 12 with (fail)
      go_cut [0] (fun v0 wc => ∃ (kq : Nat) (x0_4 : Int), v0 = .int .i64 x0_4 ∧ Aside0 (identify_List.j1 kq x0_4 a1 = some r) ∧ Aside0 (kq ≤ kj2) ∧ Aside0 (Below w.heap.size w wc))
      case first =>
        have H := HC5.out
        clear HC5
        by_cases c6 : x12_2 = true
        · subst c6
          have H1 : (identify_List.j1 kj2 0 a1) = some r := by rw [if_pos rfl] at H; exact H
          clear H
          have H := H1
          clear H1
          have H' := Aside0.mk H
          clear H
          go_wp2
          go_meet
          case rel => exact ⟨_, (0), (by first | rfl | (simp; done) | (simp [*]; done)), H', ⟨by have := HJ2.out; first | omega | exact Nat.le_refl _⟩, ⟨by repeat (first | (with_reducible first | exact HB.out | apply below_alloc | apply pw_below_drewN | apply below_drew1) | exact HB.out)⟩⟩
        · replace c6 := Bool.eq_false_iff.mpr c6
          subst c6
          have H1 : (identify_List.j1 kj2 a0 a1) = some r := by rw [if_neg (show ¬ (false = true) by decide)] at H; exact H
          clear H
          have H := H1
          clear H1
          have H' := Aside0.mk H
          clear H
          go_wp2
          go_meet
          case rel => exact ⟨_, (a0), (by first | rfl | (simp; done) | (simp [*]; done)), H', ⟨by have := HJ2.out; first | omega | exact Nat.le_refl _⟩, ⟨by repeat (first | (with_reducible first | exact HB.out | apply below_alloc | apply pw_below_drewN | apply below_drew1) | exact HB.out)⟩⟩
      case rest =>
        clear HC5
        try clear p2
        try clear c4
        try clear c4b0
        try clear c6
        try clear p2
        obtain ⟨kq, x0_4, rfl, HA, HJ4, HB⟩ := hcut
        cases kq with
        | zero => exact absurd HA.out (by simp [identify_List.j1])
        | succ kj4 =>
          have H := HA.out
          clear HA
          simp only [identify_List.j1] at H
          obtain ⟨ji7, hji7⟩ : ∃ j_ : Int, (mx a1 0) = j_ := ⟨_, rfl⟩
          replace H : (identify_List.l0 kj4 x0_4 ([] : List (S34)) (wrap64 ((mn (ji7) x0_4) + 1))) = some r := by first | (rw [hji7] at H; exact H) | (simp only [hji7] at H ⊢; exact H)
          have hji7_ : (if a1 < 0 then 0 else a1) = ji7 := hji7
          obtain ⟨ji8, hji8⟩ : ∃ j_ : Int, (mn (ji7) x0_4) = j_ := ⟨_, rfl⟩
          replace H : (identify_List.l0 kj4 x0_4 ([] : List (S34)) (wrap64 ((ji8) + 1))) = some r := by first | (rw [hji8] at H; exact H) | (simp only [hji8] at H ⊢; exact H)
          have hji8_ : (if x0_4 < (ji7) then x0_4 else (ji7)) = ji8 := hji8
          have H' := Aside0.mk H
          clear H
          go_wp2
          go_loopg [5, 6] kj4 (fun kq v5 v6 w' => ∃ (x5_3 : List (S34)) (x6_3 : Int), v6 = .int .i64 x6_3 ∧ Aside0 (identify_List.l0 kq x0_4 x5_3 x6_3 = some r) ∧ Aside0 (kq ≤ kj4) ∧ Aside0 (Kd.R k34 34 w' w.heap.size (fun _ => True) v5 x5_3) ∧ Aside0 (Below w.heap.size w w'))
          case atStart => exact ⟨(([] : List (S34))), (wrap64 ((ji8) + 1)), (by first | rfl | (simp; done) | (simp only [← hji8] <;> (first | rfl | simp)) | (simp [*]; done)), H', ⟨Nat.le_refl _⟩, ⟨by first | exact Kd.R_nil _ _ _ _ _ | exact Kd.N_nil _ _ _ _ _ | exact Kd.V_nil _ _ _ _ _ | exact Kd.Q_nil _ _ _ _ _ | exact Kd.S_nil _ _ _ _ _⟩, ⟨by repeat (first | (with_reducible first | exact HB.out | apply below_alloc | apply pw_below_drewN | apply below_drew1) | exact HB.out)⟩⟩
          case round =>
            clear H'
            try clear p2
            try clear c4
            try clear c4b0
            try clear c6
            try clear p6
            try clear p2
            obtain ⟨x5_3, x6_3, rfl, HA, HK3, HO_5, HB⟩ := hrel
            cases gk with
            | zero => exact absurd HA.out (by simp [identify_List.l0])
            | succ k3 =>
              have H := HA.out
              clear HA
              simp only [identify_List.l0] at H
              by_cases c9 : x6_3 ≤ x0_4
              · rw [if_pos c9] at H
                have c9b0 : decide (x6_3 ≤ x0_4) = true := decide_eq_true c9
                clear c9
                replace H := Option.bind_eq_some_iff.mp H
                obtain ⟨⟨t117, t118⟩, A100, H⟩ := H
                replace H : (if x5_3.length < 5864062014805 then (identify_List.l0 k3 x0_4 (x5_3 ++ [(⟨t117, t118⟩ : S34)]) (wrap64 (x6_3 + 1))) else (none)) = some r := H
                have A10 := Aside0.mk A100
                clear A100
                by_cases c11 : x5_3.length < 5864062014805
                · rw [if_pos c11] at H
                  have LMc11 := Aside0.mk c11
                  clear c11
                  obtain ⟨y119, hy119⟩ : ∃ y_ : List (S34), y_ = (x5_3 ++ [(⟨t117, t118⟩ : S34)]) := ⟨_, rfl⟩
                  replace H : (identify_List.l0 k3 x0_4 y119 (wrap64 (x6_3 + 1))) = some r := by first | (rw [hy119]; with_reducible exact H) | (have H2_ := (Option.bind_some _ _).symm.trans H; rw [hy119]; with_reducible exact H2_) | (have H2_ := (Option.bind_some _ _).symm.trans H; with_reducible exact H2_) | with_reducible exact H | (rw [hy119]; exact H) | exact H
                  have Ny119 := Aside0.mk hy119
                  clear hy119
                  have H' := Aside0.mk H
                  clear H
                  obtain ⟨Ao12, co12, eo12⟩ := Kd.R_slice HO_5.out
                  subst eo12
                  go_wp2_with (first | ((with_reducible refine gate_callee (f := 13) rfl ?_); refine goesL_ (some 28) rfl rfl Try.func13 (by kernel_rfl) rfl #[.int .i64 (wrap64 (4 * (x5_3.length : Int))), .int .i64 x6_3, .int .i64 4] rfl (by (try simp only [List.map_toArray, List.map_cons, List.map_nil]); first | done | rfl | (simp only [List.length_drop, List.length_take]; rfl)) ?_; (with_reducible refine (identify_number.calls k3 (wrap64 (4 * (x5_3.length : Int))) x6_3 4 t117 t118 _ A10.out).mono ?_); rintro e w13 ⟨rfl, hb⟩; refine ⟨_, rfl, ?_⟩; have n0_ := Aside0.mk (Kd.R_below (by (with_reducible repeat (first | apply Kd.R_alloc | apply Kd.R_drewN | apply Kd.R_drew)); exact HO_5.out) hb); have n1_ := Aside0.mk (below_step (by repeat (first | (with_reducible first | exact HB.out | apply below_alloc | apply pw_below_drewN | apply below_drew1) | exact HB.out)) hb); clear HO_5; clear HB; have HO_5 := n0_; have HB := n1_; clear n0_ n1_; (try clear hb); (try clear hb2); (try clear hk); (try clear hi)) | ((with_reducible refine gate_builtin (b := .append) (xs := #[.tmp 23, .tmp 29]) rfl ?_); at_builtin; refine Kd.R_append k34 (w0 := w) w.heap.size rfl (.tmp 23) (.tmp 29) 32 34 (.agg #[(.int .i64 0), (.string ⟨#[]⟩)]) 24 rfl Try.underlying32 info34 rfl (by decide) (by omega) (.slice Ao12 x5_3.length co12) x5_3 (⟨t117, t118⟩ : S34) [.int .i64 t117, .string t118] (fun _ => True) (fun _ => False) rfl rfl ?aP (fun _ hk => hk.elim) ?aF ?aO ?aB ?aS ?aL ?_; (case aP => exact k34_mkM _ _ _ (⟨t117, t118⟩ : S34)); (case aB => exact (by repeat (first | (with_reducible first | exact HB.out | apply below_alloc | apply pw_below_drewN | apply below_drew1) | exact HB.out))); (case aF => exact (fun _ _ => trivial)); (case aO => exact (by (with_reducible repeat (first | apply Kd.R_alloc | apply Kd.R_drewN | apply Kd.R_drew)); exact HO_5.out)); (case aS => exact (below_size (by repeat (first | (with_reducible first | exact HB.out | apply below_alloc | apply pw_below_drewN | apply below_drew1) | exact HB.out)))); (case aL => have := LMc11.out; omega); intro v120 w14 ho hb hg hat; rw [← Ny119.out] at ho; have n0_ := Aside0.mk (hb); have n1_ := Aside0.mk (ho); clear HB; clear HO_5; have HB := n0_; have HO121 := n1_; clear n0_ n1_; clear ho hb hg hat))
                  go_roundg k3
                  case measure => have := HJ2.out; have := HJ4.out; have := HK3.out; omega
                  case rel => exact ⟨(y119), (wrap64 (x6_3 + 1)), (by first | rfl | (simp; done) | (simp [*]; done)), H', ⟨by have := HJ2.out; have := HJ4.out; have := HK3.out; omega⟩, ⟨by (with_reducible repeat (first | apply Kd.R_alloc | apply Kd.R_drewN | apply Kd.R_drew)); exact HO121.out⟩, ⟨by repeat (first | (with_reducible first | exact HB.out | apply below_alloc | apply pw_below_drewN | apply below_drew1) | exact HB.out)⟩⟩
                · rw [if_neg c11] at H
                  exact absurd H (by simp)
              · rw [if_neg c9] at H
                have c9b0 : decide (x6_3 ≤ x0_4) = false := decide_eq_false c9
                clear c9
                replace H := Option.bind_eq_some_iff.mp H
                obtain ⟨t122, A150, H⟩ := H
                replace H : (some t122) = some r := H
                have A15 := Aside0.mk A150
                clear A150
                obtain rfl := Option.some.inj H
                obtain ⟨Ao16, co16, eo16⟩ := Kd.R_slice HO_5.out
                subst eo16
                go_wp2_with (first | ((with_reducible refine gate_callee (f := 14) rfl ?_); refine goesL_ (some 32) rfl rfl Try.func14 (by kernel_rfl) rfl #[.slice Ao16 x5_3.length co16] rfl (by (try simp only [List.map_toArray, List.map_cons, List.map_nil]); first | done | rfl | (simp only [List.length_drop, List.length_take]; rfl)) ?_; (with_reducible refine (identify_page.calls _ _ x5_3 t122 _ ?side1 ?side2 A15.out).mono ?_); (case side1 => repeat (first | exact (Kd.R_reads' HO_5.out).2.2 | (with_reducible refine Kd.C_alloc ?_ _) | (with_reducible refine Kd.C_drewN ?_ _) | (with_reducible refine Kd.C_drew ?_))); (case side2 => exact (Kd.R_reads' HO_5.out).2.1); rintro e w17 ⟨rfl, hb⟩; refine ⟨_, rfl, ?_⟩; have n0_ := Aside0.mk (Kd.R_below (by (with_reducible repeat (first | apply Kd.R_alloc | apply Kd.R_drewN | apply Kd.R_drew)); exact HO_5.out) hb); have n1_ := Aside0.mk (below_step (by repeat (first | (with_reducible first | exact HB.out | apply below_alloc | apply pw_below_drewN | apply below_drew1) | exact HB.out)) hb); clear HO_5; clear HB; have HO_5 := n0_; have HB := n1_; clear n0_ n1_; (try clear hb); (try clear hb2); (try clear hk); (try clear hi)))
                go_ret
                exact ⟨by first | rfl | (simp [errW_none, errW_some] <;> rfl) | (simp only [← hji7, ← hji8]; first | rfl | (simp [errW_none, errW_some] <;> rfl)) | (simp [*, errW_none, errW_some] <;> rfl) | (simp [bt, *]; done) | (unfold bt; simp [*]; done), by repeat (first | (with_reducible first | exact HB.out | apply below_alloc | apply pw_below_drewN | apply below_drew1) | exact HB.out)⟩

/-! ### headgateref26_page: function 15 -/
def headgateref26_page.f  : Option (ByteArray) := if 4096 ≤ 281474976710656 then (some (strOfNums (List.replicate 4096 0))) else (none)
set_option maxHeartbeats 8000000 in
set_option maxRecDepth 100000 in
theorem headgateref26_page.calls  (r : ByteArray) (w : World) (h : headgateref26_page.f  = some r) :
    Calls Try.prog 15 #[] w fun e w' => e = .returned (.string r) ∧ Below w.heap.size w w' := by
  have HB := Aside0.mk (Below.refl w.heap.size w)
  have H : (if 4096 ≤ 281474976710656 then (some (strOfNums (List.replicate 4096 0))) else (none)) = some r := h
  clear h
  by_cases c1 : 4096 ≤ 281474976710656
  · rw [if_pos c1] at H
    have c1b0 := eq_true c1
    have c1b1 : decide (4096 ≤ 281474976710656) = true := decide_eq_true c1
    clear c1
    obtain ⟨y123, hy123⟩ : ∃ y_ : List Int, y_ = (List.replicate 4096 0) := ⟨_, rfl⟩
    replace H : (some (strOfNums y123)) = some r := by first | (rw [hy123]; with_reducible exact H) | (have H2_ := (Option.bind_some _ _).symm.trans H; rw [hy123]; with_reducible exact H2_) | (have H2_ := (Option.bind_some _ _).symm.trans H; with_reducible exact H2_) | with_reducible exact H | (rw [hy123]; exact H) | exact H
    have Ny123 := Aside0.mk hy123
    clear hy123
    obtain rfl := Option.some.inj H
    go_enter Try.func15, Try.ntmps15
    go_wp2_with (first | ((with_reducible refine gate_dst (N := 1) rfl ?_); refine Kd.R_make (Kd.int .u8) _ 5 rfl (N := 1) rfl 43 _ _ rfl 4096 rfl rfl Try.underlying43 (.int .u8 0) 1 info5 rfl (by decide) (by omega) 0 (ok := fun _ => True) (okp := fun _ => True) rfl (fun _ hk => hk) trivial (by omega) (by omega) (Below.refl _ _) (Nat.le_refl _) ?_; intro v124 w2 ho3 hb hg_ hnew_; clear hg_ hnew_; (first | rw [← Ny123.out] at ho3 | (simp only [Int.reduceToNat] at ho3; rw [← Ny123.out] at ho3)); have n0_ := Aside0.mk (Kd.R_lower ho3 (below_size (by repeat (first | (with_reducible first | exact HB.out | apply below_alloc | apply pw_below_drewN | apply below_drew1) | exact HB.out)))); have n1_ := Aside0.mk (below_step (by repeat (first | (with_reducible first | exact HB.out | apply below_alloc | apply pw_below_drewN | apply below_drew1) | exact HB.out)) hb); clear HB; have HO125 := n0_; have HB := n1_; clear n0_ n1_; clear hb ho3; have hcv4 := own_string (P := Try.prog) Try.underlying43 Try.underlying5 Try.underlying9 (Kd.own_of_R HO125.out)))
    go_ret
    exact ⟨by first | rfl | (simp [errW_none, errW_some] <;> rfl) | (simp [*, errW_none, errW_some] <;> rfl) | (simp [bt, *]; done) | (unfold bt; simp [*]; done), by repeat (first | (with_reducible first | exact HB.out | apply below_alloc | apply pw_below_drewN | apply below_drew1) | exact HB.out)⟩
  · rw [if_neg c1] at H
    exact absurd H (by simp)

/-! ### headgateref01_there: function 25 -/
def headgateref01_there.f (a0 : ByteArray) (a1 : Int) (a2 : Int) : Option (Bool) := if a1 ≥ 0 then (if a2 ≥ 0 then (if a1 ≤ (a0.size : Int) then (some (decide (a2 ≤ (wrap64 ((a0.size : Int) - a1))))) else (some false)) else (some false)) else (some false)
set_option maxHeartbeats 8000000 in
set_option maxRecDepth 100000 in
theorem headgateref01_there.calls (a0 : ByteArray) (a1 : Int) (a2 : Int) (r : Bool) (w : World) (h : headgateref01_there.f a0 a1 a2 = some r) :
    Calls Try.prog 25 #[.string a0, .int .i64 a1, .int .i64 a2] w fun e w' => e = .returned (.bool r) ∧ Drawn0 w w' := by
  have H : (if a1 ≥ 0 then (if a2 ≥ 0 then (if a1 ≤ (a0.size : Int) then (some (decide (a2 ≤ (wrap64 ((a0.size : Int) - a1))))) else (some false)) else (some false)) else (some false)) = some r := h
  clear h
  by_cases c4 : a1 ≥ 0
  · rw [if_pos c4] at H
    have c4b0 : decide (0 ≤ a1) = true := decide_eq_true c4
    clear c4
    by_cases c5 : a2 ≥ 0
    · rw [if_pos c5] at H
      have c5b0 : decide (0 ≤ a2) = true := decide_eq_true c5
      clear c5
      by_cases c6 : a1 ≤ (a0.size : Int)
      · rw [if_pos c6] at H
        have c6b0 : decide (a1 ≤ (a0.size : Int)) = true := decide_eq_true c6
        clear c6
        obtain rfl := Option.some.inj H
        go_enter Try.func25, Try.ntmps25
        go_wp2
        go_ret
        exact ⟨by first | rfl | (simp; done) | (simp [*]; done), by repeat (first | exact Drawn0.refl _ | apply Drawn0.step)⟩
      · rw [if_neg c6] at H
        have c6b0 : decide (a1 ≤ (a0.size : Int)) = false := decide_eq_false c6
        clear c6
        obtain rfl := Option.some.inj H
        go_enter Try.func25, Try.ntmps25
        go_wp2
        go_ret
        exact ⟨by first | rfl | (simp; done) | (simp [*]; done), by repeat (first | exact Drawn0.refl _ | apply Drawn0.step)⟩
    · rw [if_neg c5] at H
      have c5b0 : decide (0 ≤ a2) = false := decide_eq_false c5
      clear c5
      obtain rfl := Option.some.inj H
      go_enter Try.func25, Try.ntmps25
      go_wp2
      go_ret
      exact ⟨by first | rfl | (simp; done) | (simp [*]; done), by repeat (first | exact Drawn0.refl _ | apply Drawn0.step)⟩
  · rw [if_neg c4] at H
    have c4b0 : decide (0 ≤ a1) = false := decide_eq_false c4
    clear c4
    obtain rfl := Option.some.inj H
    go_enter Try.func25, Try.ntmps25
    go_wp2
    go_ret
    exact ⟨by first | rfl | (simp; done) | (simp [*]; done), by repeat (first | exact Drawn0.refl _ | apply Drawn0.step)⟩

end Go.Proofs.Ytmfbmioooafelaa.P
