-- written by this session's patched copy of the printer (wip/tools/patch_print.py); Lean checks it
import Derived.Test.YtmfbmioooafelaaPx0
import Derived.Test.YtmfbmioooafelaaPx1
import Derived.Test.YtmfbmioooafelaaPx2
namespace Go.Proofs.Ytmfbmioooafelaa.P
open Go.RowKit Go.Proofs.YtmfbmioooafelaaW.PrintWords Go.Proofs.YtmfbmioooafelaaW.PrintLast Go.Proofs.YtmfbmioooafelaaW.PrintMore
attribute [local go_sem] max2_int min2_int max_two min_two max_three min_three max_four min_four   -- for this text's walks alone
set_option linter.unusedVariables false
set_option linter.unusedSimpArgs false

/-! ### identify_Unit: function 9 -/
def identify_Unit.f (k : Nat) (a0_0 : Int) (a0_1 : ByteArray) : Option (ByteArray) := (identify_number.f k 0 (mx a0_0 0) 8).bind fun bt139 => ((identify_number.f k 8 (mx a0_0 0) 8).bind fun bt141 => ((identify_number.f k 16 (mx a0_0 0) 8).bind fun bt143 => ((identify_number.f k 31 127 1).bind fun bt145 => (if 0 ≤ (mn (a0_1.size : Int) 16) then (if (mn (a0_1.size : Int) 16) ≤ (a0_1.size : Int) then ((identify_number.f k 130 9 1).bind fun bt147 => ((identify_page.f (([(⟨bt139.1, bt139.2⟩ : S34), (⟨bt141.1, bt141.2⟩ : S34), (⟨bt143.1, bt143.2⟩ : S34), (⟨bt145.1, bt145.2⟩ : S34), (⟨104, a0_1.extract 0 ((mn (a0_1.size : Int) 16) : Int).toNat⟩ : S34), (⟨bt147.1, bt147.2⟩ : S34)] : List (S34)))).bind fun t152 => (some t152))) else (none)) else (none)))))
theorem identify_Unit.mono : ∀ a0 a1 k, LeO (identify_Unit.f k a0 a1) (identify_Unit.f (k + 1) a0 a1) := by
  intro a0 a1 k
  unfold identify_Unit.f
  repeat' first
      | (with_reducible exact identify_number.mono _ _ _ _)
      | (with_reducible exact LeO.refl _)
      | (with_reducible exact LeO.none _)
      | (with_reducible refine LeO.ite ?_ ?_)
      | (with_reducible refine LeO.bind ?_ (fun _ => ?_))
      | exact identify_number.mono _ _ _ _
      | exact LeO.none _
      | refine LeO.ite ?_ ?_
      | refine LeO.bind ?_ (fun _ => ?_)
def identify_Unit.T2 : Bool × List (List Nat × List Nat) := (true, [([], []), ([0], [0]), ([], []), ([2, 1], [2]), ([], []), ([4, 3], [4]), ([5], []), ([], []), ([7], [7]), ([], []), ([9], [9]), ([10], [10]), ([11], [11]), ([8, 12], [8, 12]), ([13], [13]), ([6], []), ([1, 3, 5, 6, 14, 15], [1, 3, 5, 6, 14, 15]), ([16, 15], [16]), ([17, 17, 0, 1, 2, 3, 4, 5, 6, 7, 8, 9, 10, 11, 12, 13, 14, 15, 16, 17], [17])])
def identify_Unit.B2 : List Nat := [0, 1, 0, 7, 0, 31, 63, 0, 128, 0, 512, 1536, 3584, 8064, 16256, 127, 65535, 131071, 262143]
theorem identify_Unit.tab2 : rtab .any (opsOf Try.f9 2) = identify_Unit.T2 := by kernel_rfl
theorem identify_Unit.bits2 : waitsOk identify_Unit.T2.2 identify_Unit.B2 = true := by kernel_rfl
set_option maxHeartbeats 8000000 in
set_option maxRecDepth 100000 in
theorem identify_Unit.calls (k : Nat) (a0_0 : Int) (a0_1 : ByteArray) (r : ByteArray) (w : World) (h : identify_Unit.f k a0_0 a0_1 = some r) :
    Calls Try.prog 9 #[.agg #[.int .i64 a0_0, .string a0_1]] w fun e w' => e = .returned (.string r) ∧ Below w.heap.size w w' := by
  have hu26 := Try.underlying26
  have hu34 := Try.underlying34
  have HB := Aside0.mk (Below.refl w.heap.size w)
  have H : ((identify_number.f k 0 (mx a0_0 0) 8).bind fun bt139 => ((identify_number.f k 8 (mx a0_0 0) 8).bind fun bt141 => ((identify_number.f k 16 (mx a0_0 0) 8).bind fun bt143 => ((identify_number.f k 31 127 1).bind fun bt145 => (if 0 ≤ (mn (a0_1.size : Int) 16) then (if (mn (a0_1.size : Int) 16) ≤ (a0_1.size : Int) then ((identify_number.f k 130 9 1).bind fun bt147 => ((identify_page.f (([(⟨bt139.1, bt139.2⟩ : S34), (⟨bt141.1, bt141.2⟩ : S34), (⟨bt143.1, bt143.2⟩ : S34), (⟨bt145.1, bt145.2⟩ : S34), (⟨104, a0_1.extract 0 ((mn (a0_1.size : Int) 16) : Int).toNat⟩ : S34), (⟨bt147.1, bt147.2⟩ : S34)] : List (S34)))).bind fun t152 => (some t152))) else (none)) else (none)))))) = some r := h
  clear h
  obtain ⟨ji2, hji2⟩ : ∃ j_ : Int, (mx a0_0 0) = j_ := ⟨_, rfl⟩
  replace H : ((identify_number.f k 0 (ji2) 8).bind fun bt139 => ((identify_number.f k 8 (ji2) 8).bind fun bt141 => ((identify_number.f k 16 (ji2) 8).bind fun bt143 => ((identify_number.f k 31 127 1).bind fun bt145 => (if 0 ≤ (mn (a0_1.size : Int) 16) then (if (mn (a0_1.size : Int) 16) ≤ (a0_1.size : Int) then ((identify_number.f k 130 9 1).bind fun bt147 => ((identify_page.f (([(⟨bt139.1, bt139.2⟩ : S34), (⟨bt141.1, bt141.2⟩ : S34), (⟨bt143.1, bt143.2⟩ : S34), (⟨bt145.1, bt145.2⟩ : S34), (⟨104, a0_1.extract 0 ((mn (a0_1.size : Int) 16) : Int).toNat⟩ : S34), (⟨bt147.1, bt147.2⟩ : S34)] : List (S34)))).bind fun t152 => (some t152))) else (none)) else (none)))))) = some r := by first | (rw [hji2] at H; exact H) | (simp only [hji2] at H ⊢; exact H)
  (try (have hji2l : 0 ≤ ji2 := by (rw [← hji2]; unfold mx; (repeat' split) <;> omega)))
  (try (have hji2m : 0 ≤ ji2 := by omega))
  have hji2_ : (if a0_0 < 0 then 0 else a0_0) = ji2 := hji2
  replace H := Option.bind_eq_some_iff.mp H
  obtain ⟨⟨t139, t140⟩, A30, H⟩ := H
  replace H : ((identify_number.f k 8 (ji2) 8).bind fun bt141 => ((identify_number.f k 16 (ji2) 8).bind fun bt143 => ((identify_number.f k 31 127 1).bind fun bt145 => (if 0 ≤ (mn (a0_1.size : Int) 16) then (if (mn (a0_1.size : Int) 16) ≤ (a0_1.size : Int) then ((identify_number.f k 130 9 1).bind fun bt147 => ((identify_page.f (([(⟨t139, t140⟩ : S34), (⟨bt141.1, bt141.2⟩ : S34), (⟨bt143.1, bt143.2⟩ : S34), (⟨bt145.1, bt145.2⟩ : S34), (⟨104, a0_1.extract 0 ((mn (a0_1.size : Int) 16) : Int).toNat⟩ : S34), (⟨bt147.1, bt147.2⟩ : S34)] : List (S34)))).bind fun t152 => (some t152))) else (none)) else (none))))) = some r := H
  have A3 := Aside0.mk A30
  clear A30
  replace H := Option.bind_eq_some_iff.mp H
  obtain ⟨⟨t141, t142⟩, A40, H⟩ := H
  replace H : ((identify_number.f k 16 (ji2) 8).bind fun bt143 => ((identify_number.f k 31 127 1).bind fun bt145 => (if 0 ≤ (mn (a0_1.size : Int) 16) then (if (mn (a0_1.size : Int) 16) ≤ (a0_1.size : Int) then ((identify_number.f k 130 9 1).bind fun bt147 => ((identify_page.f (([(⟨t139, t140⟩ : S34), (⟨t141, t142⟩ : S34), (⟨bt143.1, bt143.2⟩ : S34), (⟨bt145.1, bt145.2⟩ : S34), (⟨104, a0_1.extract 0 ((mn (a0_1.size : Int) 16) : Int).toNat⟩ : S34), (⟨bt147.1, bt147.2⟩ : S34)] : List (S34)))).bind fun t152 => (some t152))) else (none)) else (none)))) = some r := H
  have A4 := Aside0.mk A40
  clear A40
  replace H := Option.bind_eq_some_iff.mp H
  obtain ⟨⟨t143, t144⟩, A50, H⟩ := H
  replace H : ((identify_number.f k 31 127 1).bind fun bt145 => (if 0 ≤ (mn (a0_1.size : Int) 16) then (if (mn (a0_1.size : Int) 16) ≤ (a0_1.size : Int) then ((identify_number.f k 130 9 1).bind fun bt147 => ((identify_page.f (([(⟨t139, t140⟩ : S34), (⟨t141, t142⟩ : S34), (⟨t143, t144⟩ : S34), (⟨bt145.1, bt145.2⟩ : S34), (⟨104, a0_1.extract 0 ((mn (a0_1.size : Int) 16) : Int).toNat⟩ : S34), (⟨bt147.1, bt147.2⟩ : S34)] : List (S34)))).bind fun t152 => (some t152))) else (none)) else (none))) = some r := H
  have A5 := Aside0.mk A50
  clear A50
  replace H := Option.bind_eq_some_iff.mp H
  obtain ⟨⟨t145, t146⟩, A60, H⟩ := H
  replace H : (if 0 ≤ (mn (a0_1.size : Int) 16) then (if (mn (a0_1.size : Int) 16) ≤ (a0_1.size : Int) then ((identify_number.f k 130 9 1).bind fun bt147 => ((identify_page.f (([(⟨t139, t140⟩ : S34), (⟨t141, t142⟩ : S34), (⟨t143, t144⟩ : S34), (⟨t145, t146⟩ : S34), (⟨104, a0_1.extract 0 ((mn (a0_1.size : Int) 16) : Int).toNat⟩ : S34), (⟨bt147.1, bt147.2⟩ : S34)] : List (S34)))).bind fun t152 => (some t152))) else (none)) else (none)) = some r := H
  have A6 := Aside0.mk A60
  clear A60
  obtain ⟨ji7, hji7⟩ : ∃ j_ : Int, (mn (a0_1.size : Int) 16) = j_ := ⟨_, rfl⟩
  replace H : (if 0 ≤ (ji7) then (if (ji7) ≤ (a0_1.size : Int) then ((identify_number.f k 130 9 1).bind fun bt147 => ((identify_page.f (([(⟨t139, t140⟩ : S34), (⟨t141, t142⟩ : S34), (⟨t143, t144⟩ : S34), (⟨t145, t146⟩ : S34), (⟨104, a0_1.extract 0 ((ji7) : Int).toNat⟩ : S34), (⟨bt147.1, bt147.2⟩ : S34)] : List (S34)))).bind fun t152 => (some t152))) else (none)) else (none)) = some r := by first | (rw [hji7] at H; exact H) | (simp only [hji7] at H ⊢; exact H)
  (try rw [hji7] at A3)
  (try rw [hji7] at A4)
  (try rw [hji7] at A5)
  (try rw [hji7] at A6)
  (try (have hji7h : ji7 ≤ 16 := by (rw [← hji7]; unfold mn; (repeat' split) <;> omega)))
  (try (have hji7g : ji7 ≤ 64 := by omega))
  (try (have hji7l : 0 ≤ ji7 := by (rw [← hji7]; unfold mn; (repeat' split) <;> omega)))
  (try (have hji7m : 0 ≤ ji7 := by omega))
  have hji7_ : (if 16 < (a0_1.size : Int) then 16 else (a0_1.size : Int)) = ji7 := hji7
  by_cases c8 : 0 ≤ (ji7)
  · rw [if_pos c8] at H
    have c8b0 := eq_true c8
    have c8b1 : decide (0 ≤ (ji7)) = true := decide_eq_true c8
    clear c8
    by_cases c9 : (ji7) ≤ (a0_1.size : Int)
    · rw [if_pos c9] at H
      have c9b0 := eq_true c9
      have c9b1 : decide ((ji7) ≤ (a0_1.size : Int)) = true := decide_eq_true c9
      clear c9
      replace H := Option.bind_eq_some_iff.mp H
      obtain ⟨⟨t147, t148⟩, A100, H⟩ := H
      replace H : ((identify_page.f (([(⟨t139, t140⟩ : S34), (⟨t141, t142⟩ : S34), (⟨t143, t144⟩ : S34), (⟨t145, t146⟩ : S34), (⟨104, a0_1.extract 0 ((ji7) : Int).toNat⟩ : S34), (⟨t147, t148⟩ : S34)] : List (S34)))).bind fun t152 => (some t152)) = some r := H
      have A10 := Aside0.mk A100
      clear A100
      obtain ⟨y149, hy149⟩ : ∃ y_ : List (S34), y_ = (([(⟨t139, t140⟩ : S34), (⟨t141, t142⟩ : S34), (⟨t143, t144⟩ : S34), (⟨t145, t146⟩ : S34), (⟨104, a0_1.extract 0 ((ji7) : Int).toNat⟩ : S34), (⟨t147, t148⟩ : S34)] : List (S34))) := ⟨_, rfl⟩
      replace H : ((identify_page.f y149).bind fun t152 => (some t152)) = some r := by first | (rw [hy149]; with_reducible exact H) | (have H2_ := (Option.bind_some _ _).symm.trans H; rw [hy149]; with_reducible exact H2_) | (have H2_ := (Option.bind_some _ _).symm.trans H; with_reducible exact H2_) | with_reducible exact H | (rw [hy149]; exact H) | exact H
      have Ny149 := Aside0.mk hy149
      clear hy149
      replace H := Option.bind_eq_some_iff.mp H
      obtain ⟨t152, A110, H⟩ := H
      replace H : (some t152) = some r := H
      have A11 := Aside0.mk A110
      clear A110
      obtain rfl := Option.some.inj H
      go_enter Try.func9, Try.ntmps9
      try go_wp2_with (first | ((with_reducible refine gate_dst (N := 1) rfl ?_); refine box_event ?hg (N := 1) ?hd (cs := #[.int .i64 a0_0, .string a0_1]) (t := 26) ?hr ?_; (case hd => rfl); (case hg => rfl); (case hr => first | (go_simp; done) | (go_simp; rfl)); intro gb138 hg w12 hbox hb; have n0_ := Aside0.mk (below_step (by repeat (first | (with_reducible first | exact HB.out | apply below_alloc | apply pw_below_drewN | apply below_drew1) | exact HB.out)) hb); have n1_ := Aside0.mk (hbox); have n2_ := Aside0.mk ((by rw [hg]; exact (below_size (by repeat (first | (with_reducible first | exact HB.out | apply below_alloc | apply pw_below_drewN | apply below_drew1) | exact HB.out))) : w.heap.size ≤ gb138)); have n3_ := Aside0.mk ((by rw [hg]; exact (below_size (by repeat (first | (with_reducible first | exact HB.out | apply below_alloc | apply pw_below_drewN | apply below_drew1) | exact HB.out))) : w.heap.size ≤ gb138)); clear HB; have HB := n0_; have BK138 := n1_; have GW138 := n2_; have GE138 := n3_; clear n0_ n1_ n2_ n3_; clear hb hbox hg; have hcz13_0 : w12.cell? ⟨gb138, 0, none⟩ = some (.int .i64 a0_0) := (blk_cell BK138.out 0).trans rfl; have hcz13_1 : w12.cell? ⟨gb138, 1, none⟩ = some (.string a0_1) := (blk_cell BK138.out 1).trans rfl; have hfz13_0 := blk_frozen BK138.out 0; have hfz13_1 := blk_frozen BK138.out 1))
      have n0_ := Aside0.mk (blk_drew BK138.out)
      have n1_ := Aside0.mk (below_drew1 HB.out)
      clear BK138
      clear HB
      have BK138 := n0_
      have HB := n1_
      clear n0_ n1_
      refine start_ (n := 19) (S := fun w' => w'.cell? ⟨gb138, 0, none⟩ = some (.int .i64 a0_0) ∧ w'.cell? ⟨gb138, 1, none⟩ = some (.string a0_1)) (ds := []) #[false, false, false, false, false, false, false, false, false, false, false, false, false, false, false, false, false, false, false] (by kernel_rfl) rfl rfl ⟨(blk_cell BK138.out 0).trans rfl, (blk_cell BK138.out 1).trans rfl⟩ (fun hHeld => ?_); refine with_tabW identify_Unit.tab2 identify_Unit.bits2 (fun HT_ HW_ => ?_)
      generalize w12.drew = w14 at BK138 HB hHeld ⊢
      refine pure_ (i := 0) (N := some 7) (v := ?_) (a' := ?_) #[true, false, false, false, false, false, false, false, false, false, false, false, false, false, false, false, false, false, false] rfl rfl (any_of HT_.out (by kernel_rfl)) (fun _ _ _ h => h) (Or.inl ⟨by rfl, ?_⟩) ?_ ?_
      rotate_left
      · intro w'
        go_simp
        with_reducible rfl
      rotate_left
      · simp only [Act.put, List.setIfInBounds_toArray, List.set_cons_zero, List.set_cons_succ, i64_w, i32_w]
        rfl
      refine pure_ (i := 2) (N := some 9) (v := ?_) (a' := ?_) #[true, false, true, false, false, false, false, false, false, false, false, false, false, false, false, false, false, false, false] rfl rfl (any_of HT_.out (by kernel_rfl)) (fun _ _ _ h => h) (Or.inl ⟨by rfl, ?_⟩) ?_ ?_
      rotate_left
      · intro w'
        go_simp
        with_reducible rfl
      rotate_left
      · simp only [Act.put, List.setIfInBounds_toArray, List.set_cons_zero, List.set_cons_succ, i64_w, i32_w]
        rfl
      refine pure_ (i := 4) (N := some 11) (v := ?_) (a' := ?_) #[true, false, true, false, true, false, false, false, false, false, false, false, false, false, false, false, false, false, false] rfl rfl (any_of HT_.out (by kernel_rfl)) (fun _ _ _ h => h) (Or.inl ⟨by rfl, ?_⟩) ?_ ?_
      rotate_left
      · intro w'
        go_simp
        with_reducible rfl
      rotate_left
      · simp only [Act.put, List.setIfInBounds_toArray, List.set_cons_zero, List.set_cons_succ, i64_w, i32_w]
        rfl
      refine pure_ (i := 7) (N := some 14) (v := ?_) (a' := ?_) #[true, false, true, false, true, false, false, true, false, false, false, false, false, false, false, false, false, false, false] rfl rfl (any_of HT_.out (by kernel_rfl)) (fun _ _ _ h => h) (Or.inl ⟨by rfl, ?_⟩) ?_ ?_
      rotate_left
      · intro w'
        go_simp
        with_reducible rfl
      rotate_left
      · simp only [Act.put, List.setIfInBounds_toArray, List.set_cons_zero, List.set_cons_succ, i64_w, i32_w]
        rfl
      refine pure_ (i := 9) (N := some 16) (v := ?_) (a' := ?_) #[true, false, true, false, true, false, false, true, false, true, false, false, false, false, false, false, false, false, false] rfl rfl (any_of HT_.out (by kernel_rfl)) (fun _ _ _ h => h) (Or.inl ⟨by rfl, ?_⟩) ?_ ?_
      rotate_left
      · intro w'
        go_simp
        with_reducible rfl
      rotate_left
      · simp only [Act.put, List.setIfInBounds_toArray, List.set_cons_zero, List.set_cons_succ, i64_w, i32_w]
        rfl
      refine take_ (i := 8) (N := some 15) (v := ?_) (a' := ?_) #[true, false, true, false, true, false, false, true, true, true, false, false, false, false, false, false, false, false, false] rfl rfl (take_ofW HT_.out HW_.out (by kernel_rfl)) (fun _ _ _ h => h) (Or.inl ⟨by rfl, ?_⟩) hHeld ?_ ?_
      rotate_left
      · rintro w' ⟨s0, s1⟩
        go_simp
        with_reducible rfl
      rotate_left
      · simp only [Act.put, List.setIfInBounds_toArray, List.set_cons_zero, List.set_cons_succ, i64_w, i32_w]
        rfl
      refine take_ (i := 10) (N := some 17) (v := ?_) (a' := ?_) #[true, false, true, false, true, false, false, true, true, true, true, false, false, false, false, false, false, false, false] rfl rfl (take_ofW HT_.out HW_.out (by kernel_rfl)) (fun _ _ _ h => h) (Or.inl ⟨by rfl, ?_⟩) hHeld ?_ ?_
      rotate_left
      · rintro w' ⟨s0, s1⟩
        go_simp
        with_reducible rfl
      rotate_left
      · simp only [Act.put, List.setIfInBounds_toArray, List.set_cons_zero, List.set_cons_succ, i64_w, i32_w]
        rfl
      refine pure_ (i := 11) (N := some 18) (v := ?_) (a' := ?_) #[true, false, true, false, true, false, false, true, true, true, true, true, false, false, false, false, false, false, false] rfl rfl (any_of HT_.out (by kernel_rfl)) (fun _ _ _ h => h) (Or.inl ⟨by rfl, ?_⟩) ?_ ?_
      rotate_left
      · intro w'
        go_simp
        with_reducible rfl
      rotate_left
      · simp only [Act.put, List.setIfInBounds_toArray, List.set_cons_zero, List.set_cons_succ, i64_w, i32_w]
        rfl
      refine pure_ (i := 12) (N := some 19) (v := ?_) (a' := ?_) #[true, false, true, false, true, false, false, true, true, true, true, true, true, false, false, false, false, false, false] rfl rfl (any_of HT_.out (by kernel_rfl)) (fun _ _ _ h => h) (Or.inl ⟨by rfl, ?_⟩) ?_ ?_
      rotate_left
      · intro w'
        go_simp
        with_reducible rfl
      rotate_left
      · simp only [Act.put, List.setIfInBounds_toArray, List.set_cons_zero, List.set_cons_succ, i64_w, i32_w]
        rfl
      refine pure_ (i := 13) (N := some 20) (v := ?_) (a' := ?_) #[true, false, true, false, true, false, false, true, true, true, true, true, true, true, false, false, false, false, false] rfl rfl (any_of HT_.out (by kernel_rfl)) (fun _ _ _ h => h) (Or.inl ⟨by rfl, ?_⟩) ?_ ?_
      rotate_left
      · intro w'
        go_simp
        with_reducible rfl
      rotate_left
      · simp only [Act.put, List.setIfInBounds_toArray, List.set_cons_zero, List.set_cons_succ, i64_w, i32_w]
        rfl
      refine pure_ (i := 14) (N := some 21) (v := ?_) (a' := ?_) #[true, false, true, false, true, false, false, true, true, true, true, true, true, true, true, false, false, false, false] rfl rfl (any_of HT_.out (by kernel_rfl)) (fun _ _ _ h => h) (Or.inl ⟨by rfl, ?_⟩) ?_ ?_
      rotate_left
      · intro w'
        go_simp
        with_reducible rfl
      rotate_left
      · simp only [Act.put, List.setIfInBounds_toArray, List.set_cons_zero, List.set_cons_succ, i64_w, i32_w]
        rfl
      refine one_ (i := 1) (N := some 8) #[true, true, true, false, true, false, false, true, true, true, true, true, true, true, true, false, false, false, false] rfl rfl (one_of HT_.out (by kernel_rfl)) (by decide) (fun K hK => ?_)
      refine goes_ Try.func13 (by kernel_rfl) rfl #[.int .i64 0, .int .i64 ji2, .int .i64 8] (by rfl) rfl rfl (by (try simp only [List.map_toArray, List.map_cons, List.map_nil]); first | done | (simp only [hji2]; rfl) | rfl | (simp only [List.length_drop, List.length_take]; rfl)) ?_
      with_reducible refine (identify_number.calls k 0 ji2 8 t139 t140 _ A3.out).mono ?_
      rintro e w15 ⟨rfl, hb⟩
      refine ⟨_, rfl, ?_⟩
      have n0_ := Aside0.mk (blk_below (g := gb138) (o := .cells #[.int .i64 a0_0, .string a0_1] 26 (0, 0)) (by (with_reducible repeat (first | refine blk_drewN ?_ _ | refine blk_drew ?_ | refine blk_alloc ?_ _)); exact BK138.out) hb)
      have n1_ := Aside0.mk (below_step (by repeat (first | (with_reducible first | exact HB.out | apply below_alloc | apply pw_below_drewN | apply below_drew1 | refine below_set ?_ GE138.out) | exact HB.out)) hb)
      clear BK138
      clear HB
      have BK138 := n0_
      have HB := n1_
      clear n0_ n1_
      (try clear hb)
      (try clear hb2)
      (try clear hk)
      (try clear hi)
      refine hK.out _ _ ⟨(blk_cell BK138.out 0).trans rfl, (blk_cell BK138.out 1).trans rfl⟩ (fun hHeld => ?_)
      clear hK K
      refine norm_ (a' := ?_) ?_ ?_
      rotate_left
      · show Act.put _ (some 8) _ = _
        simp only [Act.put, List.setIfInBounds_toArray, List.set_cons_zero, List.set_cons_succ, i64_w, i32_w]
        rfl
      refine one_ (i := 3) (N := some 10) #[true, true, true, true, true, false, false, true, true, true, true, true, true, true, true, false, false, false, false] rfl rfl (one_of HT_.out (by kernel_rfl)) (by decide) (fun K hK => ?_)
      refine goes_ Try.func13 (by kernel_rfl) rfl #[.int .i64 8, .int .i64 ji2, .int .i64 8] (by rfl) rfl rfl (by (try simp only [List.map_toArray, List.map_cons, List.map_nil]); first | done | (simp only [hji2]; rfl) | rfl | (simp only [List.length_drop, List.length_take]; rfl)) ?_
      with_reducible refine (identify_number.calls k 8 ji2 8 t141 t142 _ A4.out).mono ?_
      rintro e w16 ⟨rfl, hb⟩
      refine ⟨_, rfl, ?_⟩
      have n0_ := Aside0.mk (blk_below (g := gb138) (o := .cells #[.int .i64 a0_0, .string a0_1] 26 (0, 0)) (by (with_reducible repeat (first | refine blk_drewN ?_ _ | refine blk_drew ?_ | refine blk_alloc ?_ _)); exact BK138.out) hb)
      have n1_ := Aside0.mk (below_step (by repeat (first | (with_reducible first | exact HB.out | apply below_alloc | apply pw_below_drewN | apply below_drew1 | refine below_set ?_ GE138.out) | exact HB.out)) hb)
      clear BK138
      clear HB
      have BK138 := n0_
      have HB := n1_
      clear n0_ n1_
      (try clear hb)
      (try clear hb2)
      (try clear hk)
      (try clear hi)
      refine hK.out _ _ ⟨(blk_cell BK138.out 0).trans rfl, (blk_cell BK138.out 1).trans rfl⟩ (fun hHeld => ?_)
      clear hK K
      refine norm_ (a' := ?_) ?_ ?_
      rotate_left
      · show Act.put _ (some 10) _ = _
        simp only [Act.put, List.setIfInBounds_toArray, List.set_cons_zero, List.set_cons_succ, i64_w, i32_w]
        rfl
      refine one_ (i := 5) (N := some 12) #[true, true, true, true, true, true, false, true, true, true, true, true, true, true, true, false, false, false, false] rfl rfl (one_of HT_.out (by kernel_rfl)) (by decide) (fun K hK => ?_)
      refine goes_ Try.func13 (by kernel_rfl) rfl #[.int .i64 16, .int .i64 ji2, .int .i64 8] (by rfl) rfl rfl (by (try simp only [List.map_toArray, List.map_cons, List.map_nil]); first | done | (simp only [hji2]; rfl) | rfl | (simp only [List.length_drop, List.length_take]; rfl)) ?_
      with_reducible refine (identify_number.calls k 16 ji2 8 t143 t144 _ A5.out).mono ?_
      rintro e w17 ⟨rfl, hb⟩
      refine ⟨_, rfl, ?_⟩
      have n0_ := Aside0.mk (blk_below (g := gb138) (o := .cells #[.int .i64 a0_0, .string a0_1] 26 (0, 0)) (by (with_reducible repeat (first | refine blk_drewN ?_ _ | refine blk_drew ?_ | refine blk_alloc ?_ _)); exact BK138.out) hb)
      have n1_ := Aside0.mk (below_step (by repeat (first | (with_reducible first | exact HB.out | apply below_alloc | apply pw_below_drewN | apply below_drew1 | refine below_set ?_ GE138.out) | exact HB.out)) hb)
      clear BK138
      clear HB
      have BK138 := n0_
      have HB := n1_
      clear n0_ n1_
      (try clear hb)
      (try clear hb2)
      (try clear hk)
      (try clear hi)
      refine hK.out _ _ ⟨(blk_cell BK138.out 0).trans rfl, (blk_cell BK138.out 1).trans rfl⟩ (fun hHeld => ?_)
      clear hK K
      refine norm_ (a' := ?_) ?_ ?_
      rotate_left
      · show Act.put _ (some 12) _ = _
        simp only [Act.put, List.setIfInBounds_toArray, List.set_cons_zero, List.set_cons_succ, i64_w, i32_w]
        rfl
      refine one_ (i := 6) (N := some 13) #[true, true, true, true, true, true, true, true, true, true, true, true, true, true, true, false, false, false, false] rfl rfl (one_of HT_.out (by kernel_rfl)) (by decide) (fun K hK => ?_)
      refine goes_ Try.func13 (by kernel_rfl) rfl #[.int .i64 31, .int .i64 127, .int .i64 1] (by rfl) rfl rfl (by (try simp only [List.map_toArray, List.map_cons, List.map_nil]); first | done | rfl | (simp only [List.length_drop, List.length_take]; rfl)) ?_
      with_reducible refine (identify_number.calls k 31 127 1 t145 t146 _ A6.out).mono ?_
      rintro e w18 ⟨rfl, hb⟩
      refine ⟨_, rfl, ?_⟩
      have n0_ := Aside0.mk (blk_below (g := gb138) (o := .cells #[.int .i64 a0_0, .string a0_1] 26 (0, 0)) (by (with_reducible repeat (first | refine blk_drewN ?_ _ | refine blk_drew ?_ | refine blk_alloc ?_ _)); exact BK138.out) hb)
      have n1_ := Aside0.mk (below_step (by repeat (first | (with_reducible first | exact HB.out | apply below_alloc | apply pw_below_drewN | apply below_drew1 | refine below_set ?_ GE138.out) | exact HB.out)) hb)
      clear BK138
      clear HB
      have BK138 := n0_
      have HB := n1_
      clear n0_ n1_
      (try clear hb)
      (try clear hb2)
      (try clear hk)
      (try clear hi)
      refine hK.out _ _ ⟨(blk_cell BK138.out 0).trans rfl, (blk_cell BK138.out 1).trans rfl⟩ (fun hHeld => ?_)
      clear hK K
      refine norm_ (a' := ?_) ?_ ?_
      rotate_left
      · show Act.put _ (some 13) _ = _
        simp only [Act.put, List.setIfInBounds_toArray, List.set_cons_zero, List.set_cons_succ, i64_w, i32_w]
        rfl
      refine one_ (i := 15) (N := some 22) #[true, true, true, true, true, true, true, true, true, true, true, true, true, true, true, true, false, false, false] rfl rfl (one_of HT_.out (by kernel_rfl)) (by decide) (fun K hK => ?_)
      refine goes_ Try.func13 (by kernel_rfl) rfl #[.int .i64 130, .int .i64 9, .int .i64 1] (by rfl) rfl rfl (by (try simp only [List.map_toArray, List.map_cons, List.map_nil]); first | done | rfl | (simp only [List.length_drop, List.length_take]; rfl)) ?_
      with_reducible refine (identify_number.calls k 130 9 1 t147 t148 _ A10.out).mono ?_
      rintro e w19 ⟨rfl, hb⟩
      refine ⟨_, rfl, ?_⟩
      have n0_ := Aside0.mk (blk_below (g := gb138) (o := .cells #[.int .i64 a0_0, .string a0_1] 26 (0, 0)) (by (with_reducible repeat (first | refine blk_drewN ?_ _ | refine blk_drew ?_ | refine blk_alloc ?_ _)); exact BK138.out) hb)
      have n1_ := Aside0.mk (below_step (by repeat (first | (with_reducible first | exact HB.out | apply below_alloc | apply pw_below_drewN | apply below_drew1 | refine below_set ?_ GE138.out) | exact HB.out)) hb)
      clear BK138
      clear HB
      have BK138 := n0_
      have HB := n1_
      clear n0_ n1_
      (try clear hb)
      (try clear hb2)
      (try clear hk)
      (try clear hi)
      refine hK.out _ _ ⟨(blk_cell BK138.out 0).trans rfl, (blk_cell BK138.out 1).trans rfl⟩ (fun hHeld => ?_)
      clear hK K
      refine norm_ (a' := ?_) ?_ ?_
      rotate_left
      · show Act.put _ (some 22) _ = _
        simp only [Act.put, List.setIfInBounds_toArray, List.set_cons_zero, List.set_cons_succ, i64_w, i32_w]
        rfl
      refine one_ (i := 16) (N := some 23) #[true, true, true, true, true, true, true, true, true, true, true, true, true, true, true, true, true, false, false] rfl rfl (one_of HT_.out (by kernel_rfl)) (by decide) (fun K hK => ?_)
      refine Kd.R_lit_step k34 _ 34 ?hg (N := 23) ?hd (xs := ([(⟨t139, t140⟩ : S34), (⟨t141, t142⟩ : S34), (⟨t143, t144⟩ : S34), (⟨t145, t146⟩ : S34), (⟨104, a0_1.extract 0 ((ji7) : Int).toNat⟩ : S34), (⟨t147, t148⟩ : S34)] : List (S34))) (inner := [.int .i64 t139, .string t140, .int .i64 t141, .string t142, .int .i64 t143, .string t144, .int .i64 t145, .string t146, .int .i64 104, .string (a0_1.extract 0 ((ji7) : Int).toNat), .int .i64 t147, .string t148]) (ok := fun _ => True) (okp := fun _ => True) ?hr ?hp (fun _ hk => hk) trivial (Below.refl _ _) (Nat.le_refl _) (by simp) ?_; (case hd => rfl); (case hg => rfl); (case hr => first | (go_simp; done) | (go_simp; rfl)); (case hp => exact (Reps.c2 (show Kd.M k34 _ _ _ (⟨t139, t140⟩ : S34) [.int .i64 t139, .string t140] from (k34_mkM _ _ _ (⟨t139, t140⟩ : S34) )) (Reps.c2 (show Kd.M k34 _ _ _ (⟨t141, t142⟩ : S34) [.int .i64 t141, .string t142] from (k34_mkM _ _ _ (⟨t141, t142⟩ : S34) )) (Reps.c2 (show Kd.M k34 _ _ _ (⟨t143, t144⟩ : S34) [.int .i64 t143, .string t144] from (k34_mkM _ _ _ (⟨t143, t144⟩ : S34) )) (Reps.c2 (show Kd.M k34 _ _ _ (⟨t145, t146⟩ : S34) [.int .i64 t145, .string t146] from (k34_mkM _ _ _ (⟨t145, t146⟩ : S34) )) (Reps.c2 (show Kd.M k34 _ _ _ (⟨104, a0_1.extract 0 ((ji7) : Int).toNat⟩ : S34) [.int .i64 104, .string (a0_1.extract 0 ((ji7) : Int).toNat)] from (k34_mkM _ _ _ (⟨104, a0_1.extract 0 ((ji7) : Int).toNat⟩ : S34) )) (Reps.c2 (show Kd.M k34 _ _ _ (⟨t147, t148⟩ : S34) [.int .i64 t147, .string t148] from (k34_mkM _ _ _ (⟨t147, t148⟩ : S34) )) (Reps.none _ _))))))))
      intro v150 w20 ho21 hb hg_ hnew_
      clear hg_ hnew_
      (first | rw [← Ny149.out] at ho21 | (simp only [Int.reduceToNat] at ho21; rw [← Ny149.out] at ho21))
      have n0_ := Aside0.mk (Kd.R_lower ho21 (below_size (by repeat (first | (with_reducible first | exact HB.out | apply below_alloc | apply pw_below_drewN | apply below_drew1 | refine below_set ?_ GE138.out) | exact HB.out))))
      have n1_ := Aside0.mk (blk_below (g := gb138) (o := .cells #[.int .i64 a0_0, .string a0_1] 26 (0, 0)) (by (with_reducible repeat (first | refine blk_drewN ?_ _ | refine blk_drew ?_ | refine blk_alloc ?_ _)); exact BK138.out) hb)
      have n2_ := Aside0.mk (below_step (by repeat (first | (with_reducible first | exact HB.out | apply below_alloc | apply pw_below_drewN | apply below_drew1 | refine below_set ?_ GE138.out) | exact HB.out)) hb)
      clear BK138
      clear HB
      have HO151 := n0_
      have BK138 := n1_
      have HB := n2_
      clear n0_ n1_ n2_
      clear hb ho21
      obtain ⟨Ao22, co22, eo22⟩ := Kd.R_slice HO151.out
      (first | subst eo22 | (injection eo22 with f1_ f2_ f3_; have f4_ := f1_.symm; have f5_ := f3_.symm; clear f1_ f2_ f3_; subst f4_; subst f5_))
      refine hK.out _ _ ⟨(blk_cell BK138.out 0).trans rfl, (blk_cell BK138.out 1).trans rfl⟩ (fun hHeld => ?_)
      clear hK K
      refine norm_ (a' := ?_) ?_ ?_
      rotate_left
      · show Act.put _ (some 23) _ = _
        simp only [Act.put, List.setIfInBounds_toArray, List.set_cons_zero, List.set_cons_succ, i64_w, i32_w]
        rfl
      refine one_ (i := 17) (N := some 24) #[true, true, true, true, true, true, true, true, true, true, true, true, true, true, true, true, true, true, false] rfl rfl (one_of HT_.out (by kernel_rfl)) (by decide) (fun K hK => ?_)
      refine goes_ Try.func14 (by kernel_rfl) rfl #[.slice Ao22 y149.length co22] (by rfl) rfl rfl (by (try simp only [List.map_toArray, List.map_cons, List.map_nil]); first | done | rfl | (simp only [List.length_drop, List.length_take]; rfl)) ?_
      with_reducible refine (identify_page.calls _ _ y149 t152 _ ?side1 ?side2 A11.out).mono ?_
      (case side1 => repeat (first | exact (Kd.R_reads' HO151.out).2.2 | (with_reducible refine Kd.C_alloc ?_ _) | (with_reducible refine Kd.C_drewN ?_ _) | (with_reducible refine Kd.C_drew ?_)))
      (case side2 => exact (Kd.R_reads' HO151.out).2.1)
      rintro e w23 ⟨rfl, hb⟩
      refine ⟨_, rfl, ?_⟩
      have n0_ := Aside0.mk (Kd.R_below (by (with_reducible repeat (first | apply Kd.R_alloc | apply Kd.R_drewN | apply Kd.R_drew)); exact HO151.out) hb)
      have n1_ := Aside0.mk (blk_below (g := gb138) (o := .cells #[.int .i64 a0_0, .string a0_1] 26 (0, 0)) (by (with_reducible repeat (first | refine blk_drewN ?_ _ | refine blk_drew ?_ | refine blk_alloc ?_ _)); exact BK138.out) hb)
      have n2_ := Aside0.mk (below_step (by repeat (first | (with_reducible first | exact HB.out | apply below_alloc | apply pw_below_drewN | apply below_drew1 | refine below_set ?_ GE138.out) | exact HB.out)) hb)
      clear HO151
      clear BK138
      clear HB
      have HO151 := n0_
      have BK138 := n1_
      have HB := n2_
      clear n0_ n1_ n2_
      (try clear hb)
      (try clear hb2)
      (try clear hk)
      (try clear hi)
      refine hK.out _ _ ⟨(blk_cell BK138.out 0).trans rfl, (blk_cell BK138.out 1).trans rfl⟩ (fun hHeld => ?_)
      clear hK K
      refine norm_ (a' := ?_) ?_ ?_
      rotate_left
      · show Act.put _ (some 24) _ = _
        simp only [Act.put, List.setIfInBounds_toArray, List.set_cons_zero, List.set_cons_succ, i64_w, i32_w]
        rfl
      refine pure_ (i := 18) (N := some 2) (v := ?_) (a' := ?_) #[true, true, true, true, true, true, true, true, true, true, true, true, true, true, true, true, true, true, true] rfl rfl (any_of HT_.out (by kernel_rfl)) (fun _ _ _ h => h) (Or.inl ⟨by rfl, ?_⟩) ?_ ?_
      rotate_left
      · intro w'
        go_simp
        with_reducible rfl
      rotate_left
      · simp only [Act.put, List.setIfInBounds_toArray, List.set_cons_zero, List.set_cons_succ, i64_w, i32_w]
        rfl
      refine done_ (done_of HT_.out (by kernel_rfl)) ?_
      try go_wp2
      go_ret
      exact ⟨by first | rfl | (simp [errW_none, errW_some] <;> rfl) | (simp only [← hji2, ← hji7]; first | rfl | (simp [errW_none, errW_some] <;> rfl)) | (simp [*, errW_none, errW_some] <;> rfl) | (simp [bt, *]; done) | (unfold bt; simp [*]; done), by repeat (first | (with_reducible first | exact HB.out | apply below_alloc | apply pw_below_drewN | apply below_drew1 | refine below_set ?_ GE138.out) | exact HB.out)⟩
    · rw [if_neg c9] at H
      exact absurd H (by simp)
  · rw [if_neg c8] at H
    exact absurd H (by simp)

/-! ### headgatelaw26_wakes: function 8 -/
def headgatelaw26_wakes.f (k : Nat)  : Option (Bool) := (identify_List.f k 3 1).bind fun t153 => (if (t153.size : Int) = 4096 then (if 0 < (t153.size : Int) then (if (bt t153 0) = 2 then (if 4 < (t153.size : Int) then (if (bt t153 4) = 3 then (if 8 < (t153.size : Int) then (if (bt t153 8) = 0 then ((identify_Unit.f k 5 (⟨#[]⟩ : ByteArray)).bind fun t154 => (if (t154.size : Int) = 4096 then ((identify_Unit.f k 5 (⟨#[]⟩ : ByteArray)).bind fun t154 => (if 0 < (t154.size : Int) then (some ((bt t154 0) == 5)) else (none))) else (some false))) else (some false)) else (none)) else (some false)) else (none)) else (some false)) else (none)) else (some false))
theorem headgatelaw26_wakes.mono : ∀ k, LeO (headgatelaw26_wakes.f k ) (headgatelaw26_wakes.f (k + 1) ) := by
  intro  k
  unfold headgatelaw26_wakes.f
  repeat' first
      | (with_reducible exact identify_List.mono _ _ _)
      | (with_reducible exact identify_Unit.mono _ _ _)
      | (with_reducible exact LeO.refl _)
      | (with_reducible exact LeO.none _)
      | (with_reducible refine LeO.ite ?_ ?_)
      | (with_reducible refine LeO.bind ?_ (fun _ => ?_))
      | exact identify_List.mono _ _ _
      | exact identify_Unit.mono _ _ _
      | exact LeO.none _
      | refine LeO.ite ?_ ?_
      | refine LeO.bind ?_ (fun _ => ?_)
set_option maxHeartbeats 8000000 in
set_option maxRecDepth 100000 in
theorem headgatelaw26_wakes.calls (k : Nat)  (r : Bool) (w : World) (h : headgatelaw26_wakes.f k  = some r) :
    Calls Try.prog 8 #[] w fun e w' => e = .returned (.bool r) ∧ Below w.heap.size w w' := by
  have hu26 := Try.underlying26
  have HB := Aside0.mk (Below.refl w.heap.size w)
  have H : ((identify_List.f k 3 1).bind fun t153 => (if (t153.size : Int) = 4096 then (if 0 < (t153.size : Int) then (if (bt t153 0) = 2 then (if 4 < (t153.size : Int) then (if (bt t153 4) = 3 then (if 8 < (t153.size : Int) then (if (bt t153 8) = 0 then ((identify_Unit.f k 5 (⟨#[]⟩ : ByteArray)).bind fun t154 => (if (t154.size : Int) = 4096 then ((identify_Unit.f k 5 (⟨#[]⟩ : ByteArray)).bind fun t154 => (if 0 < (t154.size : Int) then (some ((bt t154 0) == 5)) else (none))) else (some false))) else (some false)) else (none)) else (some false)) else (none)) else (some false)) else (none)) else (some false))) = some r := h
  clear h
  replace H := Option.bind_eq_some_iff.mp H
  obtain ⟨t153, A10, H⟩ := H
  replace H : (if (t153.size : Int) = 4096 then (if 0 < (t153.size : Int) then (if (bt t153 0) = 2 then (if 4 < (t153.size : Int) then (if (bt t153 4) = 3 then (if 8 < (t153.size : Int) then (if (bt t153 8) = 0 then ((identify_Unit.f k 5 (⟨#[]⟩ : ByteArray)).bind fun t154 => (if (t154.size : Int) = 4096 then ((identify_Unit.f k 5 (⟨#[]⟩ : ByteArray)).bind fun t154 => (if 0 < (t154.size : Int) then (some ((bt t154 0) == 5)) else (none))) else (some false))) else (some false)) else (none)) else (some false)) else (none)) else (some false)) else (none)) else (some false)) = some r := H
  have A1 := Aside0.mk A10
  clear A10
  by_cases c2 : (t153.size : Int) = 4096
  · rw [if_pos c2] at H
    have c2b0 : ((t153.size : Int) == 4096) = true := beq_iff_eq.mpr c2
    have c2b1 : ((t153.size : Int) != 4096) = false := bne_eq_false_iff_eq.mpr c2
    clear c2
    by_cases c3 : 0 < (t153.size : Int)
    · rw [if_pos c3] at H
      have c3b0 : decide (0 < (t153.size : Int)) = true := decide_eq_true c3
      have c3b1 : decide (0 < t153.size) = true := decide_eq_true (by omega)
      clear c3
      by_cases c5 : (bt t153 0) = 2
      · rw [if_pos c5] at H
        have c5b0 : ((bt t153 0) == 2) = true := beq_iff_eq.mpr c5
        have c5b1 : ((bt t153 0) != 2) = false := bne_eq_false_iff_eq.mpr c5
        clear c5
        by_cases c6 : 4 < (t153.size : Int)
        · rw [if_pos c6] at H
          have c6b0 : decide (4 < (t153.size : Int)) = true := decide_eq_true c6
          have c6b1 : decide (4 < t153.size) = true := decide_eq_true (by omega)
          clear c6
          by_cases c8 : (bt t153 4) = 3
          · rw [if_pos c8] at H
            have c8b0 : ((bt t153 4) == 3) = true := beq_iff_eq.mpr c8
            have c8b1 : ((bt t153 4) != 3) = false := bne_eq_false_iff_eq.mpr c8
            clear c8
            by_cases c9 : 8 < (t153.size : Int)
            · rw [if_pos c9] at H
              have c9b0 : decide (8 < (t153.size : Int)) = true := decide_eq_true c9
              have c9b1 : decide (8 < t153.size) = true := decide_eq_true (by omega)
              clear c9
              by_cases c11 : (bt t153 8) = 0
              · rw [if_pos c11] at H
                have c11b0 : ((bt t153 8) == 0) = true := beq_iff_eq.mpr c11
                have c11b1 : ((bt t153 8) != 0) = false := bne_eq_false_iff_eq.mpr c11
                clear c11
                replace H := Option.bind_eq_some_iff.mp H
                obtain ⟨t154, A120, H⟩ := H
                replace H : (if (t154.size : Int) = 4096 then ((identify_Unit.f k 5 (⟨#[]⟩ : ByteArray)).bind fun t154 => (if 0 < (t154.size : Int) then (some ((bt t154 0) == 5)) else (none))) else (some false)) = some r := H
                have A12 := Aside0.mk A120
                clear A120
                by_cases c13 : (t154.size : Int) = 4096
                · rw [if_pos c13] at H
                  have c13b0 : ((t154.size : Int) == 4096) = true := beq_iff_eq.mpr c13
                  have c13b1 : ((t154.size : Int) != 4096) = false := bne_eq_false_iff_eq.mpr c13
                  clear c13
                  replace H := Option.bind_eq_some_iff.mp H
                  obtain ⟨t154, A140, H⟩ := H
                  have e_ := A140.symm.trans A12.out
                  simp only [Option.some.injEq, Prod.mk.injEq] at e_
                  obtain rfl := e_
                  replace H : (if 0 < (t154.size : Int) then (some ((bt t154 0) == 5)) else (none)) = some r := H
                  have A14 := Aside0.mk A140
                  clear A140
                  by_cases c15 : 0 < (t154.size : Int)
                  · rw [if_pos c15] at H
                    have c15b0 : decide (0 < (t154.size : Int)) = true := decide_eq_true c15
                    have c15b1 : decide (0 < t154.size) = true := decide_eq_true (by omega)
                    clear c15
                    have p16 : 0 ≤ (0 : Int) := (by omega)
                    have q16 : 0 < t154.size := (by have : (0 : Int) < (t154.size : Int) := of_decide_eq_true (by first | (with_reducible assumption) | assumption); omega)
                    have hx16 : ∀ h : 0 < t154.size, ((t154[0]'h).toNat : Int) = bt t154 0 := bt_at t154 0
                    clear p16
                    have qi16 : (0 < (t154.size : Int)) = True := eq_true (of_decide_eq_true (by first | (with_reducible assumption) | assumption))
                    replace q16 := eq_true q16
                    obtain rfl := Option.some.inj H
                    go_enter Try.func8, Try.ntmps8
                    go_wp2_with (first | ((with_reducible refine gate_callee (f := 6) rfl ?_); refine goesL_ (some 2) rfl rfl Try.func6 (by kernel_rfl) rfl #[.int .i64 3, .int .i64 1] rfl (by (try simp only [List.map_toArray, List.map_cons, List.map_nil]); first | done | rfl | (simp only [List.length_drop, List.length_take]; rfl)) ?_; (with_reducible refine (identify_List.calls k 3 1 t153 _ A1.out).mono ?_); rintro e w17 ⟨rfl, hb⟩; refine ⟨_, rfl, ?_⟩; have n0_ := Aside0.mk (below_step (by repeat (first | (with_reducible first | exact HB.out | apply below_alloc | apply pw_below_drewN | apply below_drew1) | exact HB.out)) hb); clear HB; have HB := n0_; clear n0_; (try clear hb); (try clear hb2); (try clear hk); (try clear hi); have p4 : 0 ≤ (0 : Int) := (by omega); have q4 : 0 < t153.size := (by have : (0 : Int) < (t153.size : Int) := of_decide_eq_true (by first | (with_reducible assumption) | assumption); omega); have hx4 : ∀ h : 0 < t153.size, ((t153[0]'h).toNat : Int) = bt t153 0 := bt_at t153 0; clear p4; have qi4 : (0 < (t153.size : Int)) = True := eq_true (of_decide_eq_true (by first | (with_reducible assumption) | assumption)); replace q4 := eq_true q4; have p7 : 0 ≤ (4 : Int) := (by omega); have q7 : 4 < t153.size := (by have : (4 : Int) < (t153.size : Int) := of_decide_eq_true (by first | (with_reducible assumption) | assumption); omega); have hx7 : ∀ h : 4 < t153.size, ((t153[4]'h).toNat : Int) = bt t153 4 := bt_at t153 4; clear p7; have qi7 : (4 < (t153.size : Int)) = True := eq_true (of_decide_eq_true (by first | (with_reducible assumption) | assumption)); replace q7 := eq_true q7; have p10 : 0 ≤ (8 : Int) := (by omega); have q10 : 8 < t153.size := (by have : (8 : Int) < (t153.size : Int) := of_decide_eq_true (by first | (with_reducible assumption) | assumption); omega); have hx10 : ∀ h : 8 < t153.size, ((t153[8]'h).toNat : Int) = bt t153 8 := bt_at t153 8; clear p10; have qi10 : (8 < (t153.size : Int)) = True := eq_true (of_decide_eq_true (by first | (with_reducible assumption) | assumption)); replace q10 := eq_true q10) | (go_at_call 9; (with_reducible refine (identify_Unit.calls k 5 (⟨#[]⟩ : ByteArray) t154 _ A12.out).mono ?_); rintro e w18 ⟨rfl, hb⟩; have n0_ := Aside0.mk (below_step (by repeat (first | (with_reducible first | exact HB.out | apply below_alloc | apply pw_below_drewN | apply below_drew1) | exact HB.out)) hb); clear HB; have HB := n0_; clear n0_; (try clear hb); (try clear hb2); (try clear hk); (try clear hi)) | (go_at_call 9; (with_reducible refine (identify_Unit.calls k 5 (⟨#[]⟩ : ByteArray) t154 _ A14.out).mono ?_); rintro e w19 ⟨rfl, hb⟩; have n0_ := Aside0.mk (below_step (by repeat (first | (with_reducible first | exact HB.out | apply below_alloc | apply pw_below_drewN | apply below_drew1) | exact HB.out)) hb); clear HB; have HB := n0_; clear n0_; (try clear hb); (try clear hb2); (try clear hk); (try clear hi); have p16 : 0 ≤ (0 : Int) := (by omega); have q16 : 0 < t154.size := (by have : (0 : Int) < (t154.size : Int) := of_decide_eq_true (by first | (with_reducible assumption) | assumption); omega); have hx16 : ∀ h : 0 < t154.size, ((t154[0]'h).toNat : Int) = bt t154 0 := bt_at t154 0; clear p16; have qi16 : (0 < (t154.size : Int)) = True := eq_true (of_decide_eq_true (by first | (with_reducible assumption) | assumption)); replace q16 := eq_true q16))
                    go_ret
                    exact ⟨by first | rfl | (simp [errW_none, errW_some] <;> rfl) | (simp [*, errW_none, errW_some] <;> rfl) | (simp [bt, *]; done) | (unfold bt; simp [*]; done), by repeat (first | (with_reducible first | exact HB.out | apply below_alloc | apply pw_below_drewN | apply below_drew1) | exact HB.out)⟩
                  · rw [if_neg c15] at H
                    exact absurd H (by simp)
                · rw [if_neg c13] at H
                  have c13b0 : ((t154.size : Int) == 4096) = false := beq_eq_false_iff_ne.mpr c13
                  have c13b1 : ((t154.size : Int) != 4096) = true := bne_iff_ne.mpr c13
                  obtain rfl := Option.some.inj H
                  go_enter Try.func8, Try.ntmps8
                  go_wp2_with (first | ((with_reducible refine gate_callee (f := 6) rfl ?_); refine goesL_ (some 2) rfl rfl Try.func6 (by kernel_rfl) rfl #[.int .i64 3, .int .i64 1] rfl (by (try simp only [List.map_toArray, List.map_cons, List.map_nil]); first | done | rfl | (simp only [List.length_drop, List.length_take]; rfl)) ?_; (with_reducible refine (identify_List.calls k 3 1 t153 _ A1.out).mono ?_); rintro e w20 ⟨rfl, hb⟩; refine ⟨_, rfl, ?_⟩; have n0_ := Aside0.mk (below_step (by repeat (first | (with_reducible first | exact HB.out | apply below_alloc | apply pw_below_drewN | apply below_drew1) | exact HB.out)) hb); clear HB; have HB := n0_; clear n0_; (try clear hb); (try clear hb2); (try clear hk); (try clear hi); have p4 : 0 ≤ (0 : Int) := (by omega); have q4 : 0 < t153.size := (by have : (0 : Int) < (t153.size : Int) := of_decide_eq_true (by first | (with_reducible assumption) | assumption); omega); have hx4 : ∀ h : 0 < t153.size, ((t153[0]'h).toNat : Int) = bt t153 0 := bt_at t153 0; clear p4; have qi4 : (0 < (t153.size : Int)) = True := eq_true (of_decide_eq_true (by first | (with_reducible assumption) | assumption)); replace q4 := eq_true q4; have p7 : 0 ≤ (4 : Int) := (by omega); have q7 : 4 < t153.size := (by have : (4 : Int) < (t153.size : Int) := of_decide_eq_true (by first | (with_reducible assumption) | assumption); omega); have hx7 : ∀ h : 4 < t153.size, ((t153[4]'h).toNat : Int) = bt t153 4 := bt_at t153 4; clear p7; have qi7 : (4 < (t153.size : Int)) = True := eq_true (of_decide_eq_true (by first | (with_reducible assumption) | assumption)); replace q7 := eq_true q7; have p10 : 0 ≤ (8 : Int) := (by omega); have q10 : 8 < t153.size := (by have : (8 : Int) < (t153.size : Int) := of_decide_eq_true (by first | (with_reducible assumption) | assumption); omega); have hx10 : ∀ h : 8 < t153.size, ((t153[8]'h).toNat : Int) = bt t153 8 := bt_at t153 8; clear p10; have qi10 : (8 < (t153.size : Int)) = True := eq_true (of_decide_eq_true (by first | (with_reducible assumption) | assumption)); replace q10 := eq_true q10) | (go_at_call 9; (with_reducible refine (identify_Unit.calls k 5 (⟨#[]⟩ : ByteArray) t154 _ A12.out).mono ?_); rintro e w21 ⟨rfl, hb⟩; have n0_ := Aside0.mk (below_step (by repeat (first | (with_reducible first | exact HB.out | apply below_alloc | apply pw_below_drewN | apply below_drew1) | exact HB.out)) hb); clear HB; have HB := n0_; clear n0_; (try clear hb); (try clear hb2); (try clear hk); (try clear hi)))
                  go_ret
                  exact ⟨by first | rfl | (simp [errW_none, errW_some] <;> rfl) | (simp [*, errW_none, errW_some] <;> rfl) | (simp [bt, *]; done) | (unfold bt; simp [*]; done), by repeat (first | (with_reducible first | exact HB.out | apply below_alloc | apply pw_below_drewN | apply below_drew1) | exact HB.out)⟩
              · rw [if_neg c11] at H
                have c11b0 : ((bt t153 8) == 0) = false := beq_eq_false_iff_ne.mpr c11
                have c11b1 : ((bt t153 8) != 0) = true := bne_iff_ne.mpr c11
                obtain rfl := Option.some.inj H
                go_enter Try.func8, Try.ntmps8
                go_wp2_with (first | ((with_reducible refine gate_callee (f := 6) rfl ?_); refine goesL_ (some 2) rfl rfl Try.func6 (by kernel_rfl) rfl #[.int .i64 3, .int .i64 1] rfl (by (try simp only [List.map_toArray, List.map_cons, List.map_nil]); first | done | rfl | (simp only [List.length_drop, List.length_take]; rfl)) ?_; (with_reducible refine (identify_List.calls k 3 1 t153 _ A1.out).mono ?_); rintro e w22 ⟨rfl, hb⟩; refine ⟨_, rfl, ?_⟩; have n0_ := Aside0.mk (below_step (by repeat (first | (with_reducible first | exact HB.out | apply below_alloc | apply pw_below_drewN | apply below_drew1) | exact HB.out)) hb); clear HB; have HB := n0_; clear n0_; (try clear hb); (try clear hb2); (try clear hk); (try clear hi); have p4 : 0 ≤ (0 : Int) := (by omega); have q4 : 0 < t153.size := (by have : (0 : Int) < (t153.size : Int) := of_decide_eq_true (by first | (with_reducible assumption) | assumption); omega); have hx4 : ∀ h : 0 < t153.size, ((t153[0]'h).toNat : Int) = bt t153 0 := bt_at t153 0; clear p4; have qi4 : (0 < (t153.size : Int)) = True := eq_true (of_decide_eq_true (by first | (with_reducible assumption) | assumption)); replace q4 := eq_true q4; have p7 : 0 ≤ (4 : Int) := (by omega); have q7 : 4 < t153.size := (by have : (4 : Int) < (t153.size : Int) := of_decide_eq_true (by first | (with_reducible assumption) | assumption); omega); have hx7 : ∀ h : 4 < t153.size, ((t153[4]'h).toNat : Int) = bt t153 4 := bt_at t153 4; clear p7; have qi7 : (4 < (t153.size : Int)) = True := eq_true (of_decide_eq_true (by first | (with_reducible assumption) | assumption)); replace q7 := eq_true q7; have p10 : 0 ≤ (8 : Int) := (by omega); have q10 : 8 < t153.size := (by have : (8 : Int) < (t153.size : Int) := of_decide_eq_true (by first | (with_reducible assumption) | assumption); omega); have hx10 : ∀ h : 8 < t153.size, ((t153[8]'h).toNat : Int) = bt t153 8 := bt_at t153 8; clear p10; have qi10 : (8 < (t153.size : Int)) = True := eq_true (of_decide_eq_true (by first | (with_reducible assumption) | assumption)); replace q10 := eq_true q10))
                go_ret
                exact ⟨by first | rfl | (simp [errW_none, errW_some] <;> rfl) | (simp [*, errW_none, errW_some] <;> rfl) | (simp [bt, *]; done) | (unfold bt; simp [*]; done), by repeat (first | (with_reducible first | exact HB.out | apply below_alloc | apply pw_below_drewN | apply below_drew1) | exact HB.out)⟩
            · rw [if_neg c9] at H
              exact absurd H (by simp)
          · rw [if_neg c8] at H
            have c8b0 : ((bt t153 4) == 3) = false := beq_eq_false_iff_ne.mpr c8
            have c8b1 : ((bt t153 4) != 3) = true := bne_iff_ne.mpr c8
            obtain rfl := Option.some.inj H
            go_enter Try.func8, Try.ntmps8
            go_wp2_with (first | ((with_reducible refine gate_callee (f := 6) rfl ?_); refine goesL_ (some 2) rfl rfl Try.func6 (by kernel_rfl) rfl #[.int .i64 3, .int .i64 1] rfl (by (try simp only [List.map_toArray, List.map_cons, List.map_nil]); first | done | rfl | (simp only [List.length_drop, List.length_take]; rfl)) ?_; (with_reducible refine (identify_List.calls k 3 1 t153 _ A1.out).mono ?_); rintro e w23 ⟨rfl, hb⟩; refine ⟨_, rfl, ?_⟩; have n0_ := Aside0.mk (below_step (by repeat (first | (with_reducible first | exact HB.out | apply below_alloc | apply pw_below_drewN | apply below_drew1) | exact HB.out)) hb); clear HB; have HB := n0_; clear n0_; (try clear hb); (try clear hb2); (try clear hk); (try clear hi); have p4 : 0 ≤ (0 : Int) := (by omega); have q4 : 0 < t153.size := (by have : (0 : Int) < (t153.size : Int) := of_decide_eq_true (by first | (with_reducible assumption) | assumption); omega); have hx4 : ∀ h : 0 < t153.size, ((t153[0]'h).toNat : Int) = bt t153 0 := bt_at t153 0; clear p4; have qi4 : (0 < (t153.size : Int)) = True := eq_true (of_decide_eq_true (by first | (with_reducible assumption) | assumption)); replace q4 := eq_true q4; have p7 : 0 ≤ (4 : Int) := (by omega); have q7 : 4 < t153.size := (by have : (4 : Int) < (t153.size : Int) := of_decide_eq_true (by first | (with_reducible assumption) | assumption); omega); have hx7 : ∀ h : 4 < t153.size, ((t153[4]'h).toNat : Int) = bt t153 4 := bt_at t153 4; clear p7; have qi7 : (4 < (t153.size : Int)) = True := eq_true (of_decide_eq_true (by first | (with_reducible assumption) | assumption)); replace q7 := eq_true q7))
            go_ret
            exact ⟨by first | rfl | (simp [errW_none, errW_some] <;> rfl) | (simp [*, errW_none, errW_some] <;> rfl) | (simp [bt, *]; done) | (unfold bt; simp [*]; done), by repeat (first | (with_reducible first | exact HB.out | apply below_alloc | apply pw_below_drewN | apply below_drew1) | exact HB.out)⟩
        · rw [if_neg c6] at H
          exact absurd H (by simp)
      · rw [if_neg c5] at H
        have c5b0 : ((bt t153 0) == 2) = false := beq_eq_false_iff_ne.mpr c5
        have c5b1 : ((bt t153 0) != 2) = true := bne_iff_ne.mpr c5
        obtain rfl := Option.some.inj H
        go_enter Try.func8, Try.ntmps8
        go_wp2_with (first | ((with_reducible refine gate_callee (f := 6) rfl ?_); refine goesL_ (some 2) rfl rfl Try.func6 (by kernel_rfl) rfl #[.int .i64 3, .int .i64 1] rfl (by (try simp only [List.map_toArray, List.map_cons, List.map_nil]); first | done | rfl | (simp only [List.length_drop, List.length_take]; rfl)) ?_; (with_reducible refine (identify_List.calls k 3 1 t153 _ A1.out).mono ?_); rintro e w24 ⟨rfl, hb⟩; refine ⟨_, rfl, ?_⟩; have n0_ := Aside0.mk (below_step (by repeat (first | (with_reducible first | exact HB.out | apply below_alloc | apply pw_below_drewN | apply below_drew1) | exact HB.out)) hb); clear HB; have HB := n0_; clear n0_; (try clear hb); (try clear hb2); (try clear hk); (try clear hi); have p4 : 0 ≤ (0 : Int) := (by omega); have q4 : 0 < t153.size := (by have : (0 : Int) < (t153.size : Int) := of_decide_eq_true (by first | (with_reducible assumption) | assumption); omega); have hx4 : ∀ h : 0 < t153.size, ((t153[0]'h).toNat : Int) = bt t153 0 := bt_at t153 0; clear p4; have qi4 : (0 < (t153.size : Int)) = True := eq_true (of_decide_eq_true (by first | (with_reducible assumption) | assumption)); replace q4 := eq_true q4))
        go_ret
        exact ⟨by first | rfl | (simp [errW_none, errW_some] <;> rfl) | (simp [*, errW_none, errW_some] <;> rfl) | (simp [bt, *]; done) | (unfold bt; simp [*]; done), by repeat (first | (with_reducible first | exact HB.out | apply below_alloc | apply pw_below_drewN | apply below_drew1) | exact HB.out)⟩
    · rw [if_neg c3] at H
      exact absurd H (by simp)
  · rw [if_neg c2] at H
    have c2b0 : ((t153.size : Int) == 4096) = false := beq_eq_false_iff_ne.mpr c2
    have c2b1 : ((t153.size : Int) != 4096) = true := bne_iff_ne.mpr c2
    obtain rfl := Option.some.inj H
    go_enter Try.func8, Try.ntmps8
    go_wp2_with (first | ((with_reducible refine gate_callee (f := 6) rfl ?_); refine goesL_ (some 2) rfl rfl Try.func6 (by kernel_rfl) rfl #[.int .i64 3, .int .i64 1] rfl (by (try simp only [List.map_toArray, List.map_cons, List.map_nil]); first | done | rfl | (simp only [List.length_drop, List.length_take]; rfl)) ?_; (with_reducible refine (identify_List.calls k 3 1 t153 _ A1.out).mono ?_); rintro e w25 ⟨rfl, hb⟩; refine ⟨_, rfl, ?_⟩; have n0_ := Aside0.mk (below_step (by repeat (first | (with_reducible first | exact HB.out | apply below_alloc | apply pw_below_drewN | apply below_drew1) | exact HB.out)) hb); clear HB; have HB := n0_; clear n0_; (try clear hb); (try clear hb2); (try clear hk); (try clear hi)))
    go_ret
    exact ⟨by first | rfl | (simp [errW_none, errW_some] <;> rfl) | (simp [*, errW_none, errW_some] <;> rfl) | (simp [bt, *]; done) | (unfold bt; simp [*]; done), by repeat (first | (with_reducible first | exact HB.out | apply below_alloc | apply pw_below_drewN | apply below_drew1) | exact HB.out)⟩

/-! ### headgatelaw26_IdentifyLists: function 3 -/
def headgatelaw26_IdentifyLists.f (k : Nat) (a0 : Int) (a1 : Int) : Option (Bool) := (identify_List.f k a0 a1).bind fun t155 => ((headgateref26_List.f k a0 a1).bind fun t156 => (if t155.toList = t156.toList then ((headgatelaw26_wakes.f k).bind fun t157 => (some t157)) else (some false)))
theorem headgatelaw26_IdentifyLists.mono : ∀ a0 a1 k, LeO (headgatelaw26_IdentifyLists.f k a0 a1) (headgatelaw26_IdentifyLists.f (k + 1) a0 a1) := by
  intro a0 a1 k
  unfold headgatelaw26_IdentifyLists.f
  repeat' first
      | (with_reducible exact headgatelaw26_wakes.mono _)
      | (with_reducible exact headgateref26_List.mono _ _ _)
      | (with_reducible exact identify_List.mono _ _ _)
      | (with_reducible exact LeO.refl _)
      | (with_reducible exact LeO.none _)
      | (with_reducible refine LeO.ite ?_ ?_)
      | (with_reducible refine LeO.bind ?_ (fun _ => ?_))
      | exact headgatelaw26_wakes.mono _
      | exact headgateref26_List.mono _ _ _
      | exact identify_List.mono _ _ _
      | exact LeO.none _
      | refine LeO.ite ?_ ?_
      | refine LeO.bind ?_ (fun _ => ?_)
set_option maxHeartbeats 8000000 in
set_option maxRecDepth 100000 in
theorem headgatelaw26_IdentifyLists.calls (k : Nat) (a0 : Int) (a1 : Int) (r : Bool) (w : World) (hT : r = true) (h : headgatelaw26_IdentifyLists.f k a0 a1 = some r) :
    Calls Try.prog 3 #[.int .i64 a0, .int .i64 a1] w fun e w' => e = .returned (.bool r) ∧ Below w.heap.size w w' := by
  have HT0 := Aside0.mk hT
  clear hT
  have HB := Aside0.mk (Below.refl w.heap.size w)
  have H : ((identify_List.f k a0 a1).bind fun t155 => ((headgateref26_List.f k a0 a1).bind fun t156 => (if t155.toList = t156.toList then ((headgatelaw26_wakes.f k).bind fun t157 => (some t157)) else (some false)))) = some r := h
  clear h
  replace H := Option.bind_eq_some_iff.mp H
  obtain ⟨t155, A30, H⟩ := H
  replace H : ((headgateref26_List.f k a0 a1).bind fun t156 => (if t155.toList = t156.toList then ((headgatelaw26_wakes.f k).bind fun t157 => (some t157)) else (some false))) = some r := H
  have A3 := Aside0.mk A30
  clear A30
  replace H := Option.bind_eq_some_iff.mp H
  obtain ⟨t156, A40, H⟩ := H
  replace H : (if t155.toList = t156.toList then ((headgatelaw26_wakes.f k).bind fun t157 => (some t157)) else (some false)) = some r := H
  have A4 := Aside0.mk A40
  clear A40
  by_cases c5 : t155.toList = t156.toList
  · rw [if_pos c5] at H
    have c5b0 : (t155.toList == t156.toList) = true := beq_iff_eq.mpr c5
    have c5b1 : (t155.toList != t156.toList) = false := bne_eq_false_iff_eq.mpr c5
    clear c5
    replace H := Option.bind_eq_some_iff.mp H
    obtain ⟨t157, A60, H⟩ := H
    replace H : (some t157) = some r := H
    have A6 := Aside0.mk A60
    clear A60
    obtain rfl := Option.some.inj H
    go_enter Try.func3, Try.ntmps3
    go_wp2_with (first | ((with_reducible refine gate_callee (f := 6) rfl ?_); refine goesL_ (some 7) rfl rfl Try.func6 (by kernel_rfl) rfl #[.int .i64 a0, .int .i64 a1] rfl (by (try simp only [List.map_toArray, List.map_cons, List.map_nil]); first | done | rfl | (simp only [List.length_drop, List.length_take]; rfl)) ?_; (with_reducible refine (identify_List.calls k a0 a1 t155 _ A3.out).mono ?_); rintro e w7 ⟨rfl, hb⟩; refine ⟨_, rfl, ?_⟩; have n0_ := Aside0.mk (below_step (by repeat (first | (with_reducible first | exact HB.out | apply below_alloc | apply pw_below_drewN | apply below_drew1) | exact HB.out)) hb); clear HB; have HB := n0_; clear n0_; (try clear hb); (try clear hb2); (try clear hk); (try clear hi)) | ((with_reducible refine gate_callee (f := 7) rfl ?_); refine goesL_ (some 10) rfl rfl Try.func7 (by kernel_rfl) rfl #[.int .i64 a0, .int .i64 a1] rfl (by (try simp only [List.map_toArray, List.map_cons, List.map_nil]); first | done | rfl | (simp only [List.length_drop, List.length_take]; rfl)) ?_; (with_reducible refine (headgateref26_List.calls k a0 a1 t156 _ A4.out).mono ?_); rintro e w8 ⟨rfl, hb⟩; refine ⟨_, rfl, ?_⟩; have n0_ := Aside0.mk (below_step (by repeat (first | (with_reducible first | exact HB.out | apply below_alloc | apply pw_below_drewN | apply below_drew1) | exact HB.out)) hb); clear HB; have HB := n0_; clear n0_; (try clear hb); (try clear hb2); (try clear hk); (try clear hi)) | (go_at_call 8; (with_reducible refine (headgatelaw26_wakes.calls k  t157 _ A6.out).mono ?_); rintro e w9 ⟨rfl, hb⟩; have n0_ := Aside0.mk (below_step (by repeat (first | (with_reducible first | exact HB.out | apply below_alloc | apply pw_below_drewN | apply below_drew1) | exact HB.out)) hb); clear HB; have HB := n0_; clear n0_; (try clear hb); (try clear hb2); (try clear hk); (try clear hi)))
    go_ret
    exact ⟨by first | rfl | (simp [errW_none, errW_some] <;> rfl) | (simp [*, errW_none, errW_some] <;> rfl) | (simp [bt, *]; done) | (unfold bt; simp [*]; done), by repeat (first | (with_reducible first | exact HB.out | apply below_alloc | apply pw_below_drewN | apply below_drew1) | exact HB.out)⟩
  · rw [if_neg c5] at H
    have c5b0 : (t155.toList == t156.toList) = false := beq_eq_false_iff_ne.mpr c5
    have c5b1 : (t155.toList != t156.toList) = true := bne_iff_ne.mpr c5
    exact absurd ((Option.some.inj H).trans HT0.out) (by decide)

end Go.Proofs.Ytmfbmioooafelaa.P
