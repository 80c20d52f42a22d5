-- written by this session's patched copy of the printer (wip/tools/patch_print.py); Lean checks it
import Derived.Test.YtkjdbdjbfoookaaPx0
import Derived.Test.YtkjdbdjbfoookaaPx1
import Derived.Test.YtkjdbdjbfoookaaPx2
namespace Go.Proofs.Ytkjdbdjbfoookaa.P
open Go.RowKit Go.Proofs.YtkjdbdjbfoookaaW.PrintWords Go.Proofs.YtkjdbdjbfoookaaW.PrintLast Go.Proofs.YtkjdbdjbfoookaaW.PrintMore
attribute [local go_sem] max2_int min2_int max_two min_two max_three min_three max_four min_four   -- for this text's walks alone
set_option linter.unusedVariables false
set_option linter.unusedSimpArgs false

/-! ### headgateref01_PutLittle: function 18 -/
mutual
def headgateref01_PutLittle.j0 : Nat → Int → Int → Bool → Option (ByteArray)
  | 0, _, _, _ => none
  | k + 1, x0, x1, x12 => if x12 = true then (some (⟨#[]⟩ : ByteArray)) else (if 0 ≤ x1 then (if (x1 : Int).toNat ≤ 281474976710656 then (headgateref01_PutLittle.l0 k x0 x1 (List.replicate (x1 : Int).toNat 0) 0) else (none)) else (none))
def headgateref01_PutLittle.l0 : Nat → Int → Int → List Int → Int → Option (ByteArray)
  | 0, _, _, _, _ => none
  | k + 1, x0, x1, x5, x6 => if x6 < x1 then (if 0 ≤ x6 then (if x6 < (x5.length : Int) then (headgateref01_PutLittle.l0 k (IntKind.u64.wrap (Int.tdiv x0 256)) x1 (x5.set (x6 : Int).toNat ((Int.tmod x0 256) % 256)) (wrap64 (x6 + 1))) else (none)) else (none)) else (some (strOfNums x5))
end
def headgateref01_PutLittle.f (k : Nat) (a0 : Int) (a1 : Int) : Option (ByteArray) := if a1 < 1 then (headgateref01_PutLittle.j0 k a0 a1 true) else (headgateref01_PutLittle.j0 k a0 a1 (decide (a1 > 8)))
theorem headgateref01_PutLittle.mono_l : ∀ k, (∀ y0 y1 y2, LeO (headgateref01_PutLittle.j0 k y0 y1 y2) (headgateref01_PutLittle.j0 (k + 1) y0 y1 y2)) ∧ (∀ y0 y1 y2 y3, LeO (headgateref01_PutLittle.l0 k y0 y1 y2 y3) (headgateref01_PutLittle.l0 (k + 1) y0 y1 y2 y3))
  | 0 => ⟨fun _ _ _ r h => by simp [headgateref01_PutLittle.j0] at h, fun _ _ _ _ r h => by simp [headgateref01_PutLittle.l0] at h⟩
  | k + 1 => by
    obtain ⟨ih0, ih1⟩ := headgateref01_PutLittle.mono_l k
    refine ⟨?_, ?_⟩
    · intro y0 y1 y2
      unfold headgateref01_PutLittle.j0
      repeat' first
      | (with_reducible exact ih0 _ _ _)
      | (with_reducible exact ih1 _ _ _ _)
      | (with_reducible exact LeO.refl _)
      | (with_reducible exact LeO.none _)
      | (with_reducible refine LeO.ite ?_ ?_)
      | (with_reducible refine LeO.bind ?_ (fun _ => ?_))
      | exact ih0 _ _ _
      | exact ih1 _ _ _ _
      | exact LeO.none _
      | refine LeO.ite ?_ ?_
      | refine LeO.bind ?_ (fun _ => ?_)
    · intro y0 y1 y2 y3
      unfold headgateref01_PutLittle.l0
      repeat' first
      | (with_reducible exact ih0 _ _ _)
      | (with_reducible exact ih1 _ _ _ _)
      | (with_reducible exact LeO.refl _)
      | (with_reducible exact LeO.none _)
      | (with_reducible refine LeO.ite ?_ ?_)
      | (with_reducible refine LeO.bind ?_ (fun _ => ?_))
      | exact ih0 _ _ _
      | exact ih1 _ _ _ _
      | exact LeO.none _
      | refine LeO.ite ?_ ?_
      | refine LeO.bind ?_ (fun _ => ?_)
theorem headgateref01_PutLittle.mono : ∀ a0 a1 k, LeO (headgateref01_PutLittle.f k a0 a1) (headgateref01_PutLittle.f (k + 1) a0 a1) := by
  intro a0 a1 k
  obtain ⟨ih0, ih1⟩ := headgateref01_PutLittle.mono_l k
  unfold headgateref01_PutLittle.f
  repeat' first
      | (with_reducible exact ih0 _ _ _)
      | (with_reducible exact ih1 _ _ _ _)
      | (with_reducible exact LeO.refl _)
      | (with_reducible exact LeO.none _)
      | (with_reducible refine LeO.ite ?_ ?_)
      | (with_reducible refine LeO.bind ?_ (fun _ => ?_))
      | exact ih0 _ _ _
      | exact ih1 _ _ _ _
      | exact LeO.none _
      | refine LeO.ite ?_ ?_
      | refine LeO.bind ?_ (fun _ => ?_)
set_option maxHeartbeats 8000000 in
set_option maxRecDepth 100000 in
theorem headgateref01_PutLittle.calls (k : Nat) (a0 : Int) (a1 : Int) (r : ByteArray) (w : World) (h : headgateref01_PutLittle.f k a0 a1 = some r) :
    Calls Try.prog 18 #[.int .u64 a0, .int .i64 a1] w fun e w' => e = .returned (.string r) ∧ Below w.heap.size w w' := by
  have HB := Aside0.mk (Below.refl w.heap.size w)
  have H : (if a1 < 1 then (headgateref01_PutLittle.j0 k a0 a1 true) else (headgateref01_PutLittle.j0 k a0 a1 (decide (a1 > 8)))) = some r := h
  clear h
  have HC3 := Aside0.mk H
  clear H
  go_enter Try.func18, Try.ntmps18
  go_upto_region 1 with (fail)
  go_cut [12] (fun v12 wc => ∃ (kq : Nat) (x12_2 : Bool), v12 = .bool x12_2 ∧ Aside0 (headgateref01_PutLittle.j0 kq a0 a1 x12_2 = some r) ∧ Aside0 (kq ≤ k) ∧ Aside0 (Below w.heap.size w wc))
  case first =>
    have H := HC3.out
    clear HC3
    by_cases c4 : a1 < 1
    · rw [if_pos c4] at H
      have c4b0 : decide (a1 < 1) = true := decide_eq_true c4
      clear c4
      (first | rw [c4b0] | (simp only [i64_w, i32_w]; rw [c4b0]) | skip)
      have H' := Aside0.mk H
      clear H
      go_wp2
      go_meet
      case rel => exact ⟨_, (true), (by first | rfl | (simp; done) | (simp [*]; done)), H', ⟨by first | omega | exact Nat.le_refl _⟩, ⟨by repeat (first | (with_reducible first | exact HB.out | apply below_alloc | apply pw_below_drewN | apply below_drew1) | exact HB.out)⟩⟩
    · rw [if_neg c4] at H
      have c4b0 : decide (a1 < 1) = false := decide_eq_false c4
      clear c4
      (first | rw [c4b0] | (simp only [i64_w, i32_w]; rw [c4b0]) | skip)
      have H' := Aside0.mk H
      clear H
      go_wp2
      go_meet
      case rel => exact ⟨_, (decide (a1 > 8)), (by first | rfl | (simp; done) | (simp [*]; done)), H', ⟨by first | omega | exact Nat.le_refl _⟩, ⟨by repeat (first | (with_reducible first | exact HB.out | apply below_alloc | apply pw_below_drewN | apply below_drew1) | exact HB.out)⟩⟩
  case rest =>
    clear HC3
    try clear c1
    try clear p2
    try clear c4
    try clear c4b0
    obtain ⟨kq, x12_2, rfl, HA, HJ2, HB⟩ := hcut
    cases kq with
    | zero => exact absurd HA.out (by simp [headgateref01_PutLittle.j0])
    | succ kj2 =>
      have H := HA.out
      clear HA
      simp only [headgateref01_PutLittle.j0] at H
      by_cases c5 : x12_2 = true
      · subst c5
        have H1 : (some (⟨#[]⟩ : ByteArray)) = some r := by rw [if_pos rfl] at H; exact H
        clear H
        have H := H1
        clear H1
        obtain rfl := Option.some.inj H
        go_wp2
        go_ret
        exact ⟨by first | rfl | (simp [errW_none, errW_some] <;> rfl) | (simp [*, errW_none, errW_some] <;> rfl), by repeat (first | (with_reducible first | exact HB.out | apply below_alloc | apply pw_below_drewN | apply below_drew1) | exact HB.out)⟩
      · replace c5 := Bool.eq_false_iff.mpr c5
        subst c5
        have H1 : (if 0 ≤ a1 then (if (a1 : Int).toNat ≤ 281474976710656 then (headgateref01_PutLittle.l0 kj2 a0 a1 (List.replicate (a1 : Int).toNat 0) 0) else (none)) else (none)) = some r := by rw [if_neg (show ¬ (false = true) by decide)] at H; exact H
        clear H
        have H := H1
        clear H1
        by_cases c6 : 0 ≤ a1
        · rw [if_pos c6] at H
          have c6b0 := eq_true c6
          have c6b1 : decide (0 ≤ a1) = true := decide_eq_true c6
          clear c6
          by_cases c7 : (a1 : Int).toNat ≤ 281474976710656
          · rw [if_pos c7] at H
            have c7b0 := eq_true c7
            have c7b1 : decide ((a1 : Int).toNat ≤ 281474976710656) = true := decide_eq_true c7
            clear c7
            obtain ⟨y149, hy149⟩ : ∃ y_ : List Int, y_ = (List.replicate (a1 : Int).toNat 0) := ⟨_, rfl⟩
            replace H : (headgateref01_PutLittle.l0 kj2 a0 a1 y149 0) = some r := by first | (rw [hy149]; with_reducible exact H) | (have H2_ := (Option.bind_some _ _).symm.trans H; rw [hy149]; with_reducible exact H2_) | (have H2_ := (Option.bind_some _ _).symm.trans H; with_reducible exact H2_) | with_reducible exact H | (rw [hy149]; exact H) | exact H
            have Ny149 := Aside0.mk hy149
            clear hy149
            have H' := Aside0.mk H
            clear H
            go_wp2_with (first | ((with_reducible refine gate_dst (N := 14) rfl ?_); refine Kd.R_make (Kd.int .u8) _ 5 rfl (N := 14) rfl 41 _ _ rfl a1 rfl rfl Try.underlying41 (.int .u8 0) 1 info5 rfl (by decide) (by omega) 0 (ok := fun _ => True) (okp := fun _ => True) rfl (fun _ hk => hk) trivial (of_decide_eq_true (by first | (with_reducible assumption) | assumption)) (Nat.le_trans (Nat.mul_le_mul_right _ (of_decide_eq_true (by first | (with_reducible assumption) | assumption) : a1.toNat ≤ 281474976710656)) (by omega)) (Below.refl _ _) (Nat.le_refl _) ?_; intro v150 w8 ho9 hb hg_ hnew_; clear hg_ hnew_; (first | rw [← Ny149.out] at ho9 | (simp only [Int.reduceToNat] at ho9; rw [← Ny149.out] at ho9)); have n0_ := Aside0.mk (Kd.R_lower ho9 (below_size (by repeat (first | (with_reducible first | exact HB.out | apply below_alloc | apply pw_below_drewN | apply below_drew1) | exact HB.out)))); have n1_ := Aside0.mk (below_step (by repeat (first | (with_reducible first | exact HB.out | apply below_alloc | apply pw_below_drewN | apply below_drew1) | exact HB.out)) hb); clear HB; have HO151 := n0_; have HB := n1_; clear n0_ n1_; clear hb ho9))
            go_loopg [0, 6] kj2 (fun kq v0 v6 w' => ∃ (x0_2 : Int) (x5_2 : List Int) (x6_2 : Int), v0 = .int .u64 x0_2 ∧ v6 = .int .i64 x6_2 ∧ Aside0 (headgateref01_PutLittle.l0 kq x0_2 a1 x5_2 x6_2 = some r) ∧ Aside0 (kq ≤ kj2) ∧ Aside0 (Kd.R (Kd.int .u8) 5 w' w.heap.size (fun _ => True) v150 x5_2) ∧ Aside0 (Below w.heap.size w w'))
            case atStart => exact ⟨(a0), (y149), (0), (by first | rfl | (simp; done) | (simp [*]; done)), (by first | rfl | (simp; done) | (simp [*]; done)), H', ⟨Nat.le_refl _⟩, ⟨by (with_reducible repeat (first | apply Kd.R_alloc | apply Kd.R_drewN | apply Kd.R_drew)); exact HO151.out⟩, ⟨by repeat (first | (with_reducible first | exact HB.out | apply below_alloc | apply pw_below_drewN | apply below_drew1) | exact HB.out)⟩⟩
            case round =>
              clear H'
              try clear c1
              try clear p2
              try clear c4
              try clear c4b0
              try clear c5
              try clear c6
              try clear c6b0
              try clear c6b1
              try clear c7
              try clear c7b0
              try clear c7b1
              try clear p2
              obtain ⟨x0_2, x5_2, x6_2, rfl, rfl, HA, HK2, HO_5, HB⟩ := hrel
              cases gk with
              | zero => exact absurd HA.out (by simp [headgateref01_PutLittle.l0])
              | succ k2 =>
                have H := HA.out
                clear HA
                simp only [headgateref01_PutLittle.l0] at H
                by_cases c10 : x6_2 < a1
                · rw [if_pos c10] at H
                  have c10b0 : decide (x6_2 < a1) = true := decide_eq_true c10
                  clear c10
                  by_cases c11 : 0 ≤ x6_2
                  · rw [if_pos c11] at H
                    have c11b0 : decide (0 ≤ x6_2) = true := decide_eq_true c11
                    clear c11
                    by_cases c12 : x6_2 < (x5_2.length : Int)
                    · rw [if_pos c12] at H
                      have c12b0 : decide (x6_2 < (x5_2.length : Int)) = true := decide_eq_true c12
                      clear c12
                      obtain ⟨y152, hy152⟩ : ∃ y_ : List Int, y_ = (x5_2.set (x6_2 : Int).toNat ((Int.tmod x0_2 256) % 256)) := ⟨_, rfl⟩
                      replace H : (headgateref01_PutLittle.l0 k2 (IntKind.u64.wrap (Int.tdiv x0_2 256)) a1 y152 (wrap64 (x6_2 + 1))) = some r := by first | (rw [hy152]; with_reducible exact H) | (have H2_ := (Option.bind_some _ _).symm.trans H; rw [hy152]; with_reducible exact H2_) | (have H2_ := (Option.bind_some _ _).symm.trans H; with_reducible exact H2_) | with_reducible exact H | (rw [hy152]; exact H) | exact H
                      have Ny152 := Aside0.mk hy152
                      clear hy152
                      have H' := Aside0.mk H
                      clear H
                      have p13 : 0 ≤ (x6_2 : Int) := of_decide_eq_true (by first | (with_reducible assumption) | assumption)
                      have q13 : (x6_2 : Int) < ((x5_2.length : Int) : Int) := of_decide_eq_true (by first | (with_reducible assumption) | assumption)
                      obtain ⟨go13, co13, eo13, gb13, gl13, cl13, HG13⟩ := Kd.R_form HO_5.out (by omega)
                      (first | cases eo13 | (injection eo13 with ea_ en_ ec_; (first | subst ea_ | (injection ea_ with ea_; subst ea_)); subst ec_; clear en_))
                      have GB13 := Aside0.mk gb13
                      have GG13 := Aside0.mk HG13
                      clear gb13 gl13 HG13
                      obtain ⟨hx13_0, hf13_0⟩ := Kd.R_celln 0 HO_5.out (x6_2 : Int) p13 q13
                      replace p13 := eq_true p13
                      replace q13 := eq_true q13
                      have HP14 := Kd.R_putg HO_5.out (x6_2 : Int) ((Int.tmod x0_2 256) % 256)
                      go_wp2_with (first | ((with_reducible refine gate_store (t := 5) (p := 25) rfl ?_); refine store_event (t := 5) (p := 25) (v := ?vo_w15) (w1 := (wr.setCell ⟨go13, (x6_2 : Int).toNat, none⟩ (.int .u8 ((Int.tmod x0_2 256) % 256)))) ?hg ?ho ?hn ?hr ?_; (case ho => rfl); (case hg => rfl); (case hn => rfl); (case hr => first | (go_simp; done) | (go_simp; rfl)); intro w15 hw; have hg : wr.grownBy w15 (some go13) := (by rw [hw]; exact HP14.2); have hp_ : Kd.R (Kd.int .u8) 5 w15 w.heap.size (fun _ => True) (.slice (some ⟨go13, 0, none⟩) x5_2.length co13) y152 := (by rw [hw, Ny152.out]; exact HP14.1); clear HP14; have n0_ := Aside0.mk (hp_); have n1_ := Aside0.mk ((by rw [hw]; exact below_set (HB.out) GB13.out : Below w.heap.size w w15)); clear HO_5; clear HB; have HO_5 := n0_; have HB := n1_; clear n0_ n1_; clear hg hw hp_))
                      go_roundg k2
                      case measure => have := HJ2.out; have := HK2.out; omega
                      case rel => exact ⟨(IntKind.u64.wrap (Int.tdiv x0_2 256)), (y152), (wrap64 (x6_2 + 1)), (by first | rfl | (simp; done) | (simp [*]; done)), (by first | rfl | (simp; done) | (simp [*]; done)), H', ⟨by have := HJ2.out; have := HK2.out; omega⟩, ⟨by (with_reducible repeat (first | apply Kd.R_alloc | apply Kd.R_drewN | apply Kd.R_drew)); exact HO_5.out⟩, ⟨by repeat (first | (with_reducible first | exact HB.out | apply below_alloc | apply pw_below_drewN | apply below_drew1) | exact HB.out)⟩⟩
                    · rw [if_neg c12] at H
                      exact absurd H (by simp)
                  · rw [if_neg c11] at H
                    exact absurd H (by simp)
                · rw [if_neg c10] at H
                  have c10b0 : decide (x6_2 < a1) = false := decide_eq_false c10
                  clear c10
                  obtain rfl := Option.some.inj H
                  have hcv16 := own_string (P := Try.prog) Try.underlying41 Try.underlying5 Try.underlying9 (Kd.own_of_R HO_5.out)
                  go_wp2
                  go_ret
                  exact ⟨by first | rfl | (simp [errW_none, errW_some] <;> rfl) | (simp [*, errW_none, errW_some] <;> rfl), by repeat (first | (with_reducible first | exact HB.out | apply below_alloc | apply pw_below_drewN | apply below_drew1) | exact HB.out)⟩
          · rw [if_neg c7] at H
            exact absurd H (by simp)
        · rw [if_neg c6] at H
          exact absurd H (by simp)

/-! ### headgatelaw01_FieldsWrites: function 4 -/
def headgatelaw01_FieldsWrites.f (k : Nat) (a0 : Int) (a1 : Int) : Option (Bool) := (fields_PutBig.f k a0 a1).bind fun t153 => ((headgateref01_PutBig.f k a0 a1).bind fun t154 => (if t153.toList = t154.toList then ((fields_PutLittle.f k a0 a1).bind fun t155 => ((headgateref01_PutLittle.f k a0 a1).bind fun t156 => (if t155.toList = t156.toList then ((headgatelaw01_wakes.f k).bind fun t157 => (some t157)) else (some false)))) else (some false)))
theorem headgatelaw01_FieldsWrites.mono : ∀ a0 a1 k, LeO (headgatelaw01_FieldsWrites.f k a0 a1) (headgatelaw01_FieldsWrites.f (k + 1) a0 a1) := by
  intro a0 a1 k
  unfold headgatelaw01_FieldsWrites.f
  repeat' first
      | (with_reducible exact fields_PutBig.mono _ _ _)
      | (with_reducible exact fields_PutLittle.mono _ _ _)
      | (with_reducible exact headgatelaw01_wakes.mono _)
      | (with_reducible exact headgateref01_PutBig.mono _ _ _)
      | (with_reducible exact headgateref01_PutLittle.mono _ _ _)
      | (with_reducible exact LeO.refl _)
      | (with_reducible exact LeO.none _)
      | (with_reducible refine LeO.ite ?_ ?_)
      | (with_reducible refine LeO.bind ?_ (fun _ => ?_))
      | exact fields_PutBig.mono _ _ _
      | exact fields_PutLittle.mono _ _ _
      | exact headgatelaw01_wakes.mono _
      | exact headgateref01_PutBig.mono _ _ _
      | exact headgateref01_PutLittle.mono _ _ _
      | exact LeO.none _
      | refine LeO.ite ?_ ?_
      | refine LeO.bind ?_ (fun _ => ?_)
set_option maxHeartbeats 8000000 in
set_option maxRecDepth 100000 in
theorem headgatelaw01_FieldsWrites.calls (k : Nat) (a0 : Int) (a1 : Int) (r : Bool) (w : World) (hT : r = true) (h : headgatelaw01_FieldsWrites.f k a0 a1 = some r) :
    Calls Try.prog 4 #[.int .u64 a0, .int .i64 a1] w fun e w' => e = .returned (.bool r) ∧ Below w.heap.size w w' := by
  have HT0 := Aside0.mk hT
  clear hT
  have HB := Aside0.mk (Below.refl w.heap.size w)
  have H : ((fields_PutBig.f k a0 a1).bind fun t153 => ((headgateref01_PutBig.f k a0 a1).bind fun t154 => (if t153.toList = t154.toList then ((fields_PutLittle.f k a0 a1).bind fun t155 => ((headgateref01_PutLittle.f k a0 a1).bind fun t156 => (if t155.toList = t156.toList then ((headgatelaw01_wakes.f k).bind fun t157 => (some t157)) else (some false)))) else (some false)))) = some r := h
  clear h
  replace H := Option.bind_eq_some_iff.mp H
  obtain ⟨t153, A30, H⟩ := H
  replace H : ((headgateref01_PutBig.f k a0 a1).bind fun t154 => (if t153.toList = t154.toList then ((fields_PutLittle.f k a0 a1).bind fun t155 => ((headgateref01_PutLittle.f k a0 a1).bind fun t156 => (if t155.toList = t156.toList then ((headgatelaw01_wakes.f k).bind fun t157 => (some t157)) else (some false)))) else (some false))) = some r := H
  have A3 := Aside0.mk A30
  clear A30
  replace H := Option.bind_eq_some_iff.mp H
  obtain ⟨t154, A40, H⟩ := H
  replace H : (if t153.toList = t154.toList then ((fields_PutLittle.f k a0 a1).bind fun t155 => ((headgateref01_PutLittle.f k a0 a1).bind fun t156 => (if t155.toList = t156.toList then ((headgatelaw01_wakes.f k).bind fun t157 => (some t157)) else (some false)))) else (some false)) = some r := H
  have A4 := Aside0.mk A40
  clear A40
  by_cases c5 : t153.toList = t154.toList
  · rw [if_pos c5] at H
    have c5b0 : (t153.toList == t154.toList) = true := beq_iff_eq.mpr c5
    have c5b1 : (t153.toList != t154.toList) = false := bne_eq_false_iff_eq.mpr c5
    clear c5
    replace H := Option.bind_eq_some_iff.mp H
    obtain ⟨t155, A60, H⟩ := H
    replace H : ((headgateref01_PutLittle.f k a0 a1).bind fun t156 => (if t155.toList = t156.toList then ((headgatelaw01_wakes.f k).bind fun t157 => (some t157)) else (some false))) = some r := H
    have A6 := Aside0.mk A60
    clear A60
    replace H := Option.bind_eq_some_iff.mp H
    obtain ⟨t156, A70, H⟩ := H
    replace H : (if t155.toList = t156.toList then ((headgatelaw01_wakes.f k).bind fun t157 => (some t157)) else (some false)) = some r := H
    have A7 := Aside0.mk A70
    clear A70
    by_cases c8 : t155.toList = t156.toList
    · rw [if_pos c8] at H
      have c8b0 : (t155.toList == t156.toList) = true := beq_iff_eq.mpr c8
      have c8b1 : (t155.toList != t156.toList) = false := bne_eq_false_iff_eq.mpr c8
      clear c8
      replace H := Option.bind_eq_some_iff.mp H
      obtain ⟨t157, A90, H⟩ := H
      replace H : (some t157) = some r := H
      have A9 := Aside0.mk A90
      clear A90
      obtain rfl := Option.some.inj H
      go_enter Try.func4, Try.ntmps4
      go_wp2_with (first | ((with_reducible refine gate_callee (f := 15) rfl ?_); refine goesL_ (some 7) rfl rfl Try.func15 (by kernel_rfl) rfl #[.int .u64 a0, .int .i64 a1] rfl (by (try simp only [List.map_toArray, List.map_cons, List.map_nil]); first | done | rfl | (simp only [List.length_drop, List.length_take]; rfl)) ?_; (with_reducible refine (fields_PutBig.calls k a0 a1 t153 _ A3.out).mono ?_); rintro e w10 ⟨rfl, hb⟩; refine ⟨_, rfl, ?_⟩; have n0_ := Aside0.mk (below_step (by repeat (first | (with_reducible first | exact HB.out | apply below_alloc | apply pw_below_drewN | apply below_drew1) | exact HB.out)) hb); clear HB; have HB := n0_; clear n0_; (try clear hb); (try clear hb2); (try clear hk); (try clear hi)) | ((with_reducible refine gate_callee (f := 16) rfl ?_); refine goesL_ (some 10) rfl rfl Try.func16 (by kernel_rfl) rfl #[.int .u64 a0, .int .i64 a1] rfl (by (try simp only [List.map_toArray, List.map_cons, List.map_nil]); first | done | rfl | (simp only [List.length_drop, List.length_take]; rfl)) ?_; (with_reducible refine (headgateref01_PutBig.calls k a0 a1 t154 _ A4.out).mono ?_); rintro e w11 ⟨rfl, hb⟩; refine ⟨_, rfl, ?_⟩; have n0_ := Aside0.mk (below_step (by repeat (first | (with_reducible first | exact HB.out | apply below_alloc | apply pw_below_drewN | apply below_drew1) | exact HB.out)) hb); clear HB; have HB := n0_; clear n0_; (try clear hb); (try clear hb2); (try clear hk); (try clear hi)) | (go_at_call 17; (with_reducible refine (fields_PutLittle.calls k a0 a1 t155 _ A6.out).mono ?_); rintro e w12 ⟨rfl, hb⟩; have n0_ := Aside0.mk (below_step (by repeat (first | (with_reducible first | exact HB.out | apply below_alloc | apply pw_below_drewN | apply below_drew1) | exact HB.out)) hb); clear HB; have HB := n0_; clear n0_; (try clear hb); (try clear hb2); (try clear hk); (try clear hi)) | (go_at_call 18; (with_reducible refine (headgateref01_PutLittle.calls k a0 a1 t156 _ A7.out).mono ?_); rintro e w13 ⟨rfl, hb⟩; have n0_ := Aside0.mk (below_step (by repeat (first | (with_reducible first | exact HB.out | apply below_alloc | apply pw_below_drewN | apply below_drew1) | exact HB.out)) hb); clear HB; have HB := n0_; clear n0_; (try clear hb); (try clear hb2); (try clear hk); (try clear hi)) | (go_at_call 10; (with_reducible refine (headgatelaw01_wakes.calls k  t157 _ A9.out).mono ?_); rintro e w14 ⟨rfl, hb⟩; have n0_ := Aside0.mk (below_step (by repeat (first | (with_reducible first | exact HB.out | apply below_alloc | apply pw_below_drewN | apply below_drew1) | exact HB.out)) hb); clear HB; have HB := n0_; clear n0_; (try clear hb); (try clear hb2); (try clear hk); (try clear hi)))
      go_ret
      exact ⟨by first | rfl | (simp [errW_none, errW_some] <;> rfl) | (simp [*, errW_none, errW_some] <;> rfl), by repeat (first | (with_reducible first | exact HB.out | apply below_alloc | apply pw_below_drewN | apply below_drew1) | exact HB.out)⟩
    · rw [if_neg c8] at H
      have c8b0 : (t155.toList == t156.toList) = false := beq_eq_false_iff_ne.mpr c8
      have c8b1 : (t155.toList != t156.toList) = true := bne_iff_ne.mpr c8
      exact absurd ((Option.some.inj H).trans HT0.out) (by decide)
  · rw [if_neg c5] at H
    have c5b0 : (t153.toList == t154.toList) = false := beq_eq_false_iff_ne.mpr c5
    have c5b1 : (t153.toList != t154.toList) = true := bne_iff_ne.mpr c5
    exact absurd ((Option.some.inj H).trans HT0.out) (by decide)

/-! ### headgatelaw01_FieldsBack: function 5 -/
mutual
def headgatelaw01_FieldsBack.j0 : Nat → Int → ByteArray → ByteArray → Int → Bool → Int → Bool → Int → Option (Bool)
  | 0, _, _, _, _, _, _, _, _ => none
  | k + 1, x7, x8, x9, x10, x11, x12, x13, x14 => if x11 = true then (if x13 = true then (if x10 = x14 then (if x12 = x14 then (if (x8.size : Int) = x7 then (headgatelaw01_FieldsBack.j1 k x7 x8 x9 ((x9.size : Int) != x7)) else (headgatelaw01_FieldsBack.j1 k x7 x8 x9 true)) else (headgatelaw01_FieldsBack.j1 k x7 x8 x9 true)) else (headgatelaw01_FieldsBack.j1 k x7 x8 x9 true)) else (headgatelaw01_FieldsBack.j1 k x7 x8 x9 true)) else (headgatelaw01_FieldsBack.j1 k x7 x8 x9 true)
def headgatelaw01_FieldsBack.j1 : Nat → Int → ByteArray → ByteArray → Bool → Option (Bool)
  | 0, _, _, _, _ => none
  | k + 1, x7, x8, x9, x86 => if x86 = true then (some false) else (headgatelaw01_FieldsBack.l0 k x7 x8 x9 0)
def headgatelaw01_FieldsBack.l0 : Nat → Int → ByteArray → ByteArray → Int → Option (Bool)
  | 0, _, _, _, _ => none
  | k + 1, x7, x8, x9, x15 => if x15 < x7 then (if 0 ≤ x15 then (if x15 < (x8.size : Int) then (if 0 ≤ (wrap64 ((wrap64 (x7 - 1)) - x15)) then (if (wrap64 ((wrap64 (x7 - 1)) - x15)) < (x9.size : Int) then (if (bt x8 x15) = (bt x9 (wrap64 ((wrap64 (x7 - 1)) - x15))) then (headgatelaw01_FieldsBack.l0 k x7 x8 x9 (wrap64 (x15 + 1))) else (some false)) else (none)) else (none)) else (none)) else (none)) else ((headgatelaw01_wakes.f k).bind fun t165 => (some t165))
end
def headgatelaw01_FieldsBack.f (k : Nat) (a0 : Int) (a1 : Int) (a2 : ByteArray) : Option (Bool) := if (a2.size : Int) > 100000 then ((headgatelaw01_wakes.f k).bind fun t158 => (some t158)) else ((fields_PutBig.f k a0 (wrap64 (1 + (wrap64 (Int.tmod (IntKind.u64.wrap (a1)) 8))))).bind fun t159 => ((fields_PutLittle.f k a0 (wrap64 (1 + (wrap64 (Int.tmod (IntKind.u64.wrap (a1)) 8))))).bind fun t160 => (if a2.size + t159.size ≤ 9223372036854775807 then ((fields_Big.f k (a2 ++ t159) (a2.size : Int) (wrap64 (1 + (wrap64 (Int.tmod (IntKind.u64.wrap (a1)) 8))))).bind fun bt161 => (if t160.size + a2.size ≤ 9223372036854775807 then ((fields_Little.f k (t160 ++ a2) 0 (wrap64 (1 + (wrap64 (Int.tmod (IntKind.u64.wrap (a1)) 8))))).bind fun bt163 => (if (wrap64 (1 + (wrap64 (Int.tmod (IntKind.u64.wrap (a1)) 8)))) < 8 then (if 0 ≤ (IntKind.u64.wrap (8 * (IntKind.u64.wrap (wrap64 (1 + (wrap64 (Int.tmod (IntKind.u64.wrap (a1)) 8))))))) then (headgatelaw01_FieldsBack.j0 k (wrap64 (1 + (wrap64 (Int.tmod (IntKind.u64.wrap (a1)) 8)))) t159 t160 bt161.1 bt161.2 bt163.1 bt163.2 (Go.bits .and .u64 a0 (IntKind.u64.wrap ((shl .u64 1 (IntKind.u64.wrap (8 * (IntKind.u64.wrap (wrap64 (1 + (wrap64 (Int.tmod (IntKind.u64.wrap (a1)) 8)))))))) - 1)))) else (none)) else (headgatelaw01_FieldsBack.j0 k (wrap64 (1 + (wrap64 (Int.tmod (IntKind.u64.wrap (a1)) 8)))) t159 t160 bt161.1 bt161.2 bt163.1 bt163.2 a0))) else (none))) else (none))))
theorem headgatelaw01_FieldsBack.mono_l : ∀ k, (∀ y0 y1 y2 y3 y4 y5 y6 y7, LeO (headgatelaw01_FieldsBack.j0 k y0 y1 y2 y3 y4 y5 y6 y7) (headgatelaw01_FieldsBack.j0 (k + 1) y0 y1 y2 y3 y4 y5 y6 y7)) ∧ (∀ y0 y1 y2 y3, LeO (headgatelaw01_FieldsBack.j1 k y0 y1 y2 y3) (headgatelaw01_FieldsBack.j1 (k + 1) y0 y1 y2 y3)) ∧ (∀ y0 y1 y2 y3, LeO (headgatelaw01_FieldsBack.l0 k y0 y1 y2 y3) (headgatelaw01_FieldsBack.l0 (k + 1) y0 y1 y2 y3))
  | 0 => ⟨fun _ _ _ _ _ _ _ _ r h => by simp [headgatelaw01_FieldsBack.j0] at h, fun _ _ _ _ r h => by simp [headgatelaw01_FieldsBack.j1] at h, fun _ _ _ _ r h => by simp [headgatelaw01_FieldsBack.l0] at h⟩
  | k + 1 => by
    obtain ⟨ih0, ih1, ih2⟩ := headgatelaw01_FieldsBack.mono_l k
    refine ⟨?_, ?_, ?_⟩
    · intro y0 y1 y2 y3 y4 y5 y6 y7
      unfold headgatelaw01_FieldsBack.j0
      repeat' first
      | (with_reducible exact ih0 _ _ _ _ _ _ _ _)
      | (with_reducible exact ih1 _ _ _ _)
      | (with_reducible exact ih2 _ _ _ _)
      | (with_reducible exact fields_Big.mono _ _ _ _)
      | (with_reducible exact fields_Little.mono _ _ _ _)
      | (with_reducible exact fields_PutBig.mono _ _ _)
      | (with_reducible exact fields_PutLittle.mono _ _ _)
      | (with_reducible exact headgatelaw01_wakes.mono _)
      | (with_reducible exact LeO.refl _)
      | (with_reducible exact LeO.none _)
      | (with_reducible refine LeO.ite ?_ ?_)
      | (with_reducible refine LeO.bind ?_ (fun _ => ?_))
      | exact ih0 _ _ _ _ _ _ _ _
      | exact ih1 _ _ _ _
      | exact ih2 _ _ _ _
      | exact fields_Big.mono _ _ _ _
      | exact fields_Little.mono _ _ _ _
      | exact fields_PutBig.mono _ _ _
      | exact fields_PutLittle.mono _ _ _
      | exact headgatelaw01_wakes.mono _
      | exact LeO.none _
      | refine LeO.ite ?_ ?_
      | refine LeO.bind ?_ (fun _ => ?_)
    · intro y0 y1 y2 y3
      unfold headgatelaw01_FieldsBack.j1
      repeat' first
      | (with_reducible exact ih0 _ _ _ _ _ _ _ _)
      | (with_reducible exact ih1 _ _ _ _)
      | (with_reducible exact ih2 _ _ _ _)
      | (with_reducible exact fields_Big.mono _ _ _ _)
      | (with_reducible exact fields_Little.mono _ _ _ _)
      | (with_reducible exact fields_PutBig.mono _ _ _)
      | (with_reducible exact fields_PutLittle.mono _ _ _)
      | (with_reducible exact headgatelaw01_wakes.mono _)
      | (with_reducible exact LeO.refl _)
      | (with_reducible exact LeO.none _)
      | (with_reducible refine LeO.ite ?_ ?_)
      | (with_reducible refine LeO.bind ?_ (fun _ => ?_))
      | exact ih0 _ _ _ _ _ _ _ _
      | exact ih1 _ _ _ _
      | exact ih2 _ _ _ _
      | exact fields_Big.mono _ _ _ _
      | exact fields_Little.mono _ _ _ _
      | exact fields_PutBig.mono _ _ _
      | exact fields_PutLittle.mono _ _ _
      | exact headgatelaw01_wakes.mono _
      | exact LeO.none _
      | refine LeO.ite ?_ ?_
      | refine LeO.bind ?_ (fun _ => ?_)
    · intro y0 y1 y2 y3
      unfold headgatelaw01_FieldsBack.l0
      repeat' first
      | (with_reducible exact ih0 _ _ _ _ _ _ _ _)
      | (with_reducible exact ih1 _ _ _ _)
      | (with_reducible exact ih2 _ _ _ _)
      | (with_reducible exact fields_Big.mono _ _ _ _)
      | (with_reducible exact fields_Little.mono _ _ _ _)
      | (with_reducible exact fields_PutBig.mono _ _ _)
      | (with_reducible exact fields_PutLittle.mono _ _ _)
      | (with_reducible exact headgatelaw01_wakes.mono _)
      | (with_reducible exact LeO.refl _)
      | (with_reducible exact LeO.none _)
      | (with_reducible refine LeO.ite ?_ ?_)
      | (with_reducible refine LeO.bind ?_ (fun _ => ?_))
      | exact ih0 _ _ _ _ _ _ _ _
      | exact ih1 _ _ _ _
      | exact ih2 _ _ _ _
      | exact fields_Big.mono _ _ _ _
      | exact fields_Little.mono _ _ _ _
      | exact fields_PutBig.mono _ _ _
      | exact fields_PutLittle.mono _ _ _
      | exact headgatelaw01_wakes.mono _
      | exact LeO.none _
      | refine LeO.ite ?_ ?_
      | refine LeO.bind ?_ (fun _ => ?_)
theorem headgatelaw01_FieldsBack.mono : ∀ a0 a1 a2 k, LeO (headgatelaw01_FieldsBack.f k a0 a1 a2) (headgatelaw01_FieldsBack.f (k + 1) a0 a1 a2) := by
  intro a0 a1 a2 k
  obtain ⟨ih0, ih1, ih2⟩ := headgatelaw01_FieldsBack.mono_l k
  unfold headgatelaw01_FieldsBack.f
  repeat' first
      | (with_reducible exact ih0 _ _ _ _ _ _ _ _)
      | (with_reducible exact ih1 _ _ _ _)
      | (with_reducible exact ih2 _ _ _ _)
      | (with_reducible exact fields_Big.mono _ _ _ _)
      | (with_reducible exact fields_Little.mono _ _ _ _)
      | (with_reducible exact fields_PutBig.mono _ _ _)
      | (with_reducible exact fields_PutLittle.mono _ _ _)
      | (with_reducible exact headgatelaw01_wakes.mono _)
      | (with_reducible exact LeO.refl _)
      | (with_reducible exact LeO.none _)
      | (with_reducible refine LeO.ite ?_ ?_)
      | (with_reducible refine LeO.bind ?_ (fun _ => ?_))
      | exact ih0 _ _ _ _ _ _ _ _
      | exact ih1 _ _ _ _
      | exact ih2 _ _ _ _
      | exact fields_Big.mono _ _ _ _
      | exact fields_Little.mono _ _ _ _
      | exact fields_PutBig.mono _ _ _
      | exact fields_PutLittle.mono _ _ _
      | exact headgatelaw01_wakes.mono _
      | exact LeO.none _
      | refine LeO.ite ?_ ?_
      | refine LeO.bind ?_ (fun _ => ?_)
set_option maxHeartbeats 8000000 in
set_option maxRecDepth 100000 in
theorem headgatelaw01_FieldsBack.calls (k : Nat) (a0 : Int) (a1 : Int) (a2 : ByteArray) (r : Bool) (w : World) (hT : r = true) (h : headgatelaw01_FieldsBack.f k a0 a1 a2 = some r) :
    Calls Try.prog 5 #[.int .u64 a0, .int .i64 a1, .string a2] w fun e w' => e = .returned (.bool r) ∧ Below w.heap.size w w' := by
  have HT0 := Aside0.mk hT
  clear hT
  have HB := Aside0.mk (Below.refl w.heap.size w)
  have H : (if (a2.size : Int) > 100000 then ((headgatelaw01_wakes.f k).bind fun t158 => (some t158)) else ((fields_PutBig.f k a0 (wrap64 (1 + (wrap64 (Int.tmod (IntKind.u64.wrap (a1)) 8))))).bind fun t159 => ((fields_PutLittle.f k a0 (wrap64 (1 + (wrap64 (Int.tmod (IntKind.u64.wrap (a1)) 8))))).bind fun t160 => (if a2.size + t159.size ≤ 9223372036854775807 then ((fields_Big.f k (a2 ++ t159) (a2.size : Int) (wrap64 (1 + (wrap64 (Int.tmod (IntKind.u64.wrap (a1)) 8))))).bind fun bt161 => (if t160.size + a2.size ≤ 9223372036854775807 then ((fields_Little.f k (t160 ++ a2) 0 (wrap64 (1 + (wrap64 (Int.tmod (IntKind.u64.wrap (a1)) 8))))).bind fun bt163 => (if (wrap64 (1 + (wrap64 (Int.tmod (IntKind.u64.wrap (a1)) 8)))) < 8 then (if 0 ≤ (IntKind.u64.wrap (8 * (IntKind.u64.wrap (wrap64 (1 + (wrap64 (Int.tmod (IntKind.u64.wrap (a1)) 8))))))) then (headgatelaw01_FieldsBack.j0 k (wrap64 (1 + (wrap64 (Int.tmod (IntKind.u64.wrap (a1)) 8)))) t159 t160 bt161.1 bt161.2 bt163.1 bt163.2 (Go.bits .and .u64 a0 (IntKind.u64.wrap ((shl .u64 1 (IntKind.u64.wrap (8 * (IntKind.u64.wrap (wrap64 (1 + (wrap64 (Int.tmod (IntKind.u64.wrap (a1)) 8)))))))) - 1)))) else (none)) else (headgatelaw01_FieldsBack.j0 k (wrap64 (1 + (wrap64 (Int.tmod (IntKind.u64.wrap (a1)) 8)))) t159 t160 bt161.1 bt161.2 bt163.1 bt163.2 a0))) else (none))) else (none))))) = some r := h
  clear h
  by_cases c4 : (a2.size : Int) > 100000
  · rw [if_pos c4] at H
    have c4b0 : decide (100000 < (a2.size : Int)) = true := decide_eq_true c4
    have c4b1 : decide (100000 < a2.size) = true := decide_eq_true (by omega)
    clear c4
    replace H := Option.bind_eq_some_iff.mp H
    obtain ⟨t158, A50, H⟩ := H
    replace H : (some t158) = some r := H
    have A5 := Aside0.mk A50
    clear A50
    obtain rfl := Option.some.inj H
    go_enter Try.func5, Try.ntmps5
    go_wp2_with (first | (go_at_call 10; (with_reducible refine (headgatelaw01_wakes.calls k  t158 _ A5.out).mono ?_); rintro e w6 ⟨rfl, hb⟩; have n0_ := Aside0.mk (below_step (by repeat (first | (with_reducible first | exact HB.out | apply below_alloc | apply pw_below_drewN | apply below_drew1) | exact HB.out)) hb); clear HB; have HB := n0_; clear n0_; (try clear hb); (try clear hb2); (try clear hk); (try clear hi)))
    repeat (go_quiet (first | (go_at_call 10; (with_reducible refine (headgatelaw01_wakes.calls k  t158 _ A5.out).mono ?_); rintro e w6 ⟨rfl, hb⟩; have n0_ := Aside0.mk (below_step (by repeat (first | (with_reducible first | exact HB.out | apply below_alloc | apply pw_below_drewN | apply below_drew1) | exact HB.out)) hb); clear HB; have HB := n0_; clear n0_; (try clear hb); (try clear hb2); (try clear hk); (try clear hi))); try go_wp2_with (first | (go_at_call 10; (with_reducible refine (headgatelaw01_wakes.calls k  t158 _ A5.out).mono ?_); rintro e w6 ⟨rfl, hb⟩; have n0_ := Aside0.mk (below_step (by repeat (first | (with_reducible first | exact HB.out | apply below_alloc | apply pw_below_drewN | apply below_drew1) | exact HB.out)) hb); clear HB; have HB := n0_; clear n0_; (try clear hb); (try clear hb2); (try clear hk); (try clear hi))))
    go_ret
    exact ⟨by first | rfl | (simp [errW_none, errW_some] <;> rfl) | (simp [*, errW_none, errW_some] <;> rfl), by repeat (first | (with_reducible first | exact HB.out | apply below_alloc | apply pw_below_drewN | apply below_drew1) | exact HB.out)⟩
  · rw [if_neg c4] at H
    have c4b0 : decide (100000 < (a2.size : Int)) = false := decide_eq_false c4
    have c4b1 : decide (100000 < a2.size) = false := decide_eq_false (by omega)
    clear c4
    replace H := Option.bind_eq_some_iff.mp H
    obtain ⟨t159, A70, H⟩ := H
    replace H : ((fields_PutLittle.f k a0 (wrap64 (1 + (wrap64 (Int.tmod (IntKind.u64.wrap (a1)) 8))))).bind fun t160 => (if a2.size + t159.size ≤ 9223372036854775807 then ((fields_Big.f k (a2 ++ t159) (a2.size : Int) (wrap64 (1 + (wrap64 (Int.tmod (IntKind.u64.wrap (a1)) 8))))).bind fun bt161 => (if t160.size + a2.size ≤ 9223372036854775807 then ((fields_Little.f k (t160 ++ a2) 0 (wrap64 (1 + (wrap64 (Int.tmod (IntKind.u64.wrap (a1)) 8))))).bind fun bt163 => (if (wrap64 (1 + (wrap64 (Int.tmod (IntKind.u64.wrap (a1)) 8)))) < 8 then (if 0 ≤ (IntKind.u64.wrap (8 * (IntKind.u64.wrap (wrap64 (1 + (wrap64 (Int.tmod (IntKind.u64.wrap (a1)) 8))))))) then (headgatelaw01_FieldsBack.j0 k (wrap64 (1 + (wrap64 (Int.tmod (IntKind.u64.wrap (a1)) 8)))) t159 t160 bt161.1 bt161.2 bt163.1 bt163.2 (Go.bits .and .u64 a0 (IntKind.u64.wrap ((shl .u64 1 (IntKind.u64.wrap (8 * (IntKind.u64.wrap (wrap64 (1 + (wrap64 (Int.tmod (IntKind.u64.wrap (a1)) 8)))))))) - 1)))) else (none)) else (headgatelaw01_FieldsBack.j0 k (wrap64 (1 + (wrap64 (Int.tmod (IntKind.u64.wrap (a1)) 8)))) t159 t160 bt161.1 bt161.2 bt163.1 bt163.2 a0))) else (none))) else (none))) = some r := H
    have A7 := Aside0.mk A70
    clear A70
    replace H := Option.bind_eq_some_iff.mp H
    obtain ⟨t160, A80, H⟩ := H
    replace H : (if a2.size + t159.size ≤ 9223372036854775807 then ((fields_Big.f k (a2 ++ t159) (a2.size : Int) (wrap64 (1 + (wrap64 (Int.tmod (IntKind.u64.wrap (a1)) 8))))).bind fun bt161 => (if t160.size + a2.size ≤ 9223372036854775807 then ((fields_Little.f k (t160 ++ a2) 0 (wrap64 (1 + (wrap64 (Int.tmod (IntKind.u64.wrap (a1)) 8))))).bind fun bt163 => (if (wrap64 (1 + (wrap64 (Int.tmod (IntKind.u64.wrap (a1)) 8)))) < 8 then (if 0 ≤ (IntKind.u64.wrap (8 * (IntKind.u64.wrap (wrap64 (1 + (wrap64 (Int.tmod (IntKind.u64.wrap (a1)) 8))))))) then (headgatelaw01_FieldsBack.j0 k (wrap64 (1 + (wrap64 (Int.tmod (IntKind.u64.wrap (a1)) 8)))) t159 t160 bt161.1 bt161.2 bt163.1 bt163.2 (Go.bits .and .u64 a0 (IntKind.u64.wrap ((shl .u64 1 (IntKind.u64.wrap (8 * (IntKind.u64.wrap (wrap64 (1 + (wrap64 (Int.tmod (IntKind.u64.wrap (a1)) 8)))))))) - 1)))) else (none)) else (headgatelaw01_FieldsBack.j0 k (wrap64 (1 + (wrap64 (Int.tmod (IntKind.u64.wrap (a1)) 8)))) t159 t160 bt161.1 bt161.2 bt163.1 bt163.2 a0))) else (none))) else (none)) = some r := H
    have A8 := Aside0.mk A80
    clear A80
    by_cases c9 : a2.size + t159.size ≤ 9223372036854775807
    · rw [if_pos c9] at H
      have c9b0 := eq_true c9
      have c9b1 : decide (a2.size + t159.size ≤ 9223372036854775807) = true := decide_eq_true c9
      try have c9b2 : (9223372036854775807 < a2.size + t159.size) = False := eq_false (Nat.not_lt.2 c9)
      replace H := Option.bind_eq_some_iff.mp H
      obtain ⟨⟨t161, t162⟩, A100, H⟩ := H
      replace H : (if t160.size + a2.size ≤ 9223372036854775807 then ((fields_Little.f k (t160 ++ a2) 0 (wrap64 (1 + (wrap64 (Int.tmod (IntKind.u64.wrap (a1)) 8))))).bind fun bt163 => (if (wrap64 (1 + (wrap64 (Int.tmod (IntKind.u64.wrap (a1)) 8)))) < 8 then (if 0 ≤ (IntKind.u64.wrap (8 * (IntKind.u64.wrap (wrap64 (1 + (wrap64 (Int.tmod (IntKind.u64.wrap (a1)) 8))))))) then (headgatelaw01_FieldsBack.j0 k (wrap64 (1 + (wrap64 (Int.tmod (IntKind.u64.wrap (a1)) 8)))) t159 t160 t161 t162 bt163.1 bt163.2 (Go.bits .and .u64 a0 (IntKind.u64.wrap ((shl .u64 1 (IntKind.u64.wrap (8 * (IntKind.u64.wrap (wrap64 (1 + (wrap64 (Int.tmod (IntKind.u64.wrap (a1)) 8)))))))) - 1)))) else (none)) else (headgatelaw01_FieldsBack.j0 k (wrap64 (1 + (wrap64 (Int.tmod (IntKind.u64.wrap (a1)) 8)))) t159 t160 t161 t162 bt163.1 bt163.2 a0))) else (none)) = some r := H
      have A10 := Aside0.mk A100
      clear A100
      by_cases c11 : t160.size + a2.size ≤ 9223372036854775807
      · rw [if_pos c11] at H
        have c11b0 := eq_true c11
        have c11b1 : decide (t160.size + a2.size ≤ 9223372036854775807) = true := decide_eq_true c11
        try have c11b2 : (9223372036854775807 < t160.size + a2.size) = False := eq_false (Nat.not_lt.2 c11)
        replace H := Option.bind_eq_some_iff.mp H
        obtain ⟨⟨t163, t164⟩, A120, H⟩ := H
        replace H : (if (wrap64 (1 + (wrap64 (Int.tmod (IntKind.u64.wrap (a1)) 8)))) < 8 then (if 0 ≤ (IntKind.u64.wrap (8 * (IntKind.u64.wrap (wrap64 (1 + (wrap64 (Int.tmod (IntKind.u64.wrap (a1)) 8))))))) then (headgatelaw01_FieldsBack.j0 k (wrap64 (1 + (wrap64 (Int.tmod (IntKind.u64.wrap (a1)) 8)))) t159 t160 t161 t162 t163 t164 (Go.bits .and .u64 a0 (IntKind.u64.wrap ((shl .u64 1 (IntKind.u64.wrap (8 * (IntKind.u64.wrap (wrap64 (1 + (wrap64 (Int.tmod (IntKind.u64.wrap (a1)) 8)))))))) - 1)))) else (none)) else (headgatelaw01_FieldsBack.j0 k (wrap64 (1 + (wrap64 (Int.tmod (IntKind.u64.wrap (a1)) 8)))) t159 t160 t161 t162 t163 t164 a0)) = some r := H
        have A12 := Aside0.mk A120
        clear A120
        have HC13 := Aside0.mk H
        clear H
        go_enter Try.func5, Try.ntmps5
        go_upto_if 51 with (first | (go_at_call 15; (with_reducible refine (fields_PutBig.calls k a0 (wrap64 (1 + (wrap64 (Int.tmod (IntKind.u64.wrap (a1)) 8)))) t159 _ A7.out).mono ?_); rintro e w14 ⟨rfl, hb⟩; have n0_ := Aside0.mk (below_step (by repeat (first | (with_reducible first | exact HB.out | apply below_alloc | apply pw_below_drewN | apply below_drew1) | exact HB.out)) hb); clear HB; have HB := n0_; clear n0_; (try clear hb); (try clear hb2); (try clear hk); (try clear hi)) | (go_at_call 17; (with_reducible refine (fields_PutLittle.calls k a0 (wrap64 (1 + (wrap64 (Int.tmod (IntKind.u64.wrap (a1)) 8)))) t160 _ A8.out).mono ?_); rintro e w15 ⟨rfl, hb⟩; have n0_ := Aside0.mk (below_step (by repeat (first | (with_reducible first | exact HB.out | apply below_alloc | apply pw_below_drewN | apply below_drew1) | exact HB.out)) hb); clear HB; have HB := n0_; clear n0_; (try clear hb); (try clear hb2); (try clear hk); (try clear hi)) | (go_at_call 11; (with_reducible refine (fields_Big.calls k (a2 ++ t159) (a2.size : Int) (wrap64 (1 + (wrap64 (Int.tmod (IntKind.u64.wrap (a1)) 8)))) t161 t162 _ A10.out).mono ?_); rintro e w16 ⟨rfl, hb⟩; have n0_ := Aside0.mk (below_step (by repeat (first | (with_reducible first | exact HB.out | apply below_alloc | apply pw_below_drewN | apply below_drew1) | exact HB.out)) hb); clear HB; have HB := n0_; clear n0_; (try clear hb); (try clear hb2); (try clear hk); (try clear hi)) | (go_at_call 13; (with_reducible refine (fields_Little.calls k (t160 ++ a2) 0 (wrap64 (1 + (wrap64 (Int.tmod (IntKind.u64.wrap (a1)) 8)))) t163 t164 _ A12.out).mono ?_); rintro e w17 ⟨rfl, hb⟩; have n0_ := Aside0.mk (below_step (by repeat (first | (with_reducible first | exact HB.out | apply below_alloc | apply pw_below_drewN | apply below_drew1) | exact HB.out)) hb); clear HB; have HB := n0_; clear n0_; (try clear hb); (try clear hb2); (try clear hk); (try clear hi)))
        repeat (go_quiet (first | (go_at_call 15; (with_reducible refine (fields_PutBig.calls k a0 (wrap64 (1 + (wrap64 (Int.tmod (IntKind.u64.wrap (a1)) 8)))) t159 _ A7.out).mono ?_); rintro e w14 ⟨rfl, hb⟩; have n0_ := Aside0.mk (below_step (by repeat (first | (with_reducible first | exact HB.out | apply below_alloc | apply pw_below_drewN | apply below_drew1) | exact HB.out)) hb); clear HB; have HB := n0_; clear n0_; (try clear hb); (try clear hb2); (try clear hk); (try clear hi)) | (go_at_call 17; (with_reducible refine (fields_PutLittle.calls k a0 (wrap64 (1 + (wrap64 (Int.tmod (IntKind.u64.wrap (a1)) 8)))) t160 _ A8.out).mono ?_); rintro e w15 ⟨rfl, hb⟩; have n0_ := Aside0.mk (below_step (by repeat (first | (with_reducible first | exact HB.out | apply below_alloc | apply pw_below_drewN | apply below_drew1) | exact HB.out)) hb); clear HB; have HB := n0_; clear n0_; (try clear hb); (try clear hb2); (try clear hk); (try clear hi)) | (go_at_call 11; (with_reducible refine (fields_Big.calls k (a2 ++ t159) (a2.size : Int) (wrap64 (1 + (wrap64 (Int.tmod (IntKind.u64.wrap (a1)) 8)))) t161 t162 _ A10.out).mono ?_); rintro e w16 ⟨rfl, hb⟩; have n0_ := Aside0.mk (below_step (by repeat (first | (with_reducible first | exact HB.out | apply below_alloc | apply pw_below_drewN | apply below_drew1) | exact HB.out)) hb); clear HB; have HB := n0_; clear n0_; (try clear hb); (try clear hb2); (try clear hk); (try clear hi)) | (go_at_call 13; (with_reducible refine (fields_Little.calls k (t160 ++ a2) 0 (wrap64 (1 + (wrap64 (Int.tmod (IntKind.u64.wrap (a1)) 8)))) t163 t164 _ A12.out).mono ?_); rintro e w17 ⟨rfl, hb⟩; have n0_ := Aside0.mk (below_step (by repeat (first | (with_reducible first | exact HB.out | apply below_alloc | apply pw_below_drewN | apply below_drew1) | exact HB.out)) hb); clear HB; have HB := n0_; clear n0_; (try clear hb); (try clear hb2); (try clear hk); (try clear hi))); go_upto_if 51 with (first | (go_at_call 15; (with_reducible refine (fields_PutBig.calls k a0 (wrap64 (1 + (wrap64 (Int.tmod (IntKind.u64.wrap (a1)) 8)))) t159 _ A7.out).mono ?_); rintro e w14 ⟨rfl, hb⟩; have n0_ := Aside0.mk (below_step (by repeat (first | (with_reducible first | exact HB.out | apply below_alloc | apply pw_below_drewN | apply below_drew1) | exact HB.out)) hb); clear HB; have HB := n0_; clear n0_; (try clear hb); (try clear hb2); (try clear hk); (try clear hi)) | (go_at_call 17; (with_reducible refine (fields_PutLittle.calls k a0 (wrap64 (1 + (wrap64 (Int.tmod (IntKind.u64.wrap (a1)) 8)))) t160 _ A8.out).mono ?_); rintro e w15 ⟨rfl, hb⟩; have n0_ := Aside0.mk (below_step (by repeat (first | (with_reducible first | exact HB.out | apply below_alloc | apply pw_below_drewN | apply below_drew1) | exact HB.out)) hb); clear HB; have HB := n0_; clear n0_; (try clear hb); (try clear hb2); (try clear hk); (try clear hi)) | (go_at_call 11; (with_reducible refine (fields_Big.calls k (a2 ++ t159) (a2.size : Int) (wrap64 (1 + (wrap64 (Int.tmod (IntKind.u64.wrap (a1)) 8)))) t161 t162 _ A10.out).mono ?_); rintro e w16 ⟨rfl, hb⟩; have n0_ := Aside0.mk (below_step (by repeat (first | (with_reducible first | exact HB.out | apply below_alloc | apply pw_below_drewN | apply below_drew1) | exact HB.out)) hb); clear HB; have HB := n0_; clear n0_; (try clear hb); (try clear hb2); (try clear hk); (try clear hi)) | (go_at_call 13; (with_reducible refine (fields_Little.calls k (t160 ++ a2) 0 (wrap64 (1 + (wrap64 (Int.tmod (IntKind.u64.wrap (a1)) 8)))) t163 t164 _ A12.out).mono ?_); rintro e w17 ⟨rfl, hb⟩; have n0_ := Aside0.mk (below_step (by repeat (first | (with_reducible first | exact HB.out | apply below_alloc | apply pw_below_drewN | apply below_drew1) | exact HB.out)) hb); clear HB; have HB := n0_; clear n0_; (try clear hb); (try clear hb2); (try clear hk); (try clear hi))))
        (try simp only [Act.put, List.setIfInBounds_toArray, List.set_cons_zero, List.set_cons_succ])
        go_cut [14] (fun v14 wc => ∃ (kq : Nat) (x14_12 : Int), v14 = .int .u64 x14_12 ∧ Aside0 (headgatelaw01_FieldsBack.j0 kq (wrap64 (1 + (wrap64 (Int.tmod (IntKind.u64.wrap (a1)) 8)))) t159 t160 t161 t162 t163 t164 x14_12 = some r) ∧ Aside0 (kq ≤ k) ∧ Aside0 (Below w.heap.size w wc))
        case first =>
          have H := HC13.out
          clear HC13
          by_cases c18 : (wrap64 (1 + (wrap64 (Int.tmod (IntKind.u64.wrap (a1)) 8)))) < 8
          · rw [if_pos c18] at H
            have c18b0 : decide ((wrap64 (1 + (wrap64 (Int.tmod (IntKind.u64.wrap (a1)) 8)))) < 8) = true := decide_eq_true c18
            clear c18
            (first | rw [c18b0] | (simp only [i64_w, i32_w]; rw [c18b0]) | skip)
            obtain ⟨ji19, hji19⟩ : ∃ j_ : Int, (IntKind.u64.wrap (8 * (IntKind.u64.wrap (wrap64 (1 + (wrap64 (Int.tmod (IntKind.u64.wrap (a1)) 8))))))) = j_ := ⟨_, rfl⟩
            replace H : (if 0 ≤ (ji19) then (headgatelaw01_FieldsBack.j0 k (wrap64 (1 + (wrap64 (Int.tmod (IntKind.u64.wrap (a1)) 8)))) t159 t160 t161 t162 t163 t164 (Go.bits .and .u64 a0 (IntKind.u64.wrap ((shl .u64 1 (ji19)) - 1)))) else (none)) = some r := by first | (rw [hji19] at H; exact H) | (simp only [hji19] at H ⊢; exact H)
            by_cases c20 : 0 ≤ (ji19)
            · rw [if_pos c20] at H
              have c20b0 := eq_true c20
              have c20b1 : decide (0 ≤ (ji19)) = true := decide_eq_true c20
              clear c20
              obtain ⟨ji21, hji21⟩ : ∃ j_ : Int, (shl .u64 1 (ji19)) = j_ := ⟨_, rfl⟩
              replace H : (headgatelaw01_FieldsBack.j0 k (wrap64 (1 + (wrap64 (Int.tmod (IntKind.u64.wrap (a1)) 8)))) t159 t160 t161 t162 t163 t164 (Go.bits .and .u64 a0 (IntKind.u64.wrap ((ji21) - 1)))) = some r := by first | (rw [hji21] at H; exact H) | (simp only [hji21] at H ⊢; exact H)
              have hji21_ : (IntKind.u64.wrap (1 * 2 ^ min (ji19).toNat 64)) = ji21 := hji21
              have hji21z : (ji19) ≤ 64 → (IntKind.u64.wrap (1 * 2 ^ (ji19).toNat)) = ji21 := shl_small hji21
              have hji21u : (IntKind.u64.wrap (2 ^ min (ji19).toNat 64)) = ji21 := by have h_ := hji21_; rw [Int.one_mul] at h_; exact h_
              have hji21v : (ji19) ≤ 64 → (IntKind.u64.wrap (2 ^ (ji19).toNat)) = ji21 := fun hle_ => by have h_ := hji21z hle_; rw [Int.one_mul] at h_; exact h_
              have H' := Aside0.mk H
              clear H
              go_wp2
              repeat (go_quiet (fail); try go_wp2)
              go_meet
              case rel => exact ⟨_, (Go.bits .and .u64 a0 (IntKind.u64.wrap ((ji21) - 1))), (by first | rfl | (simp; done) | (simp only [← hji21] <;> (first | rfl | simp)) | (simp [*]; done)), H', ⟨by first | omega | exact Nat.le_refl _⟩, ⟨by repeat (first | (with_reducible first | exact HB.out | apply below_alloc | apply pw_below_drewN | apply below_drew1) | exact HB.out)⟩⟩
            · rw [if_neg c20] at H
              exact absurd H (by simp)
          · rw [if_neg c18] at H
            have c18b0 : decide ((wrap64 (1 + (wrap64 (Int.tmod (IntKind.u64.wrap (a1)) 8)))) < 8) = false := decide_eq_false c18
            clear c18
            (first | rw [c18b0] | (simp only [i64_w, i32_w]; rw [c18b0]) | skip)
            have H' := Aside0.mk H
            clear H
            go_wp2
            repeat (go_quiet (fail); try go_wp2)
            go_meet
            case rel => exact ⟨_, (a0), (by first | rfl | (simp; done) | (simp [*]; done)), H', ⟨by first | omega | exact Nat.le_refl _⟩, ⟨by repeat (first | (with_reducible first | exact HB.out | apply below_alloc | apply pw_below_drewN | apply below_drew1) | exact HB.out)⟩⟩
        case rest =>
          clear HC13
          try clear c1
          try clear c2
          try clear p2
          try clear c4
          try clear c4b0
          try clear c4b1
          try clear c5
          try clear p6
          try clear c9
          try clear c9b0
          try clear c9b1
          try clear c9b2
          try clear c11
          try clear c11b0
          try clear c11b1
          try clear c11b2
          try clear c18
          try clear c18b0
          try clear c20
          try clear c20b0
          try clear c20b1
          obtain ⟨kq, x14_12, rfl, HA, HJ12, HB⟩ := hcut
          cases kq with
          | zero => exact absurd HA.out (by simp [headgatelaw01_FieldsBack.j0])
          | succ kj12 =>
            have H := HA.out
            clear HA
            simp only [headgatelaw01_FieldsBack.j0] at H
            have HC22 := Aside0.mk H
            clear H
            go_upto_region 10 with (fail)
            repeat (go_quiet (fail); go_upto_region 10 with (fail))
            go_cut [86] (fun v86 wc => ∃ (kq : Nat) (x86_21 : Bool), v86 = .bool x86_21 ∧ Aside0 (headgatelaw01_FieldsBack.j1 kq (wrap64 (1 + (wrap64 (Int.tmod (IntKind.u64.wrap (a1)) 8)))) t159 t160 x86_21 = some r) ∧ Aside0 (kq ≤ kj12) ∧ Aside0 (Below w.heap.size w wc))
            case first =>
              have H := HC22.out
              clear HC22
              by_cases c23 : t162 = true
              · subst c23
                have H1 : (if t164 = true then (if t161 = x14_12 then (if t163 = x14_12 then (if (t159.size : Int) = (wrap64 (1 + (wrap64 (Int.tmod (IntKind.u64.wrap (a1)) 8)))) then (headgatelaw01_FieldsBack.j1 kj12 (wrap64 (1 + (wrap64 (Int.tmod (IntKind.u64.wrap (a1)) 8)))) t159 t160 ((t160.size : Int) != (wrap64 (1 + (wrap64 (Int.tmod (IntKind.u64.wrap (a1)) 8)))))) else (headgatelaw01_FieldsBack.j1 kj12 (wrap64 (1 + (wrap64 (Int.tmod (IntKind.u64.wrap (a1)) 8)))) t159 t160 true)) else (headgatelaw01_FieldsBack.j1 kj12 (wrap64 (1 + (wrap64 (Int.tmod (IntKind.u64.wrap (a1)) 8)))) t159 t160 true)) else (headgatelaw01_FieldsBack.j1 kj12 (wrap64 (1 + (wrap64 (Int.tmod (IntKind.u64.wrap (a1)) 8)))) t159 t160 true)) else (headgatelaw01_FieldsBack.j1 kj12 (wrap64 (1 + (wrap64 (Int.tmod (IntKind.u64.wrap (a1)) 8)))) t159 t160 true)) = some r := by rw [if_pos rfl] at H; exact H
                clear H
                have H := H1
                clear H1
                by_cases c24 : t164 = true
                · subst c24
                  have H1 : (if t161 = x14_12 then (if t163 = x14_12 then (if (t159.size : Int) = (wrap64 (1 + (wrap64 (Int.tmod (IntKind.u64.wrap (a1)) 8)))) then (headgatelaw01_FieldsBack.j1 kj12 (wrap64 (1 + (wrap64 (Int.tmod (IntKind.u64.wrap (a1)) 8)))) t159 t160 ((t160.size : Int) != (wrap64 (1 + (wrap64 (Int.tmod (IntKind.u64.wrap (a1)) 8)))))) else (headgatelaw01_FieldsBack.j1 kj12 (wrap64 (1 + (wrap64 (Int.tmod (IntKind.u64.wrap (a1)) 8)))) t159 t160 true)) else (headgatelaw01_FieldsBack.j1 kj12 (wrap64 (1 + (wrap64 (Int.tmod (IntKind.u64.wrap (a1)) 8)))) t159 t160 true)) else (headgatelaw01_FieldsBack.j1 kj12 (wrap64 (1 + (wrap64 (Int.tmod (IntKind.u64.wrap (a1)) 8)))) t159 t160 true)) = some r := by rw [if_pos rfl] at H; exact H
                  clear H
                  have H := H1
                  clear H1
                  by_cases c25 : t161 = x14_12
                  · rw [if_pos c25] at H
                    have c25b0 : (t161 == x14_12) = true := beq_iff_eq.mpr c25
                    have c25b1 : (t161 != x14_12) = false := bne_eq_false_iff_eq.mpr c25
                    clear c25
                    (first | rw [c25b0] | (simp only [i64_w, i32_w]; rw [c25b0]) | skip)
                    by_cases c26 : t163 = x14_12
                    · rw [if_pos c26] at H
                      have c26b0 : (t163 == x14_12) = true := beq_iff_eq.mpr c26
                      have c26b1 : (t163 != x14_12) = false := bne_eq_false_iff_eq.mpr c26
                      clear c26
                      by_cases c27 : (t159.size : Int) = (wrap64 (1 + (wrap64 (Int.tmod (IntKind.u64.wrap (a1)) 8))))
                      · rw [if_pos c27] at H
                        have c27b0 : ((t159.size : Int) == (wrap64 (1 + (wrap64 (Int.tmod (IntKind.u64.wrap (a1)) 8))))) = true := beq_iff_eq.mpr c27
                        have c27b1 : ((t159.size : Int) != (wrap64 (1 + (wrap64 (Int.tmod (IntKind.u64.wrap (a1)) 8))))) = false := bne_eq_false_iff_eq.mpr c27
                        clear c27
                        have H' := Aside0.mk H
                        clear H
                        go_wp2
                        repeat (go_quiet (fail); try go_wp2)
                        go_meet
                        case rel => exact ⟨_, (((t160.size : Int) != (wrap64 (1 + (wrap64 (Int.tmod (IntKind.u64.wrap (a1)) 8)))))), (by first | rfl | (simp; done) | (simp [*]; done)), H', ⟨by have := HJ12.out; first | omega | exact Nat.le_refl _⟩, ⟨by repeat (first | (with_reducible first | exact HB.out | apply below_alloc | apply pw_below_drewN | apply below_drew1) | exact HB.out)⟩⟩
                      · rw [if_neg c27] at H
                        have c27b0 : ((t159.size : Int) == (wrap64 (1 + (wrap64 (Int.tmod (IntKind.u64.wrap (a1)) 8))))) = false := beq_eq_false_iff_ne.mpr c27
                        have c27b1 : ((t159.size : Int) != (wrap64 (1 + (wrap64 (Int.tmod (IntKind.u64.wrap (a1)) 8))))) = true := bne_iff_ne.mpr c27
                        have H' := Aside0.mk H
                        clear H
                        go_wp2
                        repeat (go_quiet (fail); try go_wp2)
                        go_meet
                        case rel => exact ⟨_, (true), (by first | rfl | (simp; done) | (simp [*]; done)), H', ⟨by have := HJ12.out; first | omega | exact Nat.le_refl _⟩, ⟨by repeat (first | (with_reducible first | exact HB.out | apply below_alloc | apply pw_below_drewN | apply below_drew1) | exact HB.out)⟩⟩
                    · rw [if_neg c26] at H
                      have c26b0 : (t163 == x14_12) = false := beq_eq_false_iff_ne.mpr c26
                      have c26b1 : (t163 != x14_12) = true := bne_iff_ne.mpr c26
                      have H' := Aside0.mk H
                      clear H
                      go_wp2
                      repeat (go_quiet (fail); try go_wp2)
                      go_meet
                      case rel => exact ⟨_, (true), (by first | rfl | (simp; done) | (simp [*]; done)), H', ⟨by have := HJ12.out; first | omega | exact Nat.le_refl _⟩, ⟨by repeat (first | (with_reducible first | exact HB.out | apply below_alloc | apply pw_below_drewN | apply below_drew1) | exact HB.out)⟩⟩
                  · rw [if_neg c25] at H
                    have c25b0 : (t161 == x14_12) = false := beq_eq_false_iff_ne.mpr c25
                    have c25b1 : (t161 != x14_12) = true := bne_iff_ne.mpr c25
                    (first | rw [c25b0] | (simp only [i64_w, i32_w]; rw [c25b0]) | skip)
                    have H' := Aside0.mk H
                    clear H
                    go_wp2
                    repeat (go_quiet (fail); try go_wp2)
                    go_meet
                    case rel => exact ⟨_, (true), (by first | rfl | (simp; done) | (simp [*]; done)), H', ⟨by have := HJ12.out; first | omega | exact Nat.le_refl _⟩, ⟨by repeat (first | (with_reducible first | exact HB.out | apply below_alloc | apply pw_below_drewN | apply below_drew1) | exact HB.out)⟩⟩
                · replace c24 := Bool.eq_false_iff.mpr c24
                  subst c24
                  have H1 : (headgatelaw01_FieldsBack.j1 kj12 (wrap64 (1 + (wrap64 (Int.tmod (IntKind.u64.wrap (a1)) 8)))) t159 t160 true) = some r := by rw [if_neg (show ¬ (false = true) by decide)] at H; exact H
                  clear H
                  have H := H1
                  clear H1
                  have H' := Aside0.mk H
                  clear H
                  go_wp2
                  repeat (go_quiet (fail); try go_wp2)
                  go_meet
                  case rel => exact ⟨_, (true), (by first | rfl | (simp; done) | (simp [*]; done)), H', ⟨by have := HJ12.out; first | omega | exact Nat.le_refl _⟩, ⟨by repeat (first | (with_reducible first | exact HB.out | apply below_alloc | apply pw_below_drewN | apply below_drew1) | exact HB.out)⟩⟩
              · replace c23 := Bool.eq_false_iff.mpr c23
                subst c23
                have H1 : (headgatelaw01_FieldsBack.j1 kj12 (wrap64 (1 + (wrap64 (Int.tmod (IntKind.u64.wrap (a1)) 8)))) t159 t160 true) = some r := by rw [if_neg (show ¬ (false = true) by decide)] at H; exact H
                clear H
                have H := H1
                clear H1
                have H' := Aside0.mk H
                clear H
                go_wp2
                repeat (go_quiet (fail); try go_wp2)
                go_meet
                case rel => exact ⟨_, (true), (by first | rfl | (simp; done) | (simp [*]; done)), H', ⟨by have := HJ12.out; first | omega | exact Nat.le_refl _⟩, ⟨by repeat (first | (with_reducible first | exact HB.out | apply below_alloc | apply pw_below_drewN | apply below_drew1) | exact HB.out)⟩⟩
            case rest =>
              clear HC22
              try clear c1
              try clear c2
              try clear p2
              try clear c4
              try clear c4b0
              try clear c4b1
              try clear c5
              try clear p6
              try clear c9
              try clear c9b0
              try clear c9b1
              try clear c9b2
              try clear c11
              try clear c11b0
              try clear c11b1
              try clear c11b2
              try clear c18
              try clear c18b0
              try clear c20
              try clear c20b0
              try clear c20b1
              try clear c23
              try clear c24
              try clear c25
              try clear c25b0
              try clear c25b1
              try clear c26
              try clear c26b0
              try clear c26b1
              try clear c27
              try clear c27b0
              try clear c27b1
              try clear p2
              try clear p6
              obtain ⟨kq, x86_21, rfl, HA, HJ21, HB⟩ := hcut
              cases kq with
              | zero => exact absurd HA.out (by simp [headgatelaw01_FieldsBack.j1])
              | succ kj21 =>
                have H := HA.out
                clear HA
                simp only [headgatelaw01_FieldsBack.j1] at H
                by_cases c28 : x86_21 = true
                · subst c28
                  have H1 : (some false) = some r := by rw [if_pos rfl] at H; exact H
                  clear H
                  have H := H1
                  clear H1
                  exact absurd ((Option.some.inj H).trans HT0.out) (by decide)
                · replace c28 := Bool.eq_false_iff.mpr c28
                  subst c28
                  have H1 : (headgatelaw01_FieldsBack.l0 kj21 (wrap64 (1 + (wrap64 (Int.tmod (IntKind.u64.wrap (a1)) 8)))) t159 t160 0) = some r := by rw [if_neg (show ¬ (false = true) by decide)] at H; exact H
                  clear H
                  have H := H1
                  clear H1
                  have H' := Aside0.mk H
                  clear H
                  go_wp2
                  repeat (go_quiet (fail); try go_wp2)
                  go_loopg [15] kj21 (fun kq v15 w' => ∃ (x15_3 : Int), v15 = .int .i64 x15_3 ∧ Aside0 (headgatelaw01_FieldsBack.l0 kq (wrap64 (1 + (wrap64 (Int.tmod (IntKind.u64.wrap (a1)) 8)))) t159 t160 x15_3 = some r) ∧ Aside0 (kq ≤ kj21) ∧ Aside0 (Below w.heap.size w w'))
                  case atStart => exact ⟨(0), (by first | rfl | (simp; done) | (simp [*]; done)), H', ⟨Nat.le_refl _⟩, ⟨by repeat (first | (with_reducible first | exact HB.out | apply below_alloc | apply pw_below_drewN | apply below_drew1) | exact HB.out)⟩⟩
                  case round =>
                    clear H'
                    try clear c1
                    try clear c2
                    try clear p2
                    try clear c4
                    try clear c4b0
                    try clear c4b1
                    try clear c5
                    try clear p6
                    try clear c9
                    try clear c9b0
                    try clear c9b1
                    try clear c9b2
                    try clear c11
                    try clear c11b0
                    try clear c11b1
                    try clear c11b2
                    try clear c18
                    try clear c18b0
                    try clear c20
                    try clear c20b0
                    try clear c20b1
                    try clear c23
                    try clear c24
                    try clear c25
                    try clear c25b0
                    try clear c25b1
                    try clear c26
                    try clear c26b0
                    try clear c26b1
                    try clear c27
                    try clear c27b0
                    try clear c27b1
                    try clear c28
                    try clear p2
                    try clear p6
                    obtain ⟨x15_3, rfl, HA, HK3, HB⟩ := hrel
                    cases gk with
                    | zero => exact absurd HA.out (by simp [headgatelaw01_FieldsBack.l0])
                    | succ k3 =>
                      have H := HA.out
                      clear HA
                      simp only [headgatelaw01_FieldsBack.l0] at H
                      by_cases c29 : x15_3 < (wrap64 (1 + (wrap64 (Int.tmod (IntKind.u64.wrap (a1)) 8))))
                      · rw [if_pos c29] at H
                        have c29b0 : decide (x15_3 < (wrap64 (1 + (wrap64 (Int.tmod (IntKind.u64.wrap (a1)) 8))))) = true := decide_eq_true c29
                        clear c29
                        by_cases c30 : 0 ≤ x15_3
                        · rw [if_pos c30] at H
                          have c30b0 : decide (0 ≤ x15_3) = true := decide_eq_true c30
                          clear c30
                          by_cases c31 : x15_3 < (t159.size : Int)
                          · rw [if_pos c31] at H
                            have c31b0 : decide (x15_3 < (t159.size : Int)) = true := decide_eq_true c31
                            clear c31
                            obtain ⟨ji33, hji33⟩ : ∃ j_ : Int, (wrap64 ((wrap64 ((wrap64 (1 + (wrap64 (Int.tmod (IntKind.u64.wrap (a1)) 8)))) - 1)) - x15_3)) = j_ := ⟨_, rfl⟩
                            replace H : (if 0 ≤ (ji33) then (if (ji33) < (t160.size : Int) then (if (bt t159 x15_3) = (bt t160 (ji33)) then (headgatelaw01_FieldsBack.l0 k3 (wrap64 (1 + (wrap64 (Int.tmod (IntKind.u64.wrap (a1)) 8)))) t159 t160 (wrap64 (x15_3 + 1))) else (some false)) else (none)) else (none)) = some r := by first | (rw [hji33] at H; exact H) | (simp only [hji33] at H ⊢; exact H)
                            have hji33w : (IntKind.i64.wrap ((wrap64 ((wrap64 (1 + (wrap64 (Int.tmod (IntKind.u64.wrap (a1)) 8)))) - 1)) - x15_3)) = ji33 := (i64_w _).trans hji33
                            by_cases c34 : 0 ≤ (ji33)
                            · rw [if_pos c34] at H
                              have c34b0 : decide (0 ≤ (ji33)) = true := decide_eq_true c34
                              clear c34
                              by_cases c35 : (ji33) < (t160.size : Int)
                              · rw [if_pos c35] at H
                                have c35b0 : decide ((ji33) < (t160.size : Int)) = true := decide_eq_true c35
                                clear c35
                                by_cases c37 : (bt t159 x15_3) = (bt t160 (ji33))
                                · rw [if_pos c37] at H
                                  have c37b0 : ((bt t159 x15_3) == (bt t160 (ji33))) = true := beq_iff_eq.mpr c37
                                  have c37b1 : ((bt t159 x15_3) != (bt t160 (ji33))) = false := bne_eq_false_iff_eq.mpr c37
                                  clear c37
                                  have H' := Aside0.mk H
                                  clear H
                                  have p32 : 0 ≤ (x15_3 : Int) := of_decide_eq_true (by first | (with_reducible assumption) | assumption)
                                  have q32 : x15_3 < (t159.size : Int) := of_decide_eq_true (by first | (with_reducible assumption) | assumption)
                                  have hx32 := bt_at t159 x15_3
                                  replace p32 := eq_true p32
                                  replace q32 := eq_true q32
                                  have p36 : 0 ≤ ((ji33) : Int) := of_decide_eq_true (by first | (with_reducible assumption) | assumption)
                                  have q36 : (ji33) < (t160.size : Int) := of_decide_eq_true (by first | (with_reducible assumption) | assumption)
                                  have hx36 := bt_at t160 (ji33)
                                  replace p36 := eq_true p36
                                  replace q36 := eq_true q36
                                  go_wp2
                                  repeat (go_quiet (fail); try go_wp2)
                                  go_roundg k3
                                  case measure => have := HJ12.out; have := HJ21.out; have := HK3.out; omega
                                  case rel => exact ⟨(wrap64 (x15_3 + 1)), (by first | rfl | (simp; done) | (simp [*]; done)), H', ⟨by have := HJ12.out; have := HJ21.out; have := HK3.out; omega⟩, ⟨by repeat (first | (with_reducible first | exact HB.out | apply below_alloc | apply pw_below_drewN | apply below_drew1) | exact HB.out)⟩⟩
                                · rw [if_neg c37] at H
                                  have c37b0 : ((bt t159 x15_3) == (bt t160 (ji33))) = false := beq_eq_false_iff_ne.mpr c37
                                  have c37b1 : ((bt t159 x15_3) != (bt t160 (ji33))) = true := bne_iff_ne.mpr c37
                                  exact absurd ((Option.some.inj H).trans HT0.out) (by decide)
                              · rw [if_neg c35] at H
                                exact absurd H (by simp)
                            · rw [if_neg c34] at H
                              exact absurd H (by simp)
                          · rw [if_neg c31] at H
                            exact absurd H (by simp)
                        · rw [if_neg c30] at H
                          exact absurd H (by simp)
                      · rw [if_neg c29] at H
                        have c29b0 : decide (x15_3 < (wrap64 (1 + (wrap64 (Int.tmod (IntKind.u64.wrap (a1)) 8))))) = false := decide_eq_false c29
                        clear c29
                        replace H := Option.bind_eq_some_iff.mp H
                        obtain ⟨t165, A380, H⟩ := H
                        replace H : (some t165) = some r := H
                        have A38 := Aside0.mk A380
                        clear A380
                        obtain rfl := Option.some.inj H
                        go_wp2_with (first | (go_at_call 10; (with_reducible refine (headgatelaw01_wakes.calls k3  t165 _ A38.out).mono ?_); rintro e w39 ⟨rfl, hb⟩; have n0_ := Aside0.mk (below_step (by repeat (first | (with_reducible first | exact HB.out | apply below_alloc | apply pw_below_drewN | apply below_drew1) | exact HB.out)) hb); clear HB; have HB := n0_; clear n0_; (try clear hb); (try clear hb2); (try clear hk); (try clear hi)))
                        repeat (go_quiet (first | (go_at_call 10; (with_reducible refine (headgatelaw01_wakes.calls k3  t165 _ A38.out).mono ?_); rintro e w39 ⟨rfl, hb⟩; have n0_ := Aside0.mk (below_step (by repeat (first | (with_reducible first | exact HB.out | apply below_alloc | apply pw_below_drewN | apply below_drew1) | exact HB.out)) hb); clear HB; have HB := n0_; clear n0_; (try clear hb); (try clear hb2); (try clear hk); (try clear hi))); try go_wp2_with (first | (go_at_call 10; (with_reducible refine (headgatelaw01_wakes.calls k3  t165 _ A38.out).mono ?_); rintro e w39 ⟨rfl, hb⟩; have n0_ := Aside0.mk (below_step (by repeat (first | (with_reducible first | exact HB.out | apply below_alloc | apply pw_below_drewN | apply below_drew1) | exact HB.out)) hb); clear HB; have HB := n0_; clear n0_; (try clear hb); (try clear hb2); (try clear hk); (try clear hi))))
                        go_ret
                        exact ⟨by first | rfl | (simp [errW_none, errW_some] <;> rfl) | (simp [*, errW_none, errW_some] <;> rfl), by repeat (first | (with_reducible first | exact HB.out | apply below_alloc | apply pw_below_drewN | apply below_drew1) | exact HB.out)⟩
      · rw [if_neg c11] at H
        exact absurd H (by simp)
    · rw [if_neg c9] at H
      exact absurd H (by simp)

end Go.Proofs.Ytkjdbdjbfoookaa.P
