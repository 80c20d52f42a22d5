-- joined by this session's wip/tools/pack.py: words of the kit's print, cut to what the claim names; functions printed by a patched copy of the printer; walks and lemmas of this session; Lean checks it
import Derived.Test.YtjogkfcjlljjcaaDoorBa7
import Derived.WalkKit
import Derived.Maps.Own
import Derived.Maps.OwnOps
import Derived.Maps.Views
import Derived.Carry
import Derived.Lib.SliceRun
namespace Go.Proofs.YtjogkfcjlljjcaaDoorW.PrintLast
open Go.Proofs.YtjogkfcjlljjcaaDoorW.PrintWords (Aside0)
section
variable {P : Program} {ops : Array Oper} {Q : Exit → Act → World → Prop} {md : Region.Mode} {S : World → Prop} {ds : List Nat} {T : Bool × List (List Nat × List Nat)} {B : List Nat}
theorem pon_ (i : Nat) (N : Option Tmp) {oi : Oper} {v : Value} {fuel : Nat} {l : Array Bool} {a : Act} {w : World} (l' : Array Bool) (hT : rtab md ops = T) {a' : Act} (h : wpAnyLast P md ops Q S ds fuel l' a' w)
    (hi : ops[i]? = some oi := by rfl) (hN : oi.dst = N := by rfl) (hc : anyT T l.toList l'.toList i = true := by kernel_rfl) (hQ : ∀ c a w, Q (.panic c) (a.put oi.dst v) w → Q (.panic c) a w := by exact (fun _ _ _ h => h))
    (hw : Region.wanted oi (yielded ops a.tmps) = true := by rfl) (hy : ∀ w', (execOp a.eval oi).run P w' = .ok (.value v) w' := by intro w'; go_simp; with_reducible rfl)
    (ha : a.put N v = a' := by simp only [Act.put, la_, lb_, lc_, i64_w, i32_w]; rfl) : wpAnyLast P md ops Q S ds (fuel + 1) l a w :=
  pure_ (i := i) (N := N) (v := v) l' hi hN (any_of hT hc) hQ (Or.inl ⟨hw, hy⟩) ha h
theorem ptk_ (i : Nat) (N : Option Tmp) {oi : Oper} {v : Value} {fuel : Nat} {l : Array Bool} {a : Act} {w : World} (l' : Array Bool) (hT : rtab md ops = T) (hB : waitsOk T.2 B = true) (hS : S w) {a' : Act} (h : wpAnyLast P md ops Q S ds fuel l' a' w)
    (hi : ops[i]? = some oi := by rfl) (hN : oi.dst = N := by rfl) (hc : takeW T B ds l.toList l'.toList i = true := by kernel_rfl) (hQ : ∀ c a w, Q (.panic c) (a.put oi.dst v) w → Q (.panic c) a w := by exact (fun _ _ _ h => h))
    (hw : Region.wanted oi (yielded ops a.tmps) = true := by rfl) (hy : ∀ w', S w' → (execOp a.eval oi).run P w' = .ok (.value v) w' := by intro w' hs_; (try dsimp only at hs_); (repeat (obtain ⟨_, hs_⟩ := hs_)); go_simp; with_reducible rfl)
    (ha : a.put N v = a' := by simp only [Act.put, la_, lb_, lc_, i64_w, i32_w]; rfl) : wpAnyLast P md ops Q S ds (fuel + 1) l a w :=
  take_ (i := i) (N := N) (v := v) l' hi hN (take_ofW hT hB hc) hQ (Or.inl ⟨hw, hy⟩) hS ha h
end
end Go.Proofs.YtjogkfcjlljjcaaDoorW.PrintLast
namespace Go.Proofs.YtjogkfcjlljjcaaDoor.P
open Go.RowKit Go.Proofs.YtjogkfcjlljjcaaDoorW.PrintWords Go.Proofs.YtjogkfcjlljjcaaDoorW.PrintLast Go.Proofs.YtjogkfcjlljjcaaDoorW.PrintMore
attribute [local go_sem] max2_int min2_int max_two min_two max_three min_three max_four min_four   -- for this text's walks alone
set_option linter.unusedVariables false
set_option linter.unusedSimpArgs false
set_option linter.unnecessarySimpa false
theorem headgatekeep_Regs.mono_l : ∀ k, (∀ y0 y1 y2, LeO (headgatekeep_Regs.l0 k y0 y1 y2) (headgatekeep_Regs.l0 (k + 1) y0 y1 y2))
  | 0 => fun _ _ _ r h => by simp [headgatekeep_Regs.l0] at h
  | k + 1 => by
    have ih0 := headgatekeep_Regs.mono_l k
    · intro y0 y1 y2
      unfold headgatekeep_Regs.l0
      repeat' first
      | (with_reducible exact ih0 _ _ _)
      | (with_reducible exact LeO.refl _)
      | (with_reducible exact LeO.none _)
      | (with_reducible refine LeO.ite ?_ ?_)
      | (with_reducible refine LeO.bind ?_ (fun _ => ?_))
      | exact ih0 _ _ _
      | exact LeO.none _
      | refine LeO.ite ?_ ?_
      | refine LeO.bind ?_ (fun _ => ?_)
theorem headgatekeep_Regs.mono : ∀ a0 a1 k, LeO (headgatekeep_Regs.f k a0 a1) (headgatekeep_Regs.f (k + 1) a0 a1) := by
  intro a0 a1 k
  have ih0 := headgatekeep_Regs.mono_l k
  unfold headgatekeep_Regs.f
  repeat' first
      | (with_reducible exact ih0 _ _ _)
      | (with_reducible exact LeO.refl _)
      | (with_reducible exact LeO.none _)
      | (with_reducible refine LeO.ite ?_ ?_)
      | (with_reducible refine LeO.bind ?_ (fun _ => ?_))
      | exact ih0 _ _ _
      | exact LeO.none _
      | refine LeO.ite ?_ ?_
      | refine LeO.bind ?_ (fun _ => ?_)
set_option maxHeartbeats 8000000 in
set_option maxRecDepth 100000 in
theorem headgatekeep_Regs.calls (k : Nat) (A0 : Option Addr) (c0 : Nat) (l0 : List (S53)) (A1 : Option Addr) (c1 : Nat) (l1 : List (S53)) (r : Bool) (w : World) (hr0 : Kd.C k53 w A0 l0.length l0) (hc0 : l0.length ≤ c0) (hr1 : Kd.C k53 w A1 l1.length l1) (hc1 : l1.length ≤ c1) (h : headgatekeep_Regs.f k l0 l1 = some r) :
    Calls Tryd.prog 23 #[.slice A0 l0.length c0, .slice A1 l1.length c1] w fun e w' => e = .returned (.bool r) ∧ Drawn0 w w' := by
  have HR0 := Aside0.mk hr0
  have HC0 := Aside0.mk hc0
  clear hr0 hc0
  have HR1 := Aside0.mk hr1
  have HC1 := Aside0.mk hc1
  clear hr1 hc1
  have H : (if (l0.length : Int) = (l1.length : Int) then (headgatekeep_Regs.l0 k l0 l1 0) else (some false)) = some r := h
  clear h
  by_cases c3 : (l0.length : Int) = (l1.length : Int)
  · rw [if_pos c3] at H
    have c3b0 : ((l0.length : Int) == (l1.length : Int)) = true := beq_iff_eq.mpr c3
    have c3b1 : ((l0.length : Int) != (l1.length : Int)) = false := bne_eq_false_iff_eq.mpr c3
    have c3b2 : (l0.length == l1.length) = true := by first | simpa using c3 | (simp at c3 ⊢; omega)
    clear c3
    have H' := Aside0.mk H
    clear H
    go_enter Tryd.func23, Tryd.ntmps23
    go_wp2
    repeat (go_quiet (fail); try go_wp2)
    go_loopg [5] k (fun kq v5 w' => ∃ (x5_1 : Int), v5 = .int .i64 x5_1 ∧ Aside0 (headgatekeep_Regs.l0 kq l0 l1 x5_1 = some r) ∧ Aside0 (kq ≤ k) ∧ Drawn0 w w')
    case atStart => exact ⟨(0), (by first | rfl | (simp; done) | (simp [*]; done)), H', ⟨Nat.le_refl _⟩, by repeat (first | exact Drawn0.refl _ | apply Drawn0.step)⟩
    case round =>
      clear H'
      try clear c1
      try clear c2
      try clear p2
      try clear c3
      try clear c3b0
      try clear c3b1
      try clear c3b2
      obtain ⟨x5_1, rfl, HA, HK1, ⟨m1, rfl⟩⟩ := hrel
      cases gk with
      | zero => exact absurd HA.out (by simp [headgatekeep_Regs.l0])
      | succ k1 =>
        have H := HA.out
        clear HA
        simp only [headgatekeep_Regs.l0] at H
        by_cases c4 : x5_1 < (l0.length : Int)
        · rw [if_pos c4] at H
          have c4b0 : decide (x5_1 < (l0.length : Int)) = true := decide_eq_true c4
          clear c4
          by_cases c5 : 0 ≤ x5_1
          · rw [if_pos c5] at H
            have c5b0 : decide (0 ≤ x5_1) = true := decide_eq_true c5
            clear c5
            by_cases c6 : x5_1 < (l1.length : Int)
            · rw [if_pos c6] at H
              have c6b0 : decide (x5_1 < (l1.length : Int)) = true := decide_eq_true c6
              clear c6
              by_cases c7 : ((rd_T53 l0 x5_1).f0).toList = ((rd_T53 l1 x5_1).f0).toList
              · rw [if_pos c7] at H
                have c7b0 : (((rd_T53 l0 x5_1).f0).toList == ((rd_T53 l1 x5_1).f0).toList) = true := beq_iff_eq.mpr c7
                have c7b1 : (((rd_T53 l0 x5_1).f0).toList != ((rd_T53 l1 x5_1).f0).toList) = false := bne_eq_false_iff_eq.mpr c7
                clear c7
                by_cases c8 : ((rd_T53 l0 x5_1).f1) = ((rd_T53 l1 x5_1).f1)
                · rw [if_pos c8] at H
                  have c8b0 : (((rd_T53 l0 x5_1).f1) == ((rd_T53 l1 x5_1).f1)) = true := beq_iff_eq.mpr c8
                  have c8b1 : (((rd_T53 l0 x5_1).f1) != ((rd_T53 l1 x5_1).f1)) = false := bne_eq_false_iff_eq.mpr c8
                  clear c8
                  have H' := Aside0.mk H
                  clear H
                  have p223 : 0 ≤ (x5_1 : Int) := of_decide_eq_true (by first | (with_reducible assumption) | assumption)
                  have q223 : x5_1 < (l0.length : Int) := of_decide_eq_true (by first | (with_reducible assumption) | assumption)
                  obtain ⟨ad223, e223, hx223_0, hx223_1⟩ := at_T53 HR0.out x5_1 p223 q223
                  cases e223
                  replace p223 := eq_true p223
                  replace q223 := eq_true q223
                  have p224 : 0 ≤ (x5_1 : Int) := of_decide_eq_true (by first | (with_reducible assumption) | assumption)
                  have q224 : x5_1 < (l1.length : Int) := of_decide_eq_true (by first | (with_reducible assumption) | assumption)
                  obtain ⟨ad224, e224, hx224_0, hx224_1⟩ := at_T53 HR1.out x5_1 p224 q224
                  cases e224
                  replace p224 := eq_true p224
                  replace q224 := eq_true q224
                  have p225 : 0 ≤ (x5_1 : Int) := of_decide_eq_true (by first | (with_reducible assumption) | assumption)
                  have q225 : x5_1 < (l0.length : Int) := of_decide_eq_true (by first | (with_reducible assumption) | assumption)
                  obtain ⟨ad225, e225, hx225_0, hx225_1⟩ := at_T53 HR0.out x5_1 p225 q225
                  obtain rfl : ad223 = ad225 := (by injection e225)
                  replace p225 := eq_true p225
                  replace q225 := eq_true q225
                  have p226 : 0 ≤ (x5_1 : Int) := of_decide_eq_true (by first | (with_reducible assumption) | assumption)
                  have q226 : x5_1 < (l1.length : Int) := of_decide_eq_true (by first | (with_reducible assumption) | assumption)
                  obtain ⟨ad226, e226, hx226_0, hx226_1⟩ := at_T53 HR1.out x5_1 p226 q226
                  obtain rfl : ad224 = ad226 := (by injection e226)
                  replace p226 := eq_true p226
                  replace q226 := eq_true q226
                  go_wp2
                  repeat (go_quiet (fail); try go_wp2)
                  go_roundg k1
                  case measure => have := HK1.out; omega
                  case rel => exact ⟨(wrap64 (x5_1 + 1)), (by first | rfl | (simp; done) | (simp [*]; done)), H', ⟨by have := HK1.out; omega⟩, by repeat (first | exact Drawn0.refl _ | apply Drawn0.step)⟩
                · rw [if_neg c8] at H
                  have c8b0 : (((rd_T53 l0 x5_1).f1) == ((rd_T53 l1 x5_1).f1)) = false := beq_eq_false_iff_ne.mpr c8
                  have c8b1 : (((rd_T53 l0 x5_1).f1) != ((rd_T53 l1 x5_1).f1)) = true := bne_iff_ne.mpr c8
                  obtain rfl := Option.some.inj H
                  have p223 : 0 ≤ (x5_1 : Int) := of_decide_eq_true (by first | (with_reducible assumption) | assumption)
                  have q223 : x5_1 < (l0.length : Int) := of_decide_eq_true (by first | (with_reducible assumption) | assumption)
                  obtain ⟨ad223, e223, hx223_0, hx223_1⟩ := at_T53 HR0.out x5_1 p223 q223
                  cases e223
                  replace p223 := eq_true p223
                  replace q223 := eq_true q223
                  have p224 : 0 ≤ (x5_1 : Int) := of_decide_eq_true (by first | (with_reducible assumption) | assumption)
                  have q224 : x5_1 < (l1.length : Int) := of_decide_eq_true (by first | (with_reducible assumption) | assumption)
                  obtain ⟨ad224, e224, hx224_0, hx224_1⟩ := at_T53 HR1.out x5_1 p224 q224
                  cases e224
                  replace p224 := eq_true p224
                  replace q224 := eq_true q224
                  have p225 : 0 ≤ (x5_1 : Int) := of_decide_eq_true (by first | (with_reducible assumption) | assumption)
                  have q225 : x5_1 < (l0.length : Int) := of_decide_eq_true (by first | (with_reducible assumption) | assumption)
                  obtain ⟨ad225, e225, hx225_0, hx225_1⟩ := at_T53 HR0.out x5_1 p225 q225
                  obtain rfl : ad223 = ad225 := (by injection e225)
                  replace p225 := eq_true p225
                  replace q225 := eq_true q225
                  have p226 : 0 ≤ (x5_1 : Int) := of_decide_eq_true (by first | (with_reducible assumption) | assumption)
                  have q226 : x5_1 < (l1.length : Int) := of_decide_eq_true (by first | (with_reducible assumption) | assumption)
                  obtain ⟨ad226, e226, hx226_0, hx226_1⟩ := at_T53 HR1.out x5_1 p226 q226
                  obtain rfl : ad224 = ad226 := (by injection e226)
                  replace p226 := eq_true p226
                  replace q226 := eq_true q226
                  go_wp2
                  repeat (go_quiet (fail); try go_wp2)
                  go_ret
                  exact ⟨by first | rfl | (simp; done) | (simp [*]; done), by repeat (first | exact Drawn0.refl _ | apply Drawn0.step)⟩
              · rw [if_neg c7] at H
                have c7b0 : (((rd_T53 l0 x5_1).f0).toList == ((rd_T53 l1 x5_1).f0).toList) = false := beq_eq_false_iff_ne.mpr c7
                have c7b1 : (((rd_T53 l0 x5_1).f0).toList != ((rd_T53 l1 x5_1).f0).toList) = true := bne_iff_ne.mpr c7
                obtain rfl := Option.some.inj H
                have p223 : 0 ≤ (x5_1 : Int) := of_decide_eq_true (by first | (with_reducible assumption) | assumption)
                have q223 : x5_1 < (l0.length : Int) := of_decide_eq_true (by first | (with_reducible assumption) | assumption)
                obtain ⟨ad223, e223, hx223_0, hx223_1⟩ := at_T53 HR0.out x5_1 p223 q223
                cases e223
                replace p223 := eq_true p223
                replace q223 := eq_true q223
                have p224 : 0 ≤ (x5_1 : Int) := of_decide_eq_true (by first | (with_reducible assumption) | assumption)
                have q224 : x5_1 < (l1.length : Int) := of_decide_eq_true (by first | (with_reducible assumption) | assumption)
                obtain ⟨ad224, e224, hx224_0, hx224_1⟩ := at_T53 HR1.out x5_1 p224 q224
                cases e224
                replace p224 := eq_true p224
                replace q224 := eq_true q224
                go_wp2
                repeat (go_quiet (fail); try go_wp2)
                go_ret
                exact ⟨by first | rfl | (simp; done) | (simp [*]; done), by repeat (first | exact Drawn0.refl _ | apply Drawn0.step)⟩
            · rw [if_neg c6] at H
              exact absurd H (by simp)
          · rw [if_neg c5] at H
            exact absurd H (by simp)
        · rw [if_neg c4] at H
          have c4b0 : decide (x5_1 < (l0.length : Int)) = false := decide_eq_false c4
          clear c4
          obtain rfl := Option.some.inj H
          go_wp2
          repeat (go_quiet (fail); try go_wp2)
          go_ret
          exact ⟨by first | rfl | (simp; done) | (simp [*]; done), by repeat (first | exact Drawn0.refl _ | apply Drawn0.step)⟩
  · rw [if_neg c3] at H
    have c3b0 : ((l0.length : Int) == (l1.length : Int)) = false := beq_eq_false_iff_ne.mpr c3
    have c3b1 : ((l0.length : Int) != (l1.length : Int)) = true := bne_iff_ne.mpr c3
    have c3b2 : (l0.length == l1.length) = false := by first | simpa using c3 | (simp at c3 ⊢; omega)
    obtain rfl := Option.some.inj H
    go_enter Tryd.func23, Tryd.ntmps23
    go_wp2
    repeat (go_quiet (fail); try go_wp2)
    go_ret
    exact ⟨by first | rfl | (simp; done) | (simp [*]; done), by repeat (first | exact Drawn0.refl _ | apply Drawn0.step)⟩
theorem headgatekeep_Tables.mono : ∀ a0 a1 a2 a3 a4 a5 a6 a7 a8 a9 k, LeO (headgatekeep_Tables.f k a0 a1 a2 a3 a4 a5 a6 a7 a8 a9) (headgatekeep_Tables.f (k + 1) a0 a1 a2 a3 a4 a5 a6 a7 a8 a9) := by
 intro a0 a1 a2 a3 a4 a5 a6 a7 a8 a9 k
 unfold headgatekeep_Tables.f
 repeat' first
   | (with_reducible exact headgatekeep_Regs.mono _ _ _)
   | (with_reducible exact LeO.refl _)
   | (with_reducible exact LeO.none _)
   | (with_reducible refine LeO.ite ?_ ?_)
   | (with_reducible refine LeO.bind ?_ (fun _ => ?_))
   | exact headgatekeep_Regs.mono _ _ _
   | exact LeO.none _
   | refine LeO.ite ?_ ?_
   | refine LeO.bind ?_ (fun _ => ?_)
set_option maxHeartbeats 8000000 in
set_option maxRecDepth 100000 in
theorem headgatekeep_Tables.calls (k : Nat) (A0_0 : Option Addr) (c0_0 : Nat) (l0_0 : List (S53)) (a0_1 : Int) (a0_2 : ByteArray) (a0_3 : Int) (a0_4 : Bool) (A1_0 : Option Addr) (c1_0 : Nat) (l1_0 : List (S53)) (a1_1 : Int) (a1_2 : ByteArray) (a1_3 : Int) (a1_4 : Bool) (r : Bool) (w : World) (hr0_0 : Kd.C k53 w A0_0 l0_0.length l0_0) (hc0_0 : l0_0.length ≤ c0_0) (hr1_0 : Kd.C k53 w A1_0 l1_0.length l1_0) (hc1_0 : l1_0.length ≤ c1_0) (h : headgatekeep_Tables.f k l0_0 a0_1 a0_2 a0_3 a0_4 l1_0 a1_1 a1_2 a1_3 a1_4 = some r) :
  Calls Tryd.prog 17 #[.agg #[.slice A0_0 l0_0.length c0_0, .int .i64 a0_1, .string a0_2, .int .u32 a0_3, .bool a0_4], .agg #[.slice A1_0 l1_0.length c1_0, .int .i64 a1_1, .string a1_2, .int .u32 a1_3, .bool a1_4]] w fun e w' => e = .returned (.bool r) ∧ Below w.heap.size w w' := by
 have hu27 := Tryd.underlying27
 have HR0_0 := Aside0.mk hr0_0
 have HC0_0 := Aside0.mk hc0_0
 clear hr0_0 hc0_0
 have HR1_0 := Aside0.mk hr1_0
 have HC1_0 := Aside0.mk hc1_0
 clear hr1_0 hc1_0
 have HB := Aside0.mk (Below.refl w.heap.size w)
 have H : ((headgatekeep_Regs.f k l0_0 l1_0).bind fun t229 => (if t229 = true then (if a0_1 = a1_1 then (if a0_2.toList = a1_2.toList then (if a0_3 = a1_3 then (some (a0_4 == a1_4)) else (some false)) else (some false)) else (some false)) else (some false))) = some r := h
 clear h
 replace H := Option.bind_eq_some_iff.mp H
 obtain ⟨t229, A30, H⟩ := H
 try dsimp only at H
 have A3 := Aside0.mk A30
 clear A30
 refine neg_first (p := (t229 = true)) (fun c4 => ?_) (fun c4 => ?_)
 ·replace c4 := Bool.eq_false_iff.mpr c4
  subst c4
  have H1 := H
  rw [if_neg (show ¬ (false = true) by decide)] at H1
  clear H
  have H := H1
  clear H1
  obtain rfl := Option.some.inj H
  go_enter Tryd.func17, Tryd.ntmps17
  go_wp2_with (first | ((with_reducible refine gate_dst (N := 2) rfl ?_); refine box_event ?hg (N := 2) ?hd (cs := #[.slice A0_0 l0_0.length c0_0, .int .i64 a0_1, .string a0_2, .int .u32 a0_3, .bool a0_4]) (t := 27) ?hr ?_; (case hd => rfl); (case hg => rfl); (case hr => first | (go_simp; done) | (go_simp; rfl)); intro gb227 hg w28 hbox hb; have n0_ := Aside0.mk (below_step (hb_ HB) hb); have n1_ := Aside0.mk (hbox); have n2_ := Aside0.mk ((by rw [hg]; exact (below_size (hb_ HB)) : w.heap.size ≤ gb227)); have n3_ := Aside0.mk ((by rw [hg]; exact (below_size (hb_ HB)) : w.heap.size ≤ gb227)); clear HB; have HB := n0_; have BK227 := n1_; have GW227 := n2_; have GE227 := n3_; clear n0_ n1_ n2_ n3_; clear hb hbox hg) | ((with_reducible refine gate_dst (N := 3) rfl ?_); refine box_event ?hg (N := 3) ?hd (cs := #[.slice A1_0 l1_0.length c1_0, .int .i64 a1_1, .string a1_2, .int .u32 a1_3, .bool a1_4]) (t := 27) ?hr ?_; (case hd => rfl); (case hg => rfl); (case hr => first | (go_simp; done) | (go_simp; rfl)); intro gb228 hg w29 hbox hb; have n0_ := Aside0.mk (blk_below (bk_ BK227) hb); have n1_ := Aside0.mk (below_step (hb_ HB) hb); have n2_ := Aside0.mk (hbox); have n3_ := Aside0.mk ((by rw [hg]; exact (below_size (hb_ HB)) : w.heap.size ≤ gb228)); have n4_ := Aside0.mk ((by rw [hg]; exact (below_size (hb_ HB)) : w.heap.size ≤ gb228)); have n5_ := Aside0.mk ((by rw [hg]; exact Nat.ne_of_lt (blk_lt (g := gb227) (o := .cells #[.slice A0_0 l0_0.length c0_0, .int .i64 a0_1, .string a0_2, .int .u32 a0_3, .bool a0_4] 27 (0, 0)) (bk_ BK227)) : gb227 ≠ gb228)); have n6_ := Aside0.mk ((by rw [hg]; exact Nat.ne_of_gt (blk_lt (g := gb227) (o := .cells #[.slice A0_0 l0_0.length c0_0, .int .i64 a0_1, .string a0_2, .int .u32 a0_3, .bool a0_4] 27 (0, 0)) (bk_ BK227)) : gb228 ≠ gb227)); clear BK227; clear HB; have BK227 := n0_; have HB := n1_; have BK228 := n2_; have GW228 := n3_; have GE228 := n4_; have NB227_228 := n5_; have NB228_227 := n6_; clear n0_ n1_ n2_ n3_ n4_ n5_ n6_; clear hb hbox hg; have hnb30 := NB227_228.out; have hnc30 := NB228_227.out; have hcz31_0 : w29.cell? ⟨gb227, 0, none⟩ = some (.slice A0_0 l0_0.length c0_0) := (blk_cell BK227.out 0).trans rfl; have hcz31_1 : w29.cell? ⟨gb227, 1, none⟩ = some (.int .i64 a0_1) := (blk_cell BK227.out 1).trans rfl; have hcz31_2 : w29.cell? ⟨gb227, 2, none⟩ = some (.string a0_2) := (blk_cell BK227.out 2).trans rfl; have hcz31_3 : w29.cell? ⟨gb227, 3, none⟩ = some (.int .u32 a0_3) := (blk_cell BK227.out 3).trans rfl; have hcz31_4 : w29.cell? ⟨gb227, 4, none⟩ = some (.bool a0_4) := (blk_cell BK227.out 4).trans rfl; have hfz31_0 := blk_frozen BK227.out 0; have hfz31_1 := blk_frozen BK227.out 1; have hfz31_2 := blk_frozen BK227.out 2; have hfz31_3 := blk_frozen BK227.out 3; have hfz31_4 := blk_frozen BK227.out 4; have hcz32_0 : w29.cell? ⟨gb228, 0, none⟩ = some (.slice A1_0 l1_0.length c1_0) := (blk_cell BK228.out 0).trans rfl; have hcz32_1 : w29.cell? ⟨gb228, 1, none⟩ = some (.int .i64 a1_1) := (blk_cell BK228.out 1).trans rfl; have hcz32_2 : w29.cell? ⟨gb228, 2, none⟩ = some (.string a1_2) := (blk_cell BK228.out 2).trans rfl; have hcz32_3 : w29.cell? ⟨gb228, 3, none⟩ = some (.int .u32 a1_3) := (blk_cell BK228.out 3).trans rfl; have hcz32_4 : w29.cell? ⟨gb228, 4, none⟩ = some (.bool a1_4) := (blk_cell BK228.out 4).trans rfl; have hfz32_0 := blk_frozen BK228.out 0; have hfz32_1 := blk_frozen BK228.out 1; have hfz32_2 := blk_frozen BK228.out 2; have hfz32_3 := blk_frozen BK228.out 3; have hfz32_4 := blk_frozen BK228.out 4) | ((with_reducible refine gate_callee (f := 23) rfl ?_); refine goesL_ (some 9) rfl rfl Tryd.func23 (by kernel_rfl) rfl #[.slice A0_0 l0_0.length c0_0, .slice A1_0 l1_0.length c1_0] rfl (by (try simp only [List.map_toArray, List.map_cons, List.map_nil]); first | done | rfl | (simp only [List.length_drop, List.length_take]; rfl)) ?_; (with_reducible refine (headgatekeep_Regs.calls k _ _ l0_0 _ _ l1_0 false _ ?side1 ?side2 ?side3 ?side4 A3.out).mono ?_); (case side1 => repeat (first | exact (Kd.C_below HR0_0.out HB.out) | (with_reducible refine Kd.C_alloc ?_ _) | (with_reducible refine Kd.C_drewN ?_ _) | (with_reducible refine Kd.C_drew ?_))); (case side2 => exact HC0_0.out); (case side3 => repeat (first | exact (Kd.C_below HR1_0.out HB.out) | (with_reducible refine Kd.C_alloc ?_ _) | (with_reducible refine Kd.C_drewN ?_ _) | (with_reducible refine Kd.C_drew ?_))); (case side4 => exact HC1_0.out); rintro e w' ⟨rfl, ⟨nd, rfl⟩⟩; refine ⟨_, rfl, ?_⟩))
  go_ret
  exact ⟨by first | rfl | (simp [errW_none, errW_some] <;> rfl) | (simp [*, errW_none, errW_some] <;> rfl) | (simp [bt, *]; done) | (unfold bt; simp [*]; done), by repeat (first | (with_reducible first | exact HB.out | apply below_alloc | apply pw_below_drewN | apply below_drew1 | refine below_set ?_ GE227.out | refine below_set ?_ GE228.out) | exact HB.out)⟩
 subst c4
 have H1 := H
 rw [if_pos rfl] at H1
 clear H
 have H := H1
 clear H1
 refine neg_first (p := (a0_1 = a1_1)) (fun c5 => ?_) (fun c5 => ?_)
 ·rw [if_neg c5] at H
  have c5b0 : (a0_1 == a1_1) = false := beq_eq_false_iff_ne.mpr c5
  have c5b1 : (a0_1 != a1_1) = true := bne_iff_ne.mpr c5
  obtain rfl := Option.some.inj H
  go_enter Tryd.func17, Tryd.ntmps17
  go_wp2_with (first | ((with_reducible refine gate_dst (N := 2) rfl ?_); refine box_event ?hg (N := 2) ?hd (cs := #[.slice A0_0 l0_0.length c0_0, .int .i64 a0_1, .string a0_2, .int .u32 a0_3, .bool a0_4]) (t := 27) ?hr ?_; (case hd => rfl); (case hg => rfl); (case hr => first | (go_simp; done) | (go_simp; rfl)); intro gb227 hg w23 hbox hb; have n0_ := Aside0.mk (below_step (hb_ HB) hb); have n1_ := Aside0.mk (hbox); have n2_ := Aside0.mk ((by rw [hg]; exact (below_size (hb_ HB)) : w.heap.size ≤ gb227)); have n3_ := Aside0.mk ((by rw [hg]; exact (below_size (hb_ HB)) : w.heap.size ≤ gb227)); clear HB; have HB := n0_; have BK227 := n1_; have GW227 := n2_; have GE227 := n3_; clear n0_ n1_ n2_ n3_; clear hb hbox hg) | ((with_reducible refine gate_dst (N := 3) rfl ?_); refine box_event ?hg (N := 3) ?hd (cs := #[.slice A1_0 l1_0.length c1_0, .int .i64 a1_1, .string a1_2, .int .u32 a1_3, .bool a1_4]) (t := 27) ?hr ?_; (case hd => rfl); (case hg => rfl); (case hr => first | (go_simp; done) | (go_simp; rfl)); intro gb228 hg w24 hbox hb; have n0_ := Aside0.mk (blk_below (bk_ BK227) hb); have n1_ := Aside0.mk (below_step (hb_ HB) hb); have n2_ := Aside0.mk (hbox); have n3_ := Aside0.mk ((by rw [hg]; exact (below_size (hb_ HB)) : w.heap.size ≤ gb228)); have n4_ := Aside0.mk ((by rw [hg]; exact (below_size (hb_ HB)) : w.heap.size ≤ gb228)); have n5_ := Aside0.mk ((by rw [hg]; exact Nat.ne_of_lt (blk_lt (g := gb227) (o := .cells #[.slice A0_0 l0_0.length c0_0, .int .i64 a0_1, .string a0_2, .int .u32 a0_3, .bool a0_4] 27 (0, 0)) (bk_ BK227)) : gb227 ≠ gb228)); have n6_ := Aside0.mk ((by rw [hg]; exact Nat.ne_of_gt (blk_lt (g := gb227) (o := .cells #[.slice A0_0 l0_0.length c0_0, .int .i64 a0_1, .string a0_2, .int .u32 a0_3, .bool a0_4] 27 (0, 0)) (bk_ BK227)) : gb228 ≠ gb227)); clear BK227; clear HB; have BK227 := n0_; have HB := n1_; have BK228 := n2_; have GW228 := n3_; have GE228 := n4_; have NB227_228 := n5_; have NB228_227 := n6_; clear n0_ n1_ n2_ n3_ n4_ n5_ n6_; clear hb hbox hg; have hnb25 := NB227_228.out; have hnc25 := NB228_227.out; have hcz26_0 : w24.cell? ⟨gb227, 0, none⟩ = some (.slice A0_0 l0_0.length c0_0) := (blk_cell BK227.out 0).trans rfl; have hcz26_1 : w24.cell? ⟨gb227, 1, none⟩ = some (.int .i64 a0_1) := (blk_cell BK227.out 1).trans rfl; have hcz26_2 : w24.cell? ⟨gb227, 2, none⟩ = some (.string a0_2) := (blk_cell BK227.out 2).trans rfl; have hcz26_3 : w24.cell? ⟨gb227, 3, none⟩ = some (.int .u32 a0_3) := (blk_cell BK227.out 3).trans rfl; have hcz26_4 : w24.cell? ⟨gb227, 4, none⟩ = some (.bool a0_4) := (blk_cell BK227.out 4).trans rfl; have hfz26_0 := blk_frozen BK227.out 0; have hfz26_1 := blk_frozen BK227.out 1; have hfz26_2 := blk_frozen BK227.out 2; have hfz26_3 := blk_frozen BK227.out 3; have hfz26_4 := blk_frozen BK227.out 4; have hcz27_0 : w24.cell? ⟨gb228, 0, none⟩ = some (.slice A1_0 l1_0.length c1_0) := (blk_cell BK228.out 0).trans rfl; have hcz27_1 : w24.cell? ⟨gb228, 1, none⟩ = some (.int .i64 a1_1) := (blk_cell BK228.out 1).trans rfl; have hcz27_2 : w24.cell? ⟨gb228, 2, none⟩ = some (.string a1_2) := (blk_cell BK228.out 2).trans rfl; have hcz27_3 : w24.cell? ⟨gb228, 3, none⟩ = some (.int .u32 a1_3) := (blk_cell BK228.out 3).trans rfl; have hcz27_4 : w24.cell? ⟨gb228, 4, none⟩ = some (.bool a1_4) := (blk_cell BK228.out 4).trans rfl; have hfz27_0 := blk_frozen BK228.out 0; have hfz27_1 := blk_frozen BK228.out 1; have hfz27_2 := blk_frozen BK228.out 2; have hfz27_3 := blk_frozen BK228.out 3; have hfz27_4 := blk_frozen BK228.out 4) | ((with_reducible refine gate_callee (f := 23) rfl ?_); refine goesL_ (some 9) rfl rfl Tryd.func23 (by kernel_rfl) rfl #[.slice A0_0 l0_0.length c0_0, .slice A1_0 l1_0.length c1_0] rfl (by (try simp only [List.map_toArray, List.map_cons, List.map_nil]); first | done | rfl | (simp only [List.length_drop, List.length_take]; rfl)) ?_; (with_reducible refine (headgatekeep_Regs.calls k _ _ l0_0 _ _ l1_0 true _ ?side1 ?side2 ?side3 ?side4 A3.out).mono ?_); (case side1 => repeat (first | exact (Kd.C_below HR0_0.out HB.out) | (with_reducible refine Kd.C_alloc ?_ _) | (with_reducible refine Kd.C_drewN ?_ _) | (with_reducible refine Kd.C_drew ?_))); (case side2 => exact HC0_0.out); (case side3 => repeat (first | exact (Kd.C_below HR1_0.out HB.out) | (with_reducible refine Kd.C_alloc ?_ _) | (with_reducible refine Kd.C_drewN ?_ _) | (with_reducible refine Kd.C_drew ?_))); (case side4 => exact HC1_0.out); rintro e w' ⟨rfl, ⟨nd, rfl⟩⟩; refine ⟨_, rfl, ?_⟩))
  go_ret
  exact ⟨by first | rfl | (simp [errW_none, errW_some] <;> rfl) | (simp [*, errW_none, errW_some] <;> rfl) | (simp [bt, *]; done) | (unfold bt; simp [*]; done), by repeat (first | (with_reducible first | exact HB.out | apply below_alloc | apply pw_below_drewN | apply below_drew1 | refine below_set ?_ GE227.out | refine below_set ?_ GE228.out) | exact HB.out)⟩
 rw [if_pos c5] at H
 have c5b0 : (a0_1 == a1_1) = true := beq_iff_eq.mpr c5
 have c5b1 : (a0_1 != a1_1) = false := bne_eq_false_iff_eq.mpr c5
 clear c5
 refine neg_first (p := (a0_2.toList = a1_2.toList)) (fun c6 => ?_) (fun c6 => ?_)
 ·rw [if_neg c6] at H
  have c6b0 : (a0_2.toList == a1_2.toList) = false := beq_eq_false_iff_ne.mpr c6
  have c6b1 : (a0_2.toList != a1_2.toList) = true := bne_iff_ne.mpr c6
  obtain rfl := Option.some.inj H
  go_enter Tryd.func17, Tryd.ntmps17
  go_wp2_with (first | ((with_reducible refine gate_dst (N := 2) rfl ?_); refine box_event ?hg (N := 2) ?hd (cs := #[.slice A0_0 l0_0.length c0_0, .int .i64 a0_1, .string a0_2, .int .u32 a0_3, .bool a0_4]) (t := 27) ?hr ?_; (case hd => rfl); (case hg => rfl); (case hr => first | (go_simp; done) | (go_simp; rfl)); intro gb227 hg w18 hbox hb; have n0_ := Aside0.mk (below_step (hb_ HB) hb); have n1_ := Aside0.mk (hbox); have n2_ := Aside0.mk ((by rw [hg]; exact (below_size (hb_ HB)) : w.heap.size ≤ gb227)); have n3_ := Aside0.mk ((by rw [hg]; exact (below_size (hb_ HB)) : w.heap.size ≤ gb227)); clear HB; have HB := n0_; have BK227 := n1_; have GW227 := n2_; have GE227 := n3_; clear n0_ n1_ n2_ n3_; clear hb hbox hg) | ((with_reducible refine gate_dst (N := 3) rfl ?_); refine box_event ?hg (N := 3) ?hd (cs := #[.slice A1_0 l1_0.length c1_0, .int .i64 a1_1, .string a1_2, .int .u32 a1_3, .bool a1_4]) (t := 27) ?hr ?_; (case hd => rfl); (case hg => rfl); (case hr => first | (go_simp; done) | (go_simp; rfl)); intro gb228 hg w19 hbox hb; have n0_ := Aside0.mk (blk_below (bk_ BK227) hb); have n1_ := Aside0.mk (below_step (hb_ HB) hb); have n2_ := Aside0.mk (hbox); have n3_ := Aside0.mk ((by rw [hg]; exact (below_size (hb_ HB)) : w.heap.size ≤ gb228)); have n4_ := Aside0.mk ((by rw [hg]; exact (below_size (hb_ HB)) : w.heap.size ≤ gb228)); have n5_ := Aside0.mk ((by rw [hg]; exact Nat.ne_of_lt (blk_lt (g := gb227) (o := .cells #[.slice A0_0 l0_0.length c0_0, .int .i64 a0_1, .string a0_2, .int .u32 a0_3, .bool a0_4] 27 (0, 0)) (bk_ BK227)) : gb227 ≠ gb228)); have n6_ := Aside0.mk ((by rw [hg]; exact Nat.ne_of_gt (blk_lt (g := gb227) (o := .cells #[.slice A0_0 l0_0.length c0_0, .int .i64 a0_1, .string a0_2, .int .u32 a0_3, .bool a0_4] 27 (0, 0)) (bk_ BK227)) : gb228 ≠ gb227)); clear BK227; clear HB; have BK227 := n0_; have HB := n1_; have BK228 := n2_; have GW228 := n3_; have GE228 := n4_; have NB227_228 := n5_; have NB228_227 := n6_; clear n0_ n1_ n2_ n3_ n4_ n5_ n6_; clear hb hbox hg; have hnb20 := NB227_228.out; have hnc20 := NB228_227.out; have hcz21_0 : w19.cell? ⟨gb227, 0, none⟩ = some (.slice A0_0 l0_0.length c0_0) := (blk_cell BK227.out 0).trans rfl; have hcz21_1 : w19.cell? ⟨gb227, 1, none⟩ = some (.int .i64 a0_1) := (blk_cell BK227.out 1).trans rfl; have hcz21_2 : w19.cell? ⟨gb227, 2, none⟩ = some (.string a0_2) := (blk_cell BK227.out 2).trans rfl; have hcz21_3 : w19.cell? ⟨gb227, 3, none⟩ = some (.int .u32 a0_3) := (blk_cell BK227.out 3).trans rfl; have hcz21_4 : w19.cell? ⟨gb227, 4, none⟩ = some (.bool a0_4) := (blk_cell BK227.out 4).trans rfl; have hfz21_0 := blk_frozen BK227.out 0; have hfz21_1 := blk_frozen BK227.out 1; have hfz21_2 := blk_frozen BK227.out 2; have hfz21_3 := blk_frozen BK227.out 3; have hfz21_4 := blk_frozen BK227.out 4; have hcz22_0 : w19.cell? ⟨gb228, 0, none⟩ = some (.slice A1_0 l1_0.length c1_0) := (blk_cell BK228.out 0).trans rfl; have hcz22_1 : w19.cell? ⟨gb228, 1, none⟩ = some (.int .i64 a1_1) := (blk_cell BK228.out 1).trans rfl; have hcz22_2 : w19.cell? ⟨gb228, 2, none⟩ = some (.string a1_2) := (blk_cell BK228.out 2).trans rfl; have hcz22_3 : w19.cell? ⟨gb228, 3, none⟩ = some (.int .u32 a1_3) := (blk_cell BK228.out 3).trans rfl; have hcz22_4 : w19.cell? ⟨gb228, 4, none⟩ = some (.bool a1_4) := (blk_cell BK228.out 4).trans rfl; have hfz22_0 := blk_frozen BK228.out 0; have hfz22_1 := blk_frozen BK228.out 1; have hfz22_2 := blk_frozen BK228.out 2; have hfz22_3 := blk_frozen BK228.out 3; have hfz22_4 := blk_frozen BK228.out 4) | ((with_reducible refine gate_callee (f := 23) rfl ?_); refine goesL_ (some 9) rfl rfl Tryd.func23 (by kernel_rfl) rfl #[.slice A0_0 l0_0.length c0_0, .slice A1_0 l1_0.length c1_0] rfl (by (try simp only [List.map_toArray, List.map_cons, List.map_nil]); first | done | rfl | (simp only [List.length_drop, List.length_take]; rfl)) ?_; (with_reducible refine (headgatekeep_Regs.calls k _ _ l0_0 _ _ l1_0 true _ ?side1 ?side2 ?side3 ?side4 A3.out).mono ?_); (case side1 => repeat (first | exact (Kd.C_below HR0_0.out HB.out) | (with_reducible refine Kd.C_alloc ?_ _) | (with_reducible refine Kd.C_drewN ?_ _) | (with_reducible refine Kd.C_drew ?_))); (case side2 => exact HC0_0.out); (case side3 => repeat (first | exact (Kd.C_below HR1_0.out HB.out) | (with_reducible refine Kd.C_alloc ?_ _) | (with_reducible refine Kd.C_drewN ?_ _) | (with_reducible refine Kd.C_drew ?_))); (case side4 => exact HC1_0.out); rintro e w' ⟨rfl, ⟨nd, rfl⟩⟩; refine ⟨_, rfl, ?_⟩))
  go_ret
  exact ⟨by first | rfl | (simp [errW_none, errW_some] <;> rfl) | (simp [*, errW_none, errW_some] <;> rfl) | (simp [bt, *]; done) | (unfold bt; simp [*]; done), by repeat (first | (with_reducible first | exact HB.out | apply below_alloc | apply pw_below_drewN | apply below_drew1 | refine below_set ?_ GE227.out | refine below_set ?_ GE228.out) | exact HB.out)⟩
 rw [if_pos c6] at H
 have c6b0 : (a0_2.toList == a1_2.toList) = true := beq_iff_eq.mpr c6
 have c6b1 : (a0_2.toList != a1_2.toList) = false := bne_eq_false_iff_eq.mpr c6
 clear c6
 refine neg_first (p := (a0_3 = a1_3)) (fun c7 => ?_) (fun c7 => ?_)
 ·rw [if_neg c7] at H
  have c7b0 : (a0_3 == a1_3) = false := beq_eq_false_iff_ne.mpr c7
  have c7b1 : (a0_3 != a1_3) = true := bne_iff_ne.mpr c7
  obtain rfl := Option.some.inj H
  go_enter Tryd.func17, Tryd.ntmps17
  go_wp2_with (first | ((with_reducible refine gate_dst (N := 2) rfl ?_); refine box_event ?hg (N := 2) ?hd (cs := #[.slice A0_0 l0_0.length c0_0, .int .i64 a0_1, .string a0_2, .int .u32 a0_3, .bool a0_4]) (t := 27) ?hr ?_; (case hd => rfl); (case hg => rfl); (case hr => first | (go_simp; done) | (go_simp; rfl)); intro gb227 hg w13 hbox hb; have n0_ := Aside0.mk (below_step (hb_ HB) hb); have n1_ := Aside0.mk (hbox); have n2_ := Aside0.mk ((by rw [hg]; exact (below_size (hb_ HB)) : w.heap.size ≤ gb227)); have n3_ := Aside0.mk ((by rw [hg]; exact (below_size (hb_ HB)) : w.heap.size ≤ gb227)); clear HB; have HB := n0_; have BK227 := n1_; have GW227 := n2_; have GE227 := n3_; clear n0_ n1_ n2_ n3_; clear hb hbox hg) | ((with_reducible refine gate_dst (N := 3) rfl ?_); refine box_event ?hg (N := 3) ?hd (cs := #[.slice A1_0 l1_0.length c1_0, .int .i64 a1_1, .string a1_2, .int .u32 a1_3, .bool a1_4]) (t := 27) ?hr ?_; (case hd => rfl); (case hg => rfl); (case hr => first | (go_simp; done) | (go_simp; rfl)); intro gb228 hg w14 hbox hb; have n0_ := Aside0.mk (blk_below (bk_ BK227) hb); have n1_ := Aside0.mk (below_step (hb_ HB) hb); have n2_ := Aside0.mk (hbox); have n3_ := Aside0.mk ((by rw [hg]; exact (below_size (hb_ HB)) : w.heap.size ≤ gb228)); have n4_ := Aside0.mk ((by rw [hg]; exact (below_size (hb_ HB)) : w.heap.size ≤ gb228)); have n5_ := Aside0.mk ((by rw [hg]; exact Nat.ne_of_lt (blk_lt (g := gb227) (o := .cells #[.slice A0_0 l0_0.length c0_0, .int .i64 a0_1, .string a0_2, .int .u32 a0_3, .bool a0_4] 27 (0, 0)) (bk_ BK227)) : gb227 ≠ gb228)); have n6_ := Aside0.mk ((by rw [hg]; exact Nat.ne_of_gt (blk_lt (g := gb227) (o := .cells #[.slice A0_0 l0_0.length c0_0, .int .i64 a0_1, .string a0_2, .int .u32 a0_3, .bool a0_4] 27 (0, 0)) (bk_ BK227)) : gb228 ≠ gb227)); clear BK227; clear HB; have BK227 := n0_; have HB := n1_; have BK228 := n2_; have GW228 := n3_; have GE228 := n4_; have NB227_228 := n5_; have NB228_227 := n6_; clear n0_ n1_ n2_ n3_ n4_ n5_ n6_; clear hb hbox hg; have hnb15 := NB227_228.out; have hnc15 := NB228_227.out; have hcz16_0 : w14.cell? ⟨gb227, 0, none⟩ = some (.slice A0_0 l0_0.length c0_0) := (blk_cell BK227.out 0).trans rfl; have hcz16_1 : w14.cell? ⟨gb227, 1, none⟩ = some (.int .i64 a0_1) := (blk_cell BK227.out 1).trans rfl; have hcz16_2 : w14.cell? ⟨gb227, 2, none⟩ = some (.string a0_2) := (blk_cell BK227.out 2).trans rfl; have hcz16_3 : w14.cell? ⟨gb227, 3, none⟩ = some (.int .u32 a0_3) := (blk_cell BK227.out 3).trans rfl; have hcz16_4 : w14.cell? ⟨gb227, 4, none⟩ = some (.bool a0_4) := (blk_cell BK227.out 4).trans rfl; have hfz16_0 := blk_frozen BK227.out 0; have hfz16_1 := blk_frozen BK227.out 1; have hfz16_2 := blk_frozen BK227.out 2; have hfz16_3 := blk_frozen BK227.out 3; have hfz16_4 := blk_frozen BK227.out 4; have hcz17_0 : w14.cell? ⟨gb228, 0, none⟩ = some (.slice A1_0 l1_0.length c1_0) := (blk_cell BK228.out 0).trans rfl; have hcz17_1 : w14.cell? ⟨gb228, 1, none⟩ = some (.int .i64 a1_1) := (blk_cell BK228.out 1).trans rfl; have hcz17_2 : w14.cell? ⟨gb228, 2, none⟩ = some (.string a1_2) := (blk_cell BK228.out 2).trans rfl; have hcz17_3 : w14.cell? ⟨gb228, 3, none⟩ = some (.int .u32 a1_3) := (blk_cell BK228.out 3).trans rfl; have hcz17_4 : w14.cell? ⟨gb228, 4, none⟩ = some (.bool a1_4) := (blk_cell BK228.out 4).trans rfl; have hfz17_0 := blk_frozen BK228.out 0; have hfz17_1 := blk_frozen BK228.out 1; have hfz17_2 := blk_frozen BK228.out 2; have hfz17_3 := blk_frozen BK228.out 3; have hfz17_4 := blk_frozen BK228.out 4) | ((with_reducible refine gate_callee (f := 23) rfl ?_); refine goesL_ (some 9) rfl rfl Tryd.func23 (by kernel_rfl) rfl #[.slice A0_0 l0_0.length c0_0, .slice A1_0 l1_0.length c1_0] rfl (by (try simp only [List.map_toArray, List.map_cons, List.map_nil]); first | done | rfl | (simp only [List.length_drop, List.length_take]; rfl)) ?_; (with_reducible refine (headgatekeep_Regs.calls k _ _ l0_0 _ _ l1_0 true _ ?side1 ?side2 ?side3 ?side4 A3.out).mono ?_); (case side1 => repeat (first | exact (Kd.C_below HR0_0.out HB.out) | (with_reducible refine Kd.C_alloc ?_ _) | (with_reducible refine Kd.C_drewN ?_ _) | (with_reducible refine Kd.C_drew ?_))); (case side2 => exact HC0_0.out); (case side3 => repeat (first | exact (Kd.C_below HR1_0.out HB.out) | (with_reducible refine Kd.C_alloc ?_ _) | (with_reducible refine Kd.C_drewN ?_ _) | (with_reducible refine Kd.C_drew ?_))); (case side4 => exact HC1_0.out); rintro e w' ⟨rfl, ⟨nd, rfl⟩⟩; refine ⟨_, rfl, ?_⟩))
  go_ret
  exact ⟨by first | rfl | (simp [errW_none, errW_some] <;> rfl) | (simp [*, errW_none, errW_some] <;> rfl) | (simp [bt, *]; done) | (unfold bt; simp [*]; done), by repeat (first | (with_reducible first | exact HB.out | apply below_alloc | apply pw_below_drewN | apply below_drew1 | refine below_set ?_ GE227.out | refine below_set ?_ GE228.out) | exact HB.out)⟩
 rw [if_pos c7] at H
 have c7b0 : (a0_3 == a1_3) = true := beq_iff_eq.mpr c7
 have c7b1 : (a0_3 != a1_3) = false := bne_eq_false_iff_eq.mpr c7
 clear c7
 obtain rfl := Option.some.inj H
 go_enter Tryd.func17, Tryd.ntmps17
 go_wp2_with (first | ((with_reducible refine gate_dst (N := 2) rfl ?_); refine box_event ?hg (N := 2) ?hd (cs := #[.slice A0_0 l0_0.length c0_0, .int .i64 a0_1, .string a0_2, .int .u32 a0_3, .bool a0_4]) (t := 27) ?hr ?_; (case hd => rfl); (case hg => rfl); (case hr => first | (go_simp; done) | (go_simp; rfl)); intro gb227 hg w8 hbox hb; have n0_ := Aside0.mk (below_step (hb_ HB) hb); have n1_ := Aside0.mk (hbox); have n2_ := Aside0.mk ((by rw [hg]; exact (below_size (hb_ HB)) : w.heap.size ≤ gb227)); have n3_ := Aside0.mk ((by rw [hg]; exact (below_size (hb_ HB)) : w.heap.size ≤ gb227)); clear HB; have HB := n0_; have BK227 := n1_; have GW227 := n2_; have GE227 := n3_; clear n0_ n1_ n2_ n3_; clear hb hbox hg) | ((with_reducible refine gate_dst (N := 3) rfl ?_); refine box_event ?hg (N := 3) ?hd (cs := #[.slice A1_0 l1_0.length c1_0, .int .i64 a1_1, .string a1_2, .int .u32 a1_3, .bool a1_4]) (t := 27) ?hr ?_; (case hd => rfl); (case hg => rfl); (case hr => first | (go_simp; done) | (go_simp; rfl)); intro gb228 hg w9 hbox hb; have n0_ := Aside0.mk (blk_below (bk_ BK227) hb); have n1_ := Aside0.mk (below_step (hb_ HB) hb); have n2_ := Aside0.mk (hbox); have n3_ := Aside0.mk ((by rw [hg]; exact (below_size (hb_ HB)) : w.heap.size ≤ gb228)); have n4_ := Aside0.mk ((by rw [hg]; exact (below_size (hb_ HB)) : w.heap.size ≤ gb228)); have n5_ := Aside0.mk ((by rw [hg]; exact Nat.ne_of_lt (blk_lt (g := gb227) (o := .cells #[.slice A0_0 l0_0.length c0_0, .int .i64 a0_1, .string a0_2, .int .u32 a0_3, .bool a0_4] 27 (0, 0)) (bk_ BK227)) : gb227 ≠ gb228)); have n6_ := Aside0.mk ((by rw [hg]; exact Nat.ne_of_gt (blk_lt (g := gb227) (o := .cells #[.slice A0_0 l0_0.length c0_0, .int .i64 a0_1, .string a0_2, .int .u32 a0_3, .bool a0_4] 27 (0, 0)) (bk_ BK227)) : gb228 ≠ gb227)); clear BK227; clear HB; have BK227 := n0_; have HB := n1_; have BK228 := n2_; have GW228 := n3_; have GE228 := n4_; have NB227_228 := n5_; have NB228_227 := n6_; clear n0_ n1_ n2_ n3_ n4_ n5_ n6_; clear hb hbox hg; have hnb10 := NB227_228.out; have hnc10 := NB228_227.out; have hcz11_0 : w9.cell? ⟨gb227, 0, none⟩ = some (.slice A0_0 l0_0.length c0_0) := (blk_cell BK227.out 0).trans rfl; have hcz11_1 : w9.cell? ⟨gb227, 1, none⟩ = some (.int .i64 a0_1) := (blk_cell BK227.out 1).trans rfl; have hcz11_2 : w9.cell? ⟨gb227, 2, none⟩ = some (.string a0_2) := (blk_cell BK227.out 2).trans rfl; have hcz11_3 : w9.cell? ⟨gb227, 3, none⟩ = some (.int .u32 a0_3) := (blk_cell BK227.out 3).trans rfl; have hcz11_4 : w9.cell? ⟨gb227, 4, none⟩ = some (.bool a0_4) := (blk_cell BK227.out 4).trans rfl; have hfz11_0 := blk_frozen BK227.out 0; have hfz11_1 := blk_frozen BK227.out 1; have hfz11_2 := blk_frozen BK227.out 2; have hfz11_3 := blk_frozen BK227.out 3; have hfz11_4 := blk_frozen BK227.out 4; have hcz12_0 : w9.cell? ⟨gb228, 0, none⟩ = some (.slice A1_0 l1_0.length c1_0) := (blk_cell BK228.out 0).trans rfl; have hcz12_1 : w9.cell? ⟨gb228, 1, none⟩ = some (.int .i64 a1_1) := (blk_cell BK228.out 1).trans rfl; have hcz12_2 : w9.cell? ⟨gb228, 2, none⟩ = some (.string a1_2) := (blk_cell BK228.out 2).trans rfl; have hcz12_3 : w9.cell? ⟨gb228, 3, none⟩ = some (.int .u32 a1_3) := (blk_cell BK228.out 3).trans rfl; have hcz12_4 : w9.cell? ⟨gb228, 4, none⟩ = some (.bool a1_4) := (blk_cell BK228.out 4).trans rfl; have hfz12_0 := blk_frozen BK228.out 0; have hfz12_1 := blk_frozen BK228.out 1; have hfz12_2 := blk_frozen BK228.out 2; have hfz12_3 := blk_frozen BK228.out 3; have hfz12_4 := blk_frozen BK228.out 4) | ((with_reducible refine gate_callee (f := 23) rfl ?_); refine goesL_ (some 9) rfl rfl Tryd.func23 (by kernel_rfl) rfl #[.slice A0_0 l0_0.length c0_0, .slice A1_0 l1_0.length c1_0] rfl (by (try simp only [List.map_toArray, List.map_cons, List.map_nil]); first | done | rfl | (simp only [List.length_drop, List.length_take]; rfl)) ?_; (with_reducible refine (headgatekeep_Regs.calls k _ _ l0_0 _ _ l1_0 true _ ?side1 ?side2 ?side3 ?side4 A3.out).mono ?_); (case side1 => repeat (first | exact (Kd.C_below HR0_0.out HB.out) | (with_reducible refine Kd.C_alloc ?_ _) | (with_reducible refine Kd.C_drewN ?_ _) | (with_reducible refine Kd.C_drew ?_))); (case side2 => exact HC0_0.out); (case side3 => repeat (first | exact (Kd.C_below HR1_0.out HB.out) | (with_reducible refine Kd.C_alloc ?_ _) | (with_reducible refine Kd.C_drewN ?_ _) | (with_reducible refine Kd.C_drew ?_))); (case side4 => exact HC1_0.out); rintro e w' ⟨rfl, ⟨nd, rfl⟩⟩; refine ⟨_, rfl, ?_⟩))
 go_ret
 exact ⟨by first | rfl | (simp [errW_none, errW_some] <;> rfl) | (simp [*, errW_none, errW_some] <;> rfl) | (simp [bt, *]; done) | (unfold bt; simp [*]; done), by repeat (first | (with_reducible first | exact HB.out | apply below_alloc | apply pw_below_drewN | apply below_drew1 | refine below_set ?_ GE227.out | refine below_set ?_ GE228.out) | exact HB.out)⟩
def headgatekeep_Mod.f (a0 : Int) (a1 : Int) : Option (Int) := if a1 < 1 then (some 0) else (if a1 = 0 then (none) else (some (Int.tmod (wrap64 ((Int.tmod a0 a1) + a1)) a1)))
set_option maxHeartbeats 8000000 in
set_option maxRecDepth 100000 in
theorem headgatekeep_Mod.calls (a0 : Int) (a1 : Int) (r : Int) (w : World) (h : headgatekeep_Mod.f a0 a1 = some r) :
    Calls Tryd.prog 22 #[.int .i64 a0, .int .i64 a1] w fun e w' => e = .returned (.int .i64 r) ∧ Drawn0 w w' := by
  have H : (if a1 < 1 then (some 0) else (if a1 = 0 then (none) else (some (Int.tmod (wrap64 ((Int.tmod a0 a1) + a1)) a1)))) = some r := h
  clear h
  by_cases c3 : a1 < 1
  · rw [if_pos c3] at H
    have c3b0 : decide (a1 < 1) = true := decide_eq_true c3
    clear c3
    obtain rfl := Option.some.inj H
    go_enter Tryd.func22, Tryd.ntmps22
    go_wp2
    go_ret
    exact ⟨by first | rfl | (simp; done) | (simp [*]; done), by repeat (first | exact Drawn0.refl _ | apply Drawn0.step)⟩
  · rw [if_neg c3] at H
    have c3b0 : decide (a1 < 1) = false := decide_eq_false c3
    clear c3
    by_cases c4 : a1 = 0
    · rw [if_pos c4] at H
      exact absurd H (by simp)
    · rw [if_neg c4] at H
      have c4b0 : (a1 == 0) = false := beq_eq_false_iff_ne.mpr c4
      have c4b1 : (a1 != 0) = true := bne_iff_ne.mpr c4
      obtain rfl := Option.some.inj H
      go_enter Tryd.func22, Tryd.ntmps22
      go_wp2
      go_ret
      exact ⟨by first | rfl | (simp; done) | (simp [*]; done), by repeat (first | exact Drawn0.refl _ | apply Drawn0.step)⟩
end Go.Proofs.YtjogkfcjlljjcaaDoor.P
namespace Go.Proofs.YtjogkfcjlljjcaaDoor.Pure
open Go.RowKit Go.Proofs.YtjogkfcjlljjcaaDoor.P Go.Proofs.YtjogkfcjlljjcaaDoorW.PrintWords Go.Proofs.YtjogkfcjlljjcaaDoorW.PrintLast Go.Proofs.YtjogkfcjlljjcaaDoorW.PrintMore Go.Proofs.YtjogkfcjlljjcaaDoor.Num
set_option linter.unusedVariables false
set_option linter.unusedSimpArgs false
def holds (l : List S53) (t : Int) (o h : ByteArray) : Bool :=
  if typed t then (if t = 5 ∨ t = 6 then reg l h else decide (h.toList = o.toList)) else false
theorem registered_l0 (h : ByteArray) (l : List S53) (hl : l.length ≤ 1000) : ∀ (n k i : Nat), i + n = l.length → n + 1 ≤ k → access_registered.l0 k h l (l.length : Int) (i : Int) = some ((l.drop i).any fun r => decide (r.f0.toList = h.toList))
  | 0, k + 1, i, hi, hk => by
    show (if (i : Int) < (l.length : Int) then _ else some false) = _
    rw [if_neg (by omega), List.drop_eq_nil_of_le (by omega)]
    rfl
  | n + 1, k + 1, i, hi, hk => by
    have hlt : i < l.length := by omega
    show (if (i : Int) < (l.length : Int) then (if 0 ≤ (i : Int) then (if (i : Int) < (l.length : Int) then (if ((rd_T53 l i).f0).toList = h.toList then (some true) else (access_registered.l0 k h l (l.length : Int) (wrap64 ((i : Int) + 1)))) else none) else none) else some false) = _
    rw [if_pos (by omega), if_pos (by omega), if_pos (by omega), rd_at l i hlt, List.drop_eq_getElem_cons hlt, List.any_cons]
    by_cases hc : (l[i]).f0.toList = h.toList
    · rw [if_pos hc, decide_eq_true hc]
      rfl
    · rw [if_neg hc, decide_eq_false hc, w64 (by omega) (by omega)]
      exact registered_l0 h l hl n k (i + 1) (by omega) (by omega)
theorem registered_spec (k : Nat) (l : List S53) (t : Int) (o : ByteArray) (g : Int) (b : Bool) (h : ByteArray) (hl : l.length ≤ 201) (hk : 210 ≤ k) : access_registered.f k l t o g b h = some (reg l h) :=
  registered_l0 h l (by omega) l.length k 0 (by omega) (by omega)
theorem typed_cases {t : Int} (h : typed t = true) : t = 1 ∨ t = 2 ∨ t = 3 ∨ t = 4 ∨ t = 5 ∨ t = 6 := by
  have := of_decide_eq_true h
  omega
theorem beq_dec (a b : List UInt8) : (a == b) = decide (a = b) := by
  by_cases h : a = b
  · rw [h]
    simp
  · rw [decide_eq_false h]
    exact beq_eq_false_iff_ne.mpr h
theorem Holds_spec (k : Nat) (l : List S53) (t : Int) (o : ByteArray) (g : Int) (b : Bool) (h : ByteArray) (hl : l.length ≤ 201) (hk : 210 ≤ k) : access_Holds.f k l t o g b h = some (holds l t o h) := by
  unfold access_Holds.f
  rw [Type_spec, Option.bind_some]
  unfold holds
  cases ht : typed t with
  | false => rfl
  | true =>
    rw [if_pos rfl, if_pos rfl, registered_spec k l t o g b h hl hk]
    rcases typed_cases ht with rfl | rfl | rfl | rfl | rfl | rfl
    all_goals first
      | (rw [if_pos (by decide), if_pos (by decide), if_pos (by decide +kernel), if_neg (by decide), beq_dec])
      | (rw [if_pos (by decide), if_pos (by decide), if_neg (by decide +kernel), if_pos (by decide)]; rfl)
end Go.Proofs.YtjogkfcjlljjcaaDoor.Pure
namespace Go.Proofs.YtjogkfcjlljjcaaDoor.Pure
open Go.RowKit Go.Proofs.YtjogkfcjlljjcaaDoor.P Go.Proofs.YtjogkfcjlljjcaaDoorW.PrintWords Go.Proofs.YtjogkfcjlljjcaaDoorW.PrintLast Go.Proofs.YtjogkfcjlljjcaaDoorW.PrintMore Go.Proofs.YtjogkfcjlljjcaaDoor.Num
set_option linter.unusedVariables false
set_option linter.unusedSimpArgs false
theorem tl_beq (a b : ByteArray) : (a.toList == b.toList) = decide (a = b) := by rw [beq_dec]; exact decide_eq_decide.mpr tl_inj
theorem keyL_none {l : List S53} {h : ByteArray} (hr : reg l h = false) : keyL l h = 0 := by
  unfold keyL
  rw [List.find?_eq_none.mpr]
  intro x hx
  have := (Bool.eq_false_iff.mp hr)
  intro z
  exact this ((reg_iff l h).mpr ⟨x, hx, tl_inj.mp (of_decide_eq_true z)⟩)
end Go.Proofs.YtjogkfcjlljjcaaDoor.Pure
namespace Go.Proofs.YtjogkfcjlljjcaaDoor.Pure
open Go.RowKit Go.Proofs.YtjogkfcjlljjcaaDoor.P Go.Proofs.YtjogkfcjlljjcaaDoorW.PrintWords Go.Proofs.YtjogkfcjlljjcaaDoorW.PrintLast Go.Proofs.YtjogkfcjlljjcaaDoorW.PrintMore Go.Proofs.YtjogkfcjlljjcaaDoor.Num
set_option linter.unusedVariables false
set_option linter.unusedSimpArgs false
theorem rsv_eq (k : Nat) (l : List S53) (typ : Int) (host : ByteArray) (gen : Int) (apt : Bool) (c : S31) (kk : Int) (hk : 210 ≤ k) (hl : l.length ≤ 201) :
    do_rsv k l typ host gen apt c kk = if typed c.f11 = false then do_same l typ host gen apt 5 else if asksP kk c = false then do_same l typ host gen apt 2 else if typ = 0 then some (l, c.f11, takenBy c, gen, apt, [], 1) else if (holds l typ host c.f2 && typ == c.f11) = true then do_same l typ host gen apt 1 else do_same l typ host gen apt 2 := by
  unfold do_rsv
  rw [Type_spec, Option.bind_some, Holds_spec k l typ host gen apt c.f2 hl hk, Option.bind_some]
theorem rel_eq (k : Nat) (l : List S53) (typ : Int) (host : ByteArray) (gen : Int) (apt : Bool) (c : S31) (kk : Int) (hk : 210 ≤ k) (hl : l.length ≤ 201) :
    do_rel k l typ host gen apt c kk = if asksP kk c = false then do_same l typ host gen apt 2 else if holds l typ host c.f2 = false then do_same l typ host gen apt 1 else if (typ != c.f11) = true then do_same l typ host gen apt 5 else some (l, 0, (⟨#[]⟩ : ByteArray), gen, apt, (if silent typ = true then [] else told c (fun _ _ => true) 3 l l.length), 1) := by
  unfold do_rel
  rw [Holds_spec k l typ host gen apt c.f2 hl hk, Option.bind_some]
end Go.Proofs.YtjogkfcjlljjcaaDoor.Pure
namespace Go.Proofs.YtjogkfcjlljjcaaDoor.Pure
open Go.RowKit Go.Proofs.YtjogkfcjlljjcaaDoor.P Go.Proofs.YtjogkfcjlljjcaaDoorW.PrintWords Go.Proofs.YtjogkfcjlljjcaaDoorW.PrintLast Go.Proofs.YtjogkfcjlljjcaaDoorW.PrintMore Go.Proofs.YtjogkfcjlljjcaaDoor.Num
set_option linter.unusedVariables false
set_option linter.unusedSimpArgs false
theorem reg_pos {l : List S53} {h : ByteArray} (hr : reg l h = true) : 0 < l.length := by
  obtain ⟨x, hx, _⟩ := (reg_iff l h).mp hr
  exact List.length_pos_of_mem hx
theorem taken_ok {l : List S53} {c : S31} (ht : typed c.f11 = true) (hr : reg l c.f2 = true) : holdOk_ l c.f11 (takenBy c) = true := by
  rw [hold_iff]
  have := of_decide_eq_true ht
  unfold takenBy
  by_cases h5 : c.f11 = 5 ∨ c.f11 = 6
  · rw [if_pos h5]
    exact Or.inr (Or.inr ⟨h5, rfl, reg_pos hr⟩)
  · rw [if_neg h5]
    exact Or.inr (Or.inl ⟨by omega, by omega, hr⟩)
end Go.Proofs.YtjogkfcjlljjcaaDoor.Pure
