-- joined by this session's wip/tools/pack.py: words of the kit's print, cut to what the claim names; functions printed by a patched copy of the printer; walks and lemmas of this session; Lean checks it
import Derived.Test.YtjogkfcjlljjcaaDoorBa7
import Derived.WalkKit
import Derived.Maps.Own
import Derived.Maps.OwnOps
import Derived.Maps.Views
import Derived.Carry
import Derived.Lib.SliceRun
namespace Go.Proofs.YtjogkfcjlljjcaaDoorW.PrintLast
open Go.Proofs.YtjogkfcjlljjcaaDoorW.PrintWords (Aside0)
section
variable {P : Program} {ops : Array Oper} {Q : Exit → Act → World → Prop} {md : Region.Mode} {S : World → Prop} {ds : List Nat} {T : Bool × List (List Nat × List Nat)} {B : List Nat}
theorem pon_ (i : Nat) (N : Option Tmp) {oi : Oper} {v : Value} {fuel : Nat} {l : Array Bool} {a : Act} {w : World} (l' : Array Bool) (hT : rtab md ops = T) {a' : Act} (h : wpAnyLast P md ops Q S ds fuel l' a' w)
    (hi : ops[i]? = some oi := by rfl) (hN : oi.dst = N := by rfl) (hc : anyT T l.toList l'.toList i = true := by kernel_rfl) (hQ : ∀ c a w, Q (.panic c) (a.put oi.dst v) w → Q (.panic c) a w := by exact (fun _ _ _ h => h))
    (hw : Region.wanted oi (yielded ops a.tmps) = true := by rfl) (hy : ∀ w', (execOp a.eval oi).run P w' = .ok (.value v) w' := by intro w'; go_simp; with_reducible rfl)
    (ha : a.put N v = a' := by simp only [Act.put, la_, lb_, lc_, i64_w, i32_w]; rfl) : wpAnyLast P md ops Q S ds (fuel + 1) l a w :=
  pure_ (i := i) (N := N) (v := v) l' hi hN (any_of hT hc) hQ (Or.inl ⟨hw, hy⟩) ha h
theorem ptk_ (i : Nat) (N : Option Tmp) {oi : Oper} {v : Value} {fuel : Nat} {l : Array Bool} {a : Act} {w : World} (l' : Array Bool) (hT : rtab md ops = T) (hB : waitsOk T.2 B = true) (hS : S w) {a' : Act} (h : wpAnyLast P md ops Q S ds fuel l' a' w)
    (hi : ops[i]? = some oi := by rfl) (hN : oi.dst = N := by rfl) (hc : takeW T B ds l.toList l'.toList i = true := by kernel_rfl) (hQ : ∀ c a w, Q (.panic c) (a.put oi.dst v) w → Q (.panic c) a w := by exact (fun _ _ _ h => h))
    (hw : Region.wanted oi (yielded ops a.tmps) = true := by rfl) (hy : ∀ w', S w' → (execOp a.eval oi).run P w' = .ok (.value v) w' := by intro w' hs_; (try dsimp only at hs_); (repeat (obtain ⟨_, hs_⟩ := hs_)); go_simp; with_reducible rfl)
    (ha : a.put N v = a' := by simp only [Act.put, la_, lb_, lc_, i64_w, i32_w]; rfl) : wpAnyLast P md ops Q S ds (fuel + 1) l a w :=
  take_ (i := i) (N := N) (v := v) l' hi hN (take_ofW hT hB hc) hQ (Or.inl ⟨hw, hy⟩) hS ha h
end
end Go.Proofs.YtjogkfcjlljjcaaDoorW.PrintLast
namespace Go.Proofs.YtjogkfcjlljjcaaDoor.P
open Go.RowKit Go.Proofs.YtjogkfcjlljjcaaDoorW.PrintWords Go.Proofs.YtjogkfcjlljjcaaDoorW.PrintLast Go.Proofs.YtjogkfcjlljjcaaDoorW.PrintMore
attribute [local go_sem] max2_int min2_int max_two min_two max_three min_three max_four min_four   -- for this text's walks alone
set_option linter.unusedVariables false
set_option linter.unusedSimpArgs false
set_option linter.unnecessarySimpa false
open Go.Maps in
def api_Reg.f (l : List S53) : Option (List S53) := if l.length ≤ 1000 then some l else none
theorem api_Reg.calls (A0 : Option Addr) (c0 : Nat) (l : List S53) (r : List S53) (w : World) (hr0 : Kd.C k53 w A0 l.length l) (_hc0 : l.length ≤ c0) (h : api_Reg.f l = some r) :
    Calls Tryd.prog 36 #[.slice A0 l.length c0] w fun e w' => ∃ v0_ : Value, e = .returned v0_ ∧ Kd.R k53 53 w' w.heap.size (fun _ => True) v0_ r ∧ Below w.heap.size w w' := by
  unfold api_Reg.f at h
  by_cases hn : l.length ≤ 1000
  · rw [if_pos hn] at h
    obtain rfl := Option.some.inj h
    exact clone_calls A0 c0 l w hr0 hn
  · rw [if_neg hn] at h
    cases h
end Go.Proofs.YtjogkfcjlljjcaaDoor.P
namespace Go.Proofs.YtjogkfcjlljjcaaDoor.P
open Go.RowKit Go.Proofs.YtjogkfcjlljjcaaDoorW.PrintWords Go.Proofs.YtjogkfcjlljjcaaDoorW.PrintLast Go.Proofs.YtjogkfcjlljjcaaDoorW.PrintMore
attribute [local go_sem] max2_int min2_int max_two min_two max_three min_three max_four min_four   -- for this text's walks alone
set_option linter.unusedVariables false
set_option linter.unusedSimpArgs false
set_option linter.unnecessarySimpa false
theorem headgatekeep_Regs.mono_l : ∀ k, (∀ y0 y1 y2, LeO (headgatekeep_Regs.l0 k y0 y1 y2) (headgatekeep_Regs.l0 (k + 1) y0 y1 y2))
  | 0 => fun _ _ _ r h => by simp [headgatekeep_Regs.l0] at h
  | k + 1 => by
    have ih0 := headgatekeep_Regs.mono_l k
    · intro y0 y1 y2
      unfold headgatekeep_Regs.l0
      repeat' first
      | (with_reducible exact ih0 _ _ _)
      | (with_reducible exact LeO.refl _)
      | (with_reducible exact LeO.none _)
      | (with_reducible refine LeO.ite ?_ ?_)
      | (with_reducible refine LeO.bind ?_ (fun _ => ?_))
      | exact ih0 _ _ _
      | exact LeO.none _
      | refine LeO.ite ?_ ?_
      | refine LeO.bind ?_ (fun _ => ?_)
theorem headgatekeep_Regs.mono : ∀ a0 a1 k, LeO (headgatekeep_Regs.f k a0 a1) (headgatekeep_Regs.f (k + 1) a0 a1) := by
  intro a0 a1 k
  have ih0 := headgatekeep_Regs.mono_l k
  unfold headgatekeep_Regs.f
  repeat' first
      | (with_reducible exact ih0 _ _ _)
      | (with_reducible exact LeO.refl _)
      | (with_reducible exact LeO.none _)
      | (with_reducible refine LeO.ite ?_ ?_)
      | (with_reducible refine LeO.bind ?_ (fun _ => ?_))
      | exact ih0 _ _ _
      | exact LeO.none _
      | refine LeO.ite ?_ ?_
      | refine LeO.bind ?_ (fun _ => ?_)
set_option maxHeartbeats 8000000 in
set_option maxRecDepth 100000 in
theorem headgatekeep_Regs.calls (k : Nat) (A0 : Option Addr) (c0 : Nat) (l0 : List (S53)) (A1 : Option Addr) (c1 : Nat) (l1 : List (S53)) (r : Bool) (w : World) (hr0 : Kd.C k53 w A0 l0.length l0) (hc0 : l0.length ≤ c0) (hr1 : Kd.C k53 w A1 l1.length l1) (hc1 : l1.length ≤ c1) (h : headgatekeep_Regs.f k l0 l1 = some r) :
    Calls Tryd.prog 23 #[.slice A0 l0.length c0, .slice A1 l1.length c1] w fun e w' => e = .returned (.bool r) ∧ Drawn0 w w' := by
  have HR0 := Aside0.mk hr0
  have HC0 := Aside0.mk hc0
  clear hr0 hc0
  have HR1 := Aside0.mk hr1
  have HC1 := Aside0.mk hc1
  clear hr1 hc1
  have H : (if (l0.length : Int) = (l1.length : Int) then (headgatekeep_Regs.l0 k l0 l1 0) else (some false)) = some r := h
  clear h
  by_cases c3 : (l0.length : Int) = (l1.length : Int)
  · rw [if_pos c3] at H
    have c3b0 : ((l0.length : Int) == (l1.length : Int)) = true := beq_iff_eq.mpr c3
    have c3b1 : ((l0.length : Int) != (l1.length : Int)) = false := bne_eq_false_iff_eq.mpr c3
    have c3b2 : (l0.length == l1.length) = true := by first | simpa using c3 | (simp at c3 ⊢; omega)
    clear c3
    have H' := Aside0.mk H
    clear H
    go_enter Tryd.func23, Tryd.ntmps23
    go_wp2
    repeat (go_quiet (fail); try go_wp2)
    go_loopg [5] k (fun kq v5 w' => ∃ (x5_1 : Int), v5 = .int .i64 x5_1 ∧ Aside0 (headgatekeep_Regs.l0 kq l0 l1 x5_1 = some r) ∧ Aside0 (kq ≤ k) ∧ Drawn0 w w')
    case atStart => exact ⟨(0), (by first | rfl | (simp; done) | (simp [*]; done)), H', ⟨Nat.le_refl _⟩, by repeat (first | exact Drawn0.refl _ | apply Drawn0.step)⟩
    case round =>
      clear H'
      try clear c1
      try clear c2
      try clear p2
      try clear c3
      try clear c3b0
      try clear c3b1
      try clear c3b2
      obtain ⟨x5_1, rfl, HA, HK1, ⟨m1, rfl⟩⟩ := hrel
      cases gk with
      | zero => exact absurd HA.out (by simp [headgatekeep_Regs.l0])
      | succ k1 =>
        have H := HA.out
        clear HA
        simp only [headgatekeep_Regs.l0] at H
        by_cases c4 : x5_1 < (l0.length : Int)
        · rw [if_pos c4] at H
          have c4b0 : decide (x5_1 < (l0.length : Int)) = true := decide_eq_true c4
          clear c4
          by_cases c5 : 0 ≤ x5_1
          · rw [if_pos c5] at H
            have c5b0 : decide (0 ≤ x5_1) = true := decide_eq_true c5
            clear c5
            by_cases c6 : x5_1 < (l1.length : Int)
            · rw [if_pos c6] at H
              have c6b0 : decide (x5_1 < (l1.length : Int)) = true := decide_eq_true c6
              clear c6
              by_cases c7 : ((rd_T53 l0 x5_1).f0).toList = ((rd_T53 l1 x5_1).f0).toList
              · rw [if_pos c7] at H
                have c7b0 : (((rd_T53 l0 x5_1).f0).toList == ((rd_T53 l1 x5_1).f0).toList) = true := beq_iff_eq.mpr c7
                have c7b1 : (((rd_T53 l0 x5_1).f0).toList != ((rd_T53 l1 x5_1).f0).toList) = false := bne_eq_false_iff_eq.mpr c7
                clear c7
                by_cases c8 : ((rd_T53 l0 x5_1).f1) = ((rd_T53 l1 x5_1).f1)
                · rw [if_pos c8] at H
                  have c8b0 : (((rd_T53 l0 x5_1).f1) == ((rd_T53 l1 x5_1).f1)) = true := beq_iff_eq.mpr c8
                  have c8b1 : (((rd_T53 l0 x5_1).f1) != ((rd_T53 l1 x5_1).f1)) = false := bne_eq_false_iff_eq.mpr c8
                  clear c8
                  have H' := Aside0.mk H
                  clear H
                  have p223 : 0 ≤ (x5_1 : Int) := of_decide_eq_true (by first | (with_reducible assumption) | assumption)
                  have q223 : x5_1 < (l0.length : Int) := of_decide_eq_true (by first | (with_reducible assumption) | assumption)
                  obtain ⟨ad223, e223, hx223_0, hx223_1⟩ := at_T53 HR0.out x5_1 p223 q223
                  cases e223
                  replace p223 := eq_true p223
                  replace q223 := eq_true q223
                  have p224 : 0 ≤ (x5_1 : Int) := of_decide_eq_true (by first | (with_reducible assumption) | assumption)
                  have q224 : x5_1 < (l1.length : Int) := of_decide_eq_true (by first | (with_reducible assumption) | assumption)
                  obtain ⟨ad224, e224, hx224_0, hx224_1⟩ := at_T53 HR1.out x5_1 p224 q224
                  cases e224
                  replace p224 := eq_true p224
                  replace q224 := eq_true q224
                  have p225 : 0 ≤ (x5_1 : Int) := of_decide_eq_true (by first | (with_reducible assumption) | assumption)
                  have q225 : x5_1 < (l0.length : Int) := of_decide_eq_true (by first | (with_reducible assumption) | assumption)
                  obtain ⟨ad225, e225, hx225_0, hx225_1⟩ := at_T53 HR0.out x5_1 p225 q225
                  obtain rfl : ad223 = ad225 := (by injection e225)
                  replace p225 := eq_true p225
                  replace q225 := eq_true q225
                  have p226 : 0 ≤ (x5_1 : Int) := of_decide_eq_true (by first | (with_reducible assumption) | assumption)
                  have q226 : x5_1 < (l1.length : Int) := of_decide_eq_true (by first | (with_reducible assumption) | assumption)
                  obtain ⟨ad226, e226, hx226_0, hx226_1⟩ := at_T53 HR1.out x5_1 p226 q226
                  obtain rfl : ad224 = ad226 := (by injection e226)
                  replace p226 := eq_true p226
                  replace q226 := eq_true q226
                  go_wp2
                  repeat (go_quiet (fail); try go_wp2)
                  go_roundg k1
                  case measure => have := HK1.out; omega
                  case rel => exact ⟨(wrap64 (x5_1 + 1)), (by first | rfl | (simp; done) | (simp [*]; done)), H', ⟨by have := HK1.out; omega⟩, by repeat (first | exact Drawn0.refl _ | apply Drawn0.step)⟩
                · rw [if_neg c8] at H
                  have c8b0 : (((rd_T53 l0 x5_1).f1) == ((rd_T53 l1 x5_1).f1)) = false := beq_eq_false_iff_ne.mpr c8
                  have c8b1 : (((rd_T53 l0 x5_1).f1) != ((rd_T53 l1 x5_1).f1)) = true := bne_iff_ne.mpr c8
                  obtain rfl := Option.some.inj H
                  have p223 : 0 ≤ (x5_1 : Int) := of_decide_eq_true (by first | (with_reducible assumption) | assumption)
                  have q223 : x5_1 < (l0.length : Int) := of_decide_eq_true (by first | (with_reducible assumption) | assumption)
                  obtain ⟨ad223, e223, hx223_0, hx223_1⟩ := at_T53 HR0.out x5_1 p223 q223
                  cases e223
                  replace p223 := eq_true p223
                  replace q223 := eq_true q223
                  have p224 : 0 ≤ (x5_1 : Int) := of_decide_eq_true (by first | (with_reducible assumption) | assumption)
                  have q224 : x5_1 < (l1.length : Int) := of_decide_eq_true (by first | (with_reducible assumption) | assumption)
                  obtain ⟨ad224, e224, hx224_0, hx224_1⟩ := at_T53 HR1.out x5_1 p224 q224
                  cases e224
                  replace p224 := eq_true p224
                  replace q224 := eq_true q224
                  have p225 : 0 ≤ (x5_1 : Int) := of_decide_eq_true (by first | (with_reducible assumption) | assumption)
                  have q225 : x5_1 < (l0.length : Int) := of_decide_eq_true (by first | (with_reducible assumption) | assumption)
                  obtain ⟨ad225, e225, hx225_0, hx225_1⟩ := at_T53 HR0.out x5_1 p225 q225
                  obtain rfl : ad223 = ad225 := (by injection e225)
                  replace p225 := eq_true p225
                  replace q225 := eq_true q225
                  have p226 : 0 ≤ (x5_1 : Int) := of_decide_eq_true (by first | (with_reducible assumption) | assumption)
                  have q226 : x5_1 < (l1.length : Int) := of_decide_eq_true (by first | (with_reducible assumption) | assumption)
                  obtain ⟨ad226, e226, hx226_0, hx226_1⟩ := at_T53 HR1.out x5_1 p226 q226
                  obtain rfl : ad224 = ad226 := (by injection e226)
                  replace p226 := eq_true p226
                  replace q226 := eq_true q226
                  go_wp2
                  repeat (go_quiet (fail); try go_wp2)
                  go_ret
                  exact ⟨by first | rfl | (simp; done) | (simp [*]; done), by repeat (first | exact Drawn0.refl _ | apply Drawn0.step)⟩
              · rw [if_neg c7] at H
                have c7b0 : (((rd_T53 l0 x5_1).f0).toList == ((rd_T53 l1 x5_1).f0).toList) = false := beq_eq_false_iff_ne.mpr c7
                have c7b1 : (((rd_T53 l0 x5_1).f0).toList != ((rd_T53 l1 x5_1).f0).toList) = true := bne_iff_ne.mpr c7
                obtain rfl := Option.some.inj H
                have p223 : 0 ≤ (x5_1 : Int) := of_decide_eq_true (by first | (with_reducible assumption) | assumption)
                have q223 : x5_1 < (l0.length : Int) := of_decide_eq_true (by first | (with_reducible assumption) | assumption)
                obtain ⟨ad223, e223, hx223_0, hx223_1⟩ := at_T53 HR0.out x5_1 p223 q223
                cases e223
                replace p223 := eq_true p223
                replace q223 := eq_true q223
                have p224 : 0 ≤ (x5_1 : Int) := of_decide_eq_true (by first | (with_reducible assumption) | assumption)
                have q224 : x5_1 < (l1.length : Int) := of_decide_eq_true (by first | (with_reducible assumption) | assumption)
                obtain ⟨ad224, e224, hx224_0, hx224_1⟩ := at_T53 HR1.out x5_1 p224 q224
                cases e224
                replace p224 := eq_true p224
                replace q224 := eq_true q224
                go_wp2
                repeat (go_quiet (fail); try go_wp2)
                go_ret
                exact ⟨by first | rfl | (simp; done) | (simp [*]; done), by repeat (first | exact Drawn0.refl _ | apply Drawn0.step)⟩
            · rw [if_neg c6] at H
              exact absurd H (by simp)
          · rw [if_neg c5] at H
            exact absurd H (by simp)
        · rw [if_neg c4] at H
          have c4b0 : decide (x5_1 < (l0.length : Int)) = false := decide_eq_false c4
          clear c4
          obtain rfl := Option.some.inj H
          go_wp2
          repeat (go_quiet (fail); try go_wp2)
          go_ret
          exact ⟨by first | rfl | (simp; done) | (simp [*]; done), by repeat (first | exact Drawn0.refl _ | apply Drawn0.step)⟩
  · rw [if_neg c3] at H
    have c3b0 : ((l0.length : Int) == (l1.length : Int)) = false := beq_eq_false_iff_ne.mpr c3
    have c3b1 : ((l0.length : Int) != (l1.length : Int)) = true := bne_iff_ne.mpr c3
    have c3b2 : (l0.length == l1.length) = false := by first | simpa using c3 | (simp at c3 ⊢; omega)
    obtain rfl := Option.some.inj H
    go_enter Tryd.func23, Tryd.ntmps23
    go_wp2
    repeat (go_quiet (fail); try go_wp2)
    go_ret
    exact ⟨by first | rfl | (simp; done) | (simp [*]; done), by repeat (first | exact Drawn0.refl _ | apply Drawn0.step)⟩
theorem headgatekeep_Tables.mono : ∀ a0 a1 a2 a3 a4 a5 a6 a7 a8 a9 k, LeO (headgatekeep_Tables.f k a0 a1 a2 a3 a4 a5 a6 a7 a8 a9) (headgatekeep_Tables.f (k + 1) a0 a1 a2 a3 a4 a5 a6 a7 a8 a9) := by
 intro a0 a1 a2 a3 a4 a5 a6 a7 a8 a9 k
 unfold headgatekeep_Tables.f
 repeat' first
   | (with_reducible exact headgatekeep_Regs.mono _ _ _)
   | (with_reducible exact LeO.refl _)
   | (with_reducible exact LeO.none _)
   | (with_reducible refine LeO.ite ?_ ?_)
   | (with_reducible refine LeO.bind ?_ (fun _ => ?_))
   | exact headgatekeep_Regs.mono _ _ _
   | exact LeO.none _
   | refine LeO.ite ?_ ?_
   | refine LeO.bind ?_ (fun _ => ?_)
set_option maxHeartbeats 8000000 in
set_option maxRecDepth 100000 in
theorem headgatekeep_Tables.calls (k : Nat) (A0_0 : Option Addr) (c0_0 : Nat) (l0_0 : List (S53)) (a0_1 : Int) (a0_2 : ByteArray) (a0_3 : Int) (a0_4 : Bool) (A1_0 : Option Addr) (c1_0 : Nat) (l1_0 : List (S53)) (a1_1 : Int) (a1_2 : ByteArray) (a1_3 : Int) (a1_4 : Bool) (r : Bool) (w : World) (hr0_0 : Kd.C k53 w A0_0 l0_0.length l0_0) (hc0_0 : l0_0.length ≤ c0_0) (hr1_0 : Kd.C k53 w A1_0 l1_0.length l1_0) (hc1_0 : l1_0.length ≤ c1_0) (h : headgatekeep_Tables.f k l0_0 a0_1 a0_2 a0_3 a0_4 l1_0 a1_1 a1_2 a1_3 a1_4 = some r) :
  Calls Tryd.prog 17 #[.agg #[.slice A0_0 l0_0.length c0_0, .int .i64 a0_1, .string a0_2, .int .u32 a0_3, .bool a0_4], .agg #[.slice A1_0 l1_0.length c1_0, .int .i64 a1_1, .string a1_2, .int .u32 a1_3, .bool a1_4]] w fun e w' => e = .returned (.bool r) ∧ Below w.heap.size w w' := by
 have hu27 := Tryd.underlying27
 have HR0_0 := Aside0.mk hr0_0
 have HC0_0 := Aside0.mk hc0_0
 clear hr0_0 hc0_0
 have HR1_0 := Aside0.mk hr1_0
 have HC1_0 := Aside0.mk hc1_0
 clear hr1_0 hc1_0
 have HB := Aside0.mk (Below.refl w.heap.size w)
 have H : ((headgatekeep_Regs.f k l0_0 l1_0).bind fun t229 => (if t229 = true then (if a0_1 = a1_1 then (if a0_2.toList = a1_2.toList then (if a0_3 = a1_3 then (some (a0_4 == a1_4)) else (some false)) else (some false)) else (some false)) else (some false))) = some r := h
 clear h
 replace H := Option.bind_eq_some_iff.mp H
 obtain ⟨t229, A30, H⟩ := H
 try dsimp only at H
 have A3 := Aside0.mk A30
 clear A30
 refine neg_first (p := (t229 = true)) (fun c4 => ?_) (fun c4 => ?_)
 ·replace c4 := Bool.eq_false_iff.mpr c4
  subst c4
  have H1 := H
  rw [if_neg (show ¬ (false = true) by decide)] at H1
  clear H
  have H := H1
  clear H1
  obtain rfl := Option.some.inj H
  go_enter Tryd.func17, Tryd.ntmps17
  go_wp2_with (first | ((with_reducible refine gate_dst (N := 2) rfl ?_); refine box_event ?hg (N := 2) ?hd (cs := #[.slice A0_0 l0_0.length c0_0, .int .i64 a0_1, .string a0_2, .int .u32 a0_3, .bool a0_4]) (t := 27) ?hr ?_; (case hd => rfl); (case hg => rfl); (case hr => first | (go_simp; done) | (go_simp; rfl)); intro gb227 hg w28 hbox hb; have n0_ := Aside0.mk (below_step (hb_ HB) hb); have n1_ := Aside0.mk (hbox); have n2_ := Aside0.mk ((by rw [hg]; exact (below_size (hb_ HB)) : w.heap.size ≤ gb227)); have n3_ := Aside0.mk ((by rw [hg]; exact (below_size (hb_ HB)) : w.heap.size ≤ gb227)); clear HB; have HB := n0_; have BK227 := n1_; have GW227 := n2_; have GE227 := n3_; clear n0_ n1_ n2_ n3_; clear hb hbox hg) | ((with_reducible refine gate_dst (N := 3) rfl ?_); refine box_event ?hg (N := 3) ?hd (cs := #[.slice A1_0 l1_0.length c1_0, .int .i64 a1_1, .string a1_2, .int .u32 a1_3, .bool a1_4]) (t := 27) ?hr ?_; (case hd => rfl); (case hg => rfl); (case hr => first | (go_simp; done) | (go_simp; rfl)); intro gb228 hg w29 hbox hb; have n0_ := Aside0.mk (blk_below (bk_ BK227) hb); have n1_ := Aside0.mk (below_step (hb_ HB) hb); have n2_ := Aside0.mk (hbox); have n3_ := Aside0.mk ((by rw [hg]; exact (below_size (hb_ HB)) : w.heap.size ≤ gb228)); have n4_ := Aside0.mk ((by rw [hg]; exact (below_size (hb_ HB)) : w.heap.size ≤ gb228)); have n5_ := Aside0.mk ((by rw [hg]; exact Nat.ne_of_lt (blk_lt (g := gb227) (o := .cells #[.slice A0_0 l0_0.length c0_0, .int .i64 a0_1, .string a0_2, .int .u32 a0_3, .bool a0_4] 27 (0, 0)) (bk_ BK227)) : gb227 ≠ gb228)); have n6_ := Aside0.mk ((by rw [hg]; exact Nat.ne_of_gt (blk_lt (g := gb227) (o := .cells #[.slice A0_0 l0_0.length c0_0, .int .i64 a0_1, .string a0_2, .int .u32 a0_3, .bool a0_4] 27 (0, 0)) (bk_ BK227)) : gb228 ≠ gb227)); clear BK227; clear HB; have BK227 := n0_; have HB := n1_; have BK228 := n2_; have GW228 := n3_; have GE228 := n4_; have NB227_228 := n5_; have NB228_227 := n6_; clear n0_ n1_ n2_ n3_ n4_ n5_ n6_; clear hb hbox hg; have hnb30 := NB227_228.out; have hnc30 := NB228_227.out; have hcz31_0 : w29.cell? ⟨gb227, 0, none⟩ = some (.slice A0_0 l0_0.length c0_0) := (blk_cell BK227.out 0).trans rfl; have hcz31_1 : w29.cell? ⟨gb227, 1, none⟩ = some (.int .i64 a0_1) := (blk_cell BK227.out 1).trans rfl; have hcz31_2 : w29.cell? ⟨gb227, 2, none⟩ = some (.string a0_2) := (blk_cell BK227.out 2).trans rfl; have hcz31_3 : w29.cell? ⟨gb227, 3, none⟩ = some (.int .u32 a0_3) := (blk_cell BK227.out 3).trans rfl; have hcz31_4 : w29.cell? ⟨gb227, 4, none⟩ = some (.bool a0_4) := (blk_cell BK227.out 4).trans rfl; have hfz31_0 := blk_frozen BK227.out 0; have hfz31_1 := blk_frozen BK227.out 1; have hfz31_2 := blk_frozen BK227.out 2; have hfz31_3 := blk_frozen BK227.out 3; have hfz31_4 := blk_frozen BK227.out 4; have hcz32_0 : w29.cell? ⟨gb228, 0, none⟩ = some (.slice A1_0 l1_0.length c1_0) := (blk_cell BK228.out 0).trans rfl; have hcz32_1 : w29.cell? ⟨gb228, 1, none⟩ = some (.int .i64 a1_1) := (blk_cell BK228.out 1).trans rfl; have hcz32_2 : w29.cell? ⟨gb228, 2, none⟩ = some (.string a1_2) := (blk_cell BK228.out 2).trans rfl; have hcz32_3 : w29.cell? ⟨gb228, 3, none⟩ = some (.int .u32 a1_3) := (blk_cell BK228.out 3).trans rfl; have hcz32_4 : w29.cell? ⟨gb228, 4, none⟩ = some (.bool a1_4) := (blk_cell BK228.out 4).trans rfl; have hfz32_0 := blk_frozen BK228.out 0; have hfz32_1 := blk_frozen BK228.out 1; have hfz32_2 := blk_frozen BK228.out 2; have hfz32_3 := blk_frozen BK228.out 3; have hfz32_4 := blk_frozen BK228.out 4) | ((with_reducible refine gate_callee (f := 23) rfl ?_); refine goesL_ (some 9) rfl rfl Tryd.func23 (by kernel_rfl) rfl #[.slice A0_0 l0_0.length c0_0, .slice A1_0 l1_0.length c1_0] rfl (by (try simp only [List.map_toArray, List.map_cons, List.map_nil]); first | done | rfl | (simp only [List.length_drop, List.length_take]; rfl)) ?_; (with_reducible refine (headgatekeep_Regs.calls k _ _ l0_0 _ _ l1_0 false _ ?side1 ?side2 ?side3 ?side4 A3.out).mono ?_); (case side1 => repeat (first | exact (Kd.C_below HR0_0.out HB.out) | (with_reducible refine Kd.C_alloc ?_ _) | (with_reducible refine Kd.C_drewN ?_ _) | (with_reducible refine Kd.C_drew ?_))); (case side2 => exact HC0_0.out); (case side3 => repeat (first | exact (Kd.C_below HR1_0.out HB.out) | (with_reducible refine Kd.C_alloc ?_ _) | (with_reducible refine Kd.C_drewN ?_ _) | (with_reducible refine Kd.C_drew ?_))); (case side4 => exact HC1_0.out); rintro e w' ⟨rfl, ⟨nd, rfl⟩⟩; refine ⟨_, rfl, ?_⟩))
  go_ret
  exact ⟨by first | rfl | (simp [errW_none, errW_some] <;> rfl) | (simp [*, errW_none, errW_some] <;> rfl) | (simp [bt, *]; done) | (unfold bt; simp [*]; done), by repeat (first | (with_reducible first | exact HB.out | apply below_alloc | apply pw_below_drewN | apply below_drew1 | refine below_set ?_ GE227.out | refine below_set ?_ GE228.out) | exact HB.out)⟩
 subst c4
 have H1 := H
 rw [if_pos rfl] at H1
 clear H
 have H := H1
 clear H1
 refine neg_first (p := (a0_1 = a1_1)) (fun c5 => ?_) (fun c5 => ?_)
 ·rw [if_neg c5] at H
  have c5b0 : (a0_1 == a1_1) = false := beq_eq_false_iff_ne.mpr c5
  have c5b1 : (a0_1 != a1_1) = true := bne_iff_ne.mpr c5
  obtain rfl := Option.some.inj H
  go_enter Tryd.func17, Tryd.ntmps17
  go_wp2_with (first | ((with_reducible refine gate_dst (N := 2) rfl ?_); refine box_event ?hg (N := 2) ?hd (cs := #[.slice A0_0 l0_0.length c0_0, .int .i64 a0_1, .string a0_2, .int .u32 a0_3, .bool a0_4]) (t := 27) ?hr ?_; (case hd => rfl); (case hg => rfl); (case hr => first | (go_simp; done) | (go_simp; rfl)); intro gb227 hg w23 hbox hb; have n0_ := Aside0.mk (below_step (hb_ HB) hb); have n1_ := Aside0.mk (hbox); have n2_ := Aside0.mk ((by rw [hg]; exact (below_size (hb_ HB)) : w.heap.size ≤ gb227)); have n3_ := Aside0.mk ((by rw [hg]; exact (below_size (hb_ HB)) : w.heap.size ≤ gb227)); clear HB; have HB := n0_; have BK227 := n1_; have GW227 := n2_; have GE227 := n3_; clear n0_ n1_ n2_ n3_; clear hb hbox hg) | ((with_reducible refine gate_dst (N := 3) rfl ?_); refine box_event ?hg (N := 3) ?hd (cs := #[.slice A1_0 l1_0.length c1_0, .int .i64 a1_1, .string a1_2, .int .u32 a1_3, .bool a1_4]) (t := 27) ?hr ?_; (case hd => rfl); (case hg => rfl); (case hr => first | (go_simp; done) | (go_simp; rfl)); intro gb228 hg w24 hbox hb; have n0_ := Aside0.mk (blk_below (bk_ BK227) hb); have n1_ := Aside0.mk (below_step (hb_ HB) hb); have n2_ := Aside0.mk (hbox); have n3_ := Aside0.mk ((by rw [hg]; exact (below_size (hb_ HB)) : w.heap.size ≤ gb228)); have n4_ := Aside0.mk ((by rw [hg]; exact (below_size (hb_ HB)) : w.heap.size ≤ gb228)); have n5_ := Aside0.mk ((by rw [hg]; exact Nat.ne_of_lt (blk_lt (g := gb227) (o := .cells #[.slice A0_0 l0_0.length c0_0, .int .i64 a0_1, .string a0_2, .int .u32 a0_3, .bool a0_4] 27 (0, 0)) (bk_ BK227)) : gb227 ≠ gb228)); have n6_ := Aside0.mk ((by rw [hg]; exact Nat.ne_of_gt (blk_lt (g := gb227) (o := .cells #[.slice A0_0 l0_0.length c0_0, .int .i64 a0_1, .string a0_2, .int .u32 a0_3, .bool a0_4] 27 (0, 0)) (bk_ BK227)) : gb228 ≠ gb227)); clear BK227; clear HB; have BK227 := n0_; have HB := n1_; have BK228 := n2_; have GW228 := n3_; have GE228 := n4_; have NB227_228 := n5_; have NB228_227 := n6_; clear n0_ n1_ n2_ n3_ n4_ n5_ n6_; clear hb hbox hg; have hnb25 := NB227_228.out; have hnc25 := NB228_227.out; have hcz26_0 : w24.cell? ⟨gb227, 0, none⟩ = some (.slice A0_0 l0_0.length c0_0) := (blk_cell BK227.out 0).trans rfl; have hcz26_1 : w24.cell? ⟨gb227, 1, none⟩ = some (.int .i64 a0_1) := (blk_cell BK227.out 1).trans rfl; have hcz26_2 : w24.cell? ⟨gb227, 2, none⟩ = some (.string a0_2) := (blk_cell BK227.out 2).trans rfl; have hcz26_3 : w24.cell? ⟨gb227, 3, none⟩ = some (.int .u32 a0_3) := (blk_cell BK227.out 3).trans rfl; have hcz26_4 : w24.cell? ⟨gb227, 4, none⟩ = some (.bool a0_4) := (blk_cell BK227.out 4).trans rfl; have hfz26_0 := blk_frozen BK227.out 0; have hfz26_1 := blk_frozen BK227.out 1; have hfz26_2 := blk_frozen BK227.out 2; have hfz26_3 := blk_frozen BK227.out 3; have hfz26_4 := blk_frozen BK227.out 4; have hcz27_0 : w24.cell? ⟨gb228, 0, none⟩ = some (.slice A1_0 l1_0.length c1_0) := (blk_cell BK228.out 0).trans rfl; have hcz27_1 : w24.cell? ⟨gb228, 1, none⟩ = some (.int .i64 a1_1) := (blk_cell BK228.out 1).trans rfl; have hcz27_2 : w24.cell? ⟨gb228, 2, none⟩ = some (.string a1_2) := (blk_cell BK228.out 2).trans rfl; have hcz27_3 : w24.cell? ⟨gb228, 3, none⟩ = some (.int .u32 a1_3) := (blk_cell BK228.out 3).trans rfl; have hcz27_4 : w24.cell? ⟨gb228, 4, none⟩ = some (.bool a1_4) := (blk_cell BK228.out 4).trans rfl; have hfz27_0 := blk_frozen BK228.out 0; have hfz27_1 := blk_frozen BK228.out 1; have hfz27_2 := blk_frozen BK228.out 2; have hfz27_3 := blk_frozen BK228.out 3; have hfz27_4 := blk_frozen BK228.out 4) | ((with_reducible refine gate_callee (f := 23) rfl ?_); refine goesL_ (some 9) rfl rfl Tryd.func23 (by kernel_rfl) rfl #[.slice A0_0 l0_0.length c0_0, .slice A1_0 l1_0.length c1_0] rfl (by (try simp only [List.map_toArray, List.map_cons, List.map_nil]); first | done | rfl | (simp only [List.length_drop, List.length_take]; rfl)) ?_; (with_reducible refine (headgatekeep_Regs.calls k _ _ l0_0 _ _ l1_0 true _ ?side1 ?side2 ?side3 ?side4 A3.out).mono ?_); (case side1 => repeat (first | exact (Kd.C_below HR0_0.out HB.out) | (with_reducible refine Kd.C_alloc ?_ _) | (with_reducible refine Kd.C_drewN ?_ _) | (with_reducible refine Kd.C_drew ?_))); (case side2 => exact HC0_0.out); (case side3 => repeat (first | exact (Kd.C_below HR1_0.out HB.out) | (with_reducible refine Kd.C_alloc ?_ _) | (with_reducible refine Kd.C_drewN ?_ _) | (with_reducible refine Kd.C_drew ?_))); (case side4 => exact HC1_0.out); rintro e w' ⟨rfl, ⟨nd, rfl⟩⟩; refine ⟨_, rfl, ?_⟩))
  go_ret
  exact ⟨by first | rfl | (simp [errW_none, errW_some] <;> rfl) | (simp [*, errW_none, errW_some] <;> rfl) | (simp [bt, *]; done) | (unfold bt; simp [*]; done), by repeat (first | (with_reducible first | exact HB.out | apply below_alloc | apply pw_below_drewN | apply below_drew1 | refine below_set ?_ GE227.out | refine below_set ?_ GE228.out) | exact HB.out)⟩
 rw [if_pos c5] at H
 have c5b0 : (a0_1 == a1_1) = true := beq_iff_eq.mpr c5
 have c5b1 : (a0_1 != a1_1) = false := bne_eq_false_iff_eq.mpr c5
 clear c5
 refine neg_first (p := (a0_2.toList = a1_2.toList)) (fun c6 => ?_) (fun c6 => ?_)
 ·rw [if_neg c6] at H
  have c6b0 : (a0_2.toList == a1_2.toList) = false := beq_eq_false_iff_ne.mpr c6
  have c6b1 : (a0_2.toList != a1_2.toList) = true := bne_iff_ne.mpr c6
  obtain rfl := Option.some.inj H
  go_enter Tryd.func17, Tryd.ntmps17
  go_wp2_with (first | ((with_reducible refine gate_dst (N := 2) rfl ?_); refine box_event ?hg (N := 2) ?hd (cs := #[.slice A0_0 l0_0.length c0_0, .int .i64 a0_1, .string a0_2, .int .u32 a0_3, .bool a0_4]) (t := 27) ?hr ?_; (case hd => rfl); (case hg => rfl); (case hr => first | (go_simp; done) | (go_simp; rfl)); intro gb227 hg w18 hbox hb; have n0_ := Aside0.mk (below_step (hb_ HB) hb); have n1_ := Aside0.mk (hbox); have n2_ := Aside0.mk ((by rw [hg]; exact (below_size (hb_ HB)) : w.heap.size ≤ gb227)); have n3_ := Aside0.mk ((by rw [hg]; exact (below_size (hb_ HB)) : w.heap.size ≤ gb227)); clear HB; have HB := n0_; have BK227 := n1_; have GW227 := n2_; have GE227 := n3_; clear n0_ n1_ n2_ n3_; clear hb hbox hg) | ((with_reducible refine gate_dst (N := 3) rfl ?_); refine box_event ?hg (N := 3) ?hd (cs := #[.slice A1_0 l1_0.length c1_0, .int .i64 a1_1, .string a1_2, .int .u32 a1_3, .bool a1_4]) (t := 27) ?hr ?_; (case hd => rfl); (case hg => rfl); (case hr => first | (go_simp; done) | (go_simp; rfl)); intro gb228 hg w19 hbox hb; have n0_ := Aside0.mk (blk_below (bk_ BK227) hb); have n1_ := Aside0.mk (below_step (hb_ HB) hb); have n2_ := Aside0.mk (hbox); have n3_ := Aside0.mk ((by rw [hg]; exact (below_size (hb_ HB)) : w.heap.size ≤ gb228)); have n4_ := Aside0.mk ((by rw [hg]; exact (below_size (hb_ HB)) : w.heap.size ≤ gb228)); have n5_ := Aside0.mk ((by rw [hg]; exact Nat.ne_of_lt (blk_lt (g := gb227) (o := .cells #[.slice A0_0 l0_0.length c0_0, .int .i64 a0_1, .string a0_2, .int .u32 a0_3, .bool a0_4] 27 (0, 0)) (bk_ BK227)) : gb227 ≠ gb228)); have n6_ := Aside0.mk ((by rw [hg]; exact Nat.ne_of_gt (blk_lt (g := gb227) (o := .cells #[.slice A0_0 l0_0.length c0_0, .int .i64 a0_1, .string a0_2, .int .u32 a0_3, .bool a0_4] 27 (0, 0)) (bk_ BK227)) : gb228 ≠ gb227)); clear BK227; clear HB; have BK227 := n0_; have HB := n1_; have BK228 := n2_; have GW228 := n3_; have GE228 := n4_; have NB227_228 := n5_; have NB228_227 := n6_; clear n0_ n1_ n2_ n3_ n4_ n5_ n6_; clear hb hbox hg; have hnb20 := NB227_228.out; have hnc20 := NB228_227.out; have hcz21_0 : w19.cell? ⟨gb227, 0, none⟩ = some (.slice A0_0 l0_0.length c0_0) := (blk_cell BK227.out 0).trans rfl; have hcz21_1 : w19.cell? ⟨gb227, 1, none⟩ = some (.int .i64 a0_1) := (blk_cell BK227.out 1).trans rfl; have hcz21_2 : w19.cell? ⟨gb227, 2, none⟩ = some (.string a0_2) := (blk_cell BK227.out 2).trans rfl; have hcz21_3 : w19.cell? ⟨gb227, 3, none⟩ = some (.int .u32 a0_3) := (blk_cell BK227.out 3).trans rfl; have hcz21_4 : w19.cell? ⟨gb227, 4, none⟩ = some (.bool a0_4) := (blk_cell BK227.out 4).trans rfl; have hfz21_0 := blk_frozen BK227.out 0; have hfz21_1 := blk_frozen BK227.out 1; have hfz21_2 := blk_frozen BK227.out 2; have hfz21_3 := blk_frozen BK227.out 3; have hfz21_4 := blk_frozen BK227.out 4; have hcz22_0 : w19.cell? ⟨gb228, 0, none⟩ = some (.slice A1_0 l1_0.length c1_0) := (blk_cell BK228.out 0).trans rfl; have hcz22_1 : w19.cell? ⟨gb228, 1, none⟩ = some (.int .i64 a1_1) := (blk_cell BK228.out 1).trans rfl; have hcz22_2 : w19.cell? ⟨gb228, 2, none⟩ = some (.string a1_2) := (blk_cell BK228.out 2).trans rfl; have hcz22_3 : w19.cell? ⟨gb228, 3, none⟩ = some (.int .u32 a1_3) := (blk_cell BK228.out 3).trans rfl; have hcz22_4 : w19.cell? ⟨gb228, 4, none⟩ = some (.bool a1_4) := (blk_cell BK228.out 4).trans rfl; have hfz22_0 := blk_frozen BK228.out 0; have hfz22_1 := blk_frozen BK228.out 1; have hfz22_2 := blk_frozen BK228.out 2; have hfz22_3 := blk_frozen BK228.out 3; have hfz22_4 := blk_frozen BK228.out 4) | ((with_reducible refine gate_callee (f := 23) rfl ?_); refine goesL_ (some 9) rfl rfl Tryd.func23 (by kernel_rfl) rfl #[.slice A0_0 l0_0.length c0_0, .slice A1_0 l1_0.length c1_0] rfl (by (try simp only [List.map_toArray, List.map_cons, List.map_nil]); first | done | rfl | (simp only [List.length_drop, List.length_take]; rfl)) ?_; (with_reducible refine (headgatekeep_Regs.calls k _ _ l0_0 _ _ l1_0 true _ ?side1 ?side2 ?side3 ?side4 A3.out).mono ?_); (case side1 => repeat (first | exact (Kd.C_below HR0_0.out HB.out) | (with_reducible refine Kd.C_alloc ?_ _) | (with_reducible refine Kd.C_drewN ?_ _) | (with_reducible refine Kd.C_drew ?_))); (case side2 => exact HC0_0.out); (case side3 => repeat (first | exact (Kd.C_below HR1_0.out HB.out) | (with_reducible refine Kd.C_alloc ?_ _) | (with_reducible refine Kd.C_drewN ?_ _) | (with_reducible refine Kd.C_drew ?_))); (case side4 => exact HC1_0.out); rintro e w' ⟨rfl, ⟨nd, rfl⟩⟩; refine ⟨_, rfl, ?_⟩))
  go_ret
  exact ⟨by first | rfl | (simp [errW_none, errW_some] <;> rfl) | (simp [*, errW_none, errW_some] <;> rfl) | (simp [bt, *]; done) | (unfold bt; simp [*]; done), by repeat (first | (with_reducible first | exact HB.out | apply below_alloc | apply pw_below_drewN | apply below_drew1 | refine below_set ?_ GE227.out | refine below_set ?_ GE228.out) | exact HB.out)⟩
 rw [if_pos c6] at H
 have c6b0 : (a0_2.toList == a1_2.toList) = true := beq_iff_eq.mpr c6
 have c6b1 : (a0_2.toList != a1_2.toList) = false := bne_eq_false_iff_eq.mpr c6
 clear c6
 refine neg_first (p := (a0_3 = a1_3)) (fun c7 => ?_) (fun c7 => ?_)
 ·rw [if_neg c7] at H
  have c7b0 : (a0_3 == a1_3) = false := beq_eq_false_iff_ne.mpr c7
  have c7b1 : (a0_3 != a1_3) = true := bne_iff_ne.mpr c7
  obtain rfl := Option.some.inj H
  go_enter Tryd.func17, Tryd.ntmps17
  go_wp2_with (first | ((with_reducible refine gate_dst (N := 2) rfl ?_); refine box_event ?hg (N := 2) ?hd (cs := #[.slice A0_0 l0_0.length c0_0, .int .i64 a0_1, .string a0_2, .int .u32 a0_3, .bool a0_4]) (t := 27) ?hr ?_; (case hd => rfl); (case hg => rfl); (case hr => first | (go_simp; done) | (go_simp; rfl)); intro gb227 hg w13 hbox hb; have n0_ := Aside0.mk (below_step (hb_ HB) hb); have n1_ := Aside0.mk (hbox); have n2_ := Aside0.mk ((by rw [hg]; exact (below_size (hb_ HB)) : w.heap.size ≤ gb227)); have n3_ := Aside0.mk ((by rw [hg]; exact (below_size (hb_ HB)) : w.heap.size ≤ gb227)); clear HB; have HB := n0_; have BK227 := n1_; have GW227 := n2_; have GE227 := n3_; clear n0_ n1_ n2_ n3_; clear hb hbox hg) | ((with_reducible refine gate_dst (N := 3) rfl ?_); refine box_event ?hg (N := 3) ?hd (cs := #[.slice A1_0 l1_0.length c1_0, .int .i64 a1_1, .string a1_2, .int .u32 a1_3, .bool a1_4]) (t := 27) ?hr ?_; (case hd => rfl); (case hg => rfl); (case hr => first | (go_simp; done) | (go_simp; rfl)); intro gb228 hg w14 hbox hb; have n0_ := Aside0.mk (blk_below (bk_ BK227) hb); have n1_ := Aside0.mk (below_step (hb_ HB) hb); have n2_ := Aside0.mk (hbox); have n3_ := Aside0.mk ((by rw [hg]; exact (below_size (hb_ HB)) : w.heap.size ≤ gb228)); have n4_ := Aside0.mk ((by rw [hg]; exact (below_size (hb_ HB)) : w.heap.size ≤ gb228)); have n5_ := Aside0.mk ((by rw [hg]; exact Nat.ne_of_lt (blk_lt (g := gb227) (o := .cells #[.slice A0_0 l0_0.length c0_0, .int .i64 a0_1, .string a0_2, .int .u32 a0_3, .bool a0_4] 27 (0, 0)) (bk_ BK227)) : gb227 ≠ gb228)); have n6_ := Aside0.mk ((by rw [hg]; exact Nat.ne_of_gt (blk_lt (g := gb227) (o := .cells #[.slice A0_0 l0_0.length c0_0, .int .i64 a0_1, .string a0_2, .int .u32 a0_3, .bool a0_4] 27 (0, 0)) (bk_ BK227)) : gb228 ≠ gb227)); clear BK227; clear HB; have BK227 := n0_; have HB := n1_; have BK228 := n2_; have GW228 := n3_; have GE228 := n4_; have NB227_228 := n5_; have NB228_227 := n6_; clear n0_ n1_ n2_ n3_ n4_ n5_ n6_; clear hb hbox hg; have hnb15 := NB227_228.out; have hnc15 := NB228_227.out; have hcz16_0 : w14.cell? ⟨gb227, 0, none⟩ = some (.slice A0_0 l0_0.length c0_0) := (blk_cell BK227.out 0).trans rfl; have hcz16_1 : w14.cell? ⟨gb227, 1, none⟩ = some (.int .i64 a0_1) := (blk_cell BK227.out 1).trans rfl; have hcz16_2 : w14.cell? ⟨gb227, 2, none⟩ = some (.string a0_2) := (blk_cell BK227.out 2).trans rfl; have hcz16_3 : w14.cell? ⟨gb227, 3, none⟩ = some (.int .u32 a0_3) := (blk_cell BK227.out 3).trans rfl; have hcz16_4 : w14.cell? ⟨gb227, 4, none⟩ = some (.bool a0_4) := (blk_cell BK227.out 4).trans rfl; have hfz16_0 := blk_frozen BK227.out 0; have hfz16_1 := blk_frozen BK227.out 1; have hfz16_2 := blk_frozen BK227.out 2; have hfz16_3 := blk_frozen BK227.out 3; have hfz16_4 := blk_frozen BK227.out 4; have hcz17_0 : w14.cell? ⟨gb228, 0, none⟩ = some (.slice A1_0 l1_0.length c1_0) := (blk_cell BK228.out 0).trans rfl; have hcz17_1 : w14.cell? ⟨gb228, 1, none⟩ = some (.int .i64 a1_1) := (blk_cell BK228.out 1).trans rfl; have hcz17_2 : w14.cell? ⟨gb228, 2, none⟩ = some (.string a1_2) := (blk_cell BK228.out 2).trans rfl; have hcz17_3 : w14.cell? ⟨gb228, 3, none⟩ = some (.int .u32 a1_3) := (blk_cell BK228.out 3).trans rfl; have hcz17_4 : w14.cell? ⟨gb228, 4, none⟩ = some (.bool a1_4) := (blk_cell BK228.out 4).trans rfl; have hfz17_0 := blk_frozen BK228.out 0; have hfz17_1 := blk_frozen BK228.out 1; have hfz17_2 := blk_frozen BK228.out 2; have hfz17_3 := blk_frozen BK228.out 3; have hfz17_4 := blk_frozen BK228.out 4) | ((with_reducible refine gate_callee (f := 23) rfl ?_); refine goesL_ (some 9) rfl rfl Tryd.func23 (by kernel_rfl) rfl #[.slice A0_0 l0_0.length c0_0, .slice A1_0 l1_0.length c1_0] rfl (by (try simp only [List.map_toArray, List.map_cons, List.map_nil]); first | done | rfl | (simp only [List.length_drop, List.length_take]; rfl)) ?_; (with_reducible refine (headgatekeep_Regs.calls k _ _ l0_0 _ _ l1_0 true _ ?side1 ?side2 ?side3 ?side4 A3.out).mono ?_); (case side1 => repeat (first | exact (Kd.C_below HR0_0.out HB.out) | (with_reducible refine Kd.C_alloc ?_ _) | (with_reducible refine Kd.C_drewN ?_ _) | (with_reducible refine Kd.C_drew ?_))); (case side2 => exact HC0_0.out); (case side3 => repeat (first | exact (Kd.C_below HR1_0.out HB.out) | (with_reducible refine Kd.C_alloc ?_ _) | (with_reducible refine Kd.C_drewN ?_ _) | (with_reducible refine Kd.C_drew ?_))); (case side4 => exact HC1_0.out); rintro e w' ⟨rfl, ⟨nd, rfl⟩⟩; refine ⟨_, rfl, ?_⟩))
  go_ret
  exact ⟨by first | rfl | (simp [errW_none, errW_some] <;> rfl) | (simp [*, errW_none, errW_some] <;> rfl) | (simp [bt, *]; done) | (unfold bt; simp [*]; done), by repeat (first | (with_reducible first | exact HB.out | apply below_alloc | apply pw_below_drewN | apply below_drew1 | refine below_set ?_ GE227.out | refine below_set ?_ GE228.out) | exact HB.out)⟩
 rw [if_pos c7] at H
 have c7b0 : (a0_3 == a1_3) = true := beq_iff_eq.mpr c7
 have c7b1 : (a0_3 != a1_3) = false := bne_eq_false_iff_eq.mpr c7
 clear c7
 obtain rfl := Option.some.inj H
 go_enter Tryd.func17, Tryd.ntmps17
 go_wp2_with (first | ((with_reducible refine gate_dst (N := 2) rfl ?_); refine box_event ?hg (N := 2) ?hd (cs := #[.slice A0_0 l0_0.length c0_0, .int .i64 a0_1, .string a0_2, .int .u32 a0_3, .bool a0_4]) (t := 27) ?hr ?_; (case hd => rfl); (case hg => rfl); (case hr => first | (go_simp; done) | (go_simp; rfl)); intro gb227 hg w8 hbox hb; have n0_ := Aside0.mk (below_step (hb_ HB) hb); have n1_ := Aside0.mk (hbox); have n2_ := Aside0.mk ((by rw [hg]; exact (below_size (hb_ HB)) : w.heap.size ≤ gb227)); have n3_ := Aside0.mk ((by rw [hg]; exact (below_size (hb_ HB)) : w.heap.size ≤ gb227)); clear HB; have HB := n0_; have BK227 := n1_; have GW227 := n2_; have GE227 := n3_; clear n0_ n1_ n2_ n3_; clear hb hbox hg) | ((with_reducible refine gate_dst (N := 3) rfl ?_); refine box_event ?hg (N := 3) ?hd (cs := #[.slice A1_0 l1_0.length c1_0, .int .i64 a1_1, .string a1_2, .int .u32 a1_3, .bool a1_4]) (t := 27) ?hr ?_; (case hd => rfl); (case hg => rfl); (case hr => first | (go_simp; done) | (go_simp; rfl)); intro gb228 hg w9 hbox hb; have n0_ := Aside0.mk (blk_below (bk_ BK227) hb); have n1_ := Aside0.mk (below_step (hb_ HB) hb); have n2_ := Aside0.mk (hbox); have n3_ := Aside0.mk ((by rw [hg]; exact (below_size (hb_ HB)) : w.heap.size ≤ gb228)); have n4_ := Aside0.mk ((by rw [hg]; exact (below_size (hb_ HB)) : w.heap.size ≤ gb228)); have n5_ := Aside0.mk ((by rw [hg]; exact Nat.ne_of_lt (blk_lt (g := gb227) (o := .cells #[.slice A0_0 l0_0.length c0_0, .int .i64 a0_1, .string a0_2, .int .u32 a0_3, .bool a0_4] 27 (0, 0)) (bk_ BK227)) : gb227 ≠ gb228)); have n6_ := Aside0.mk ((by rw [hg]; exact Nat.ne_of_gt (blk_lt (g := gb227) (o := .cells #[.slice A0_0 l0_0.length c0_0, .int .i64 a0_1, .string a0_2, .int .u32 a0_3, .bool a0_4] 27 (0, 0)) (bk_ BK227)) : gb228 ≠ gb227)); clear BK227; clear HB; have BK227 := n0_; have HB := n1_; have BK228 := n2_; have GW228 := n3_; have GE228 := n4_; have NB227_228 := n5_; have NB228_227 := n6_; clear n0_ n1_ n2_ n3_ n4_ n5_ n6_; clear hb hbox hg; have hnb10 := NB227_228.out; have hnc10 := NB228_227.out; have hcz11_0 : w9.cell? ⟨gb227, 0, none⟩ = some (.slice A0_0 l0_0.length c0_0) := (blk_cell BK227.out 0).trans rfl; have hcz11_1 : w9.cell? ⟨gb227, 1, none⟩ = some (.int .i64 a0_1) := (blk_cell BK227.out 1).trans rfl; have hcz11_2 : w9.cell? ⟨gb227, 2, none⟩ = some (.string a0_2) := (blk_cell BK227.out 2).trans rfl; have hcz11_3 : w9.cell? ⟨gb227, 3, none⟩ = some (.int .u32 a0_3) := (blk_cell BK227.out 3).trans rfl; have hcz11_4 : w9.cell? ⟨gb227, 4, none⟩ = some (.bool a0_4) := (blk_cell BK227.out 4).trans rfl; have hfz11_0 := blk_frozen BK227.out 0; have hfz11_1 := blk_frozen BK227.out 1; have hfz11_2 := blk_frozen BK227.out 2; have hfz11_3 := blk_frozen BK227.out 3; have hfz11_4 := blk_frozen BK227.out 4; have hcz12_0 : w9.cell? ⟨gb228, 0, none⟩ = some (.slice A1_0 l1_0.length c1_0) := (blk_cell BK228.out 0).trans rfl; have hcz12_1 : w9.cell? ⟨gb228, 1, none⟩ = some (.int .i64 a1_1) := (blk_cell BK228.out 1).trans rfl; have hcz12_2 : w9.cell? ⟨gb228, 2, none⟩ = some (.string a1_2) := (blk_cell BK228.out 2).trans rfl; have hcz12_3 : w9.cell? ⟨gb228, 3, none⟩ = some (.int .u32 a1_3) := (blk_cell BK228.out 3).trans rfl; have hcz12_4 : w9.cell? ⟨gb228, 4, none⟩ = some (.bool a1_4) := (blk_cell BK228.out 4).trans rfl; have hfz12_0 := blk_frozen BK228.out 0; have hfz12_1 := blk_frozen BK228.out 1; have hfz12_2 := blk_frozen BK228.out 2; have hfz12_3 := blk_frozen BK228.out 3; have hfz12_4 := blk_frozen BK228.out 4) | ((with_reducible refine gate_callee (f := 23) rfl ?_); refine goesL_ (some 9) rfl rfl Tryd.func23 (by kernel_rfl) rfl #[.slice A0_0 l0_0.length c0_0, .slice A1_0 l1_0.length c1_0] rfl (by (try simp only [List.map_toArray, List.map_cons, List.map_nil]); first | done | rfl | (simp only [List.length_drop, List.length_take]; rfl)) ?_; (with_reducible refine (headgatekeep_Regs.calls k _ _ l0_0 _ _ l1_0 true _ ?side1 ?side2 ?side3 ?side4 A3.out).mono ?_); (case side1 => repeat (first | exact (Kd.C_below HR0_0.out HB.out) | (with_reducible refine Kd.C_alloc ?_ _) | (with_reducible refine Kd.C_drewN ?_ _) | (with_reducible refine Kd.C_drew ?_))); (case side2 => exact HC0_0.out); (case side3 => repeat (first | exact (Kd.C_below HR1_0.out HB.out) | (with_reducible refine Kd.C_alloc ?_ _) | (with_reducible refine Kd.C_drewN ?_ _) | (with_reducible refine Kd.C_drew ?_))); (case side4 => exact HC1_0.out); rintro e w' ⟨rfl, ⟨nd, rfl⟩⟩; refine ⟨_, rfl, ?_⟩))
 go_ret
 exact ⟨by first | rfl | (simp [errW_none, errW_some] <;> rfl) | (simp [*, errW_none, errW_some] <;> rfl) | (simp [bt, *]; done) | (unfold bt; simp [*]; done), by repeat (first | (with_reducible first | exact HB.out | apply below_alloc | apply pw_below_drewN | apply below_drew1 | refine below_set ?_ GE227.out | refine below_set ?_ GE228.out) | exact HB.out)⟩
def resv_Power.f (l0_0 : List (S53)) (a0_1 : Int) (a0_2 : ByteArray) (a0_3 : Int) (a0_4 : Bool) : Option ((List (S53)) × Int × ByteArray × Int × Bool) := (resv_Good.f l0_0 a0_1 a0_2 a0_3 a0_4).bind fun t258 => (if t258 = true then (if a0_4 = true then ((api_Reg.f l0_0).bind fun t259 => (some (t259, a0_1, a0_2, a0_3, a0_4))) else (some (([] : List (S53)), 0, (⟨#[]⟩ : ByteArray), 0, false))) else (some (([] : List (S53)), 0, (⟨#[]⟩ : ByteArray), 0, false)))
set_option maxHeartbeats 8000000 in
set_option maxRecDepth 100000 in
theorem resv_Power.calls (A0_0 : Option Addr) (c0_0 : Nat) (l0_0 : List (S53)) (a0_1 : Int) (a0_2 : ByteArray) (a0_3 : Int) (a0_4 : Bool) (r1 : List (S53)) (r2 : Int) (r3 : ByteArray) (r4 : Int) (r5 : Bool) (w : World) (hr0_0 : Kd.C k53 w A0_0 l0_0.length l0_0) (hc0_0 : l0_0.length ≤ c0_0) (h : resv_Power.f l0_0 a0_1 a0_2 a0_3 a0_4 = some (r1, r2, r3, r4, r5)) :
  Calls Tryd.prog 25 #[.agg #[.slice A0_0 l0_0.length c0_0, .int .i64 a0_1, .string a0_2, .int .u32 a0_3, .bool a0_4]] w fun e w' => ∃ v0_ : Value, e = .returned (.agg #[v0_, .int .i64 r2, .string r3, .int .u32 r4, .bool r5]) ∧ Kd.R k53 53 w' w.heap.size (fun _ => True) v0_ r1 ∧ Below w.heap.size w w' := by
 have hu27 := Tryd.underlying27
 have HR0_0 := Aside0.mk hr0_0
 have HC0_0 := Aside0.mk hc0_0
 clear hr0_0 hc0_0
 have HB := Aside0.mk (Below.refl w.heap.size w)
 have H : ((resv_Good.f l0_0 a0_1 a0_2 a0_3 a0_4).bind fun t258 => (if t258 = true then (if a0_4 = true then ((api_Reg.f l0_0).bind fun t259 => (some (t259, a0_1, a0_2, a0_3, a0_4))) else (some (([] : List (S53)), 0, (⟨#[]⟩ : ByteArray), 0, false))) else (some (([] : List (S53)), 0, (⟨#[]⟩ : ByteArray), 0, false)))) = some (r1, r2, r3, r4, r5) := h
 clear h
 replace H := Option.bind_eq_some_iff.mp H
 obtain ⟨t258, A20, H⟩ := H
 try dsimp only at H
 have A2 := Aside0.mk A20
 clear A20
 refine neg_first (p := (t258 = true)) (fun c3 => ?_) (fun c3 => ?_)
 ·replace c3 := Bool.eq_false_iff.mpr c3
  subst c3
  have H1 := H
  rw [if_neg (show ¬ (false = true) by decide)] at H1
  clear H
  have H := H1
  clear H1
  simp only [Option.some.injEq, Prod.mk.injEq] at H
  obtain ⟨rfl, rfl, rfl, rfl, rfl⟩ := H
  go_enter Tryd.func25, Tryd.ntmps25
  go_wp2_with (first | ((with_reducible refine gate_dst (N := 1) rfl ?_); refine box_event ?hg (N := 1) ?hd (cs := #[.slice A0_0 l0_0.length c0_0, .int .i64 a0_1, .string a0_2, .int .u32 a0_3, .bool a0_4]) (t := 27) ?hr ?_; (case hd => rfl); (case hg => rfl); (case hr => first | (go_simp; done) | (go_simp; rfl)); intro gb256 hg w23 hbox hb; have n0_ := Aside0.mk (below_step (hb_ HB) hb); have n1_ := Aside0.mk (hbox); have n2_ := Aside0.mk ((by rw [hg]; exact (below_size (hb_ HB)) : w.heap.size ≤ gb256)); have n3_ := Aside0.mk ((by rw [hg]; exact (below_size (hb_ HB)) : w.heap.size ≤ gb256)); clear HB; have HB := n0_; have BK256 := n1_; have GW256 := n2_; have GE256 := n3_; clear n0_ n1_ n2_ n3_; clear hb hbox hg) | ((with_reducible refine gate_dst (N := 2) rfl ?_); refine box_event ?hg (N := 2) ?hd (cs := #[.slice none 0 0, .int .i64 0, .string (⟨#[]⟩ : ByteArray), .int .u32 0, .bool false]) (t := 27) ?hr ?_; (case hd => rfl); (case hg => rfl); (case hr => first | (go_simp; done) | (go_simp; rfl)); intro gb257 hg w24 hbox hb; have n0_ := Aside0.mk (blk_below (bk_ BK256) hb); have n1_ := Aside0.mk (below_step (hb_ HB) hb); have n2_ := Aside0.mk (hbox); have n3_ := Aside0.mk ((by rw [hg]; exact (below_size (hb_ HB)) : w.heap.size ≤ gb257)); have n4_ := Aside0.mk ((by rw [hg]; exact (below_size (hb_ HB)) : w.heap.size ≤ gb257)); have n5_ := Aside0.mk ((by rw [hg]; exact Nat.ne_of_lt (blk_lt (g := gb256) (o := .cells #[.slice A0_0 l0_0.length c0_0, .int .i64 a0_1, .string a0_2, .int .u32 a0_3, .bool a0_4] 27 (0, 0)) (bk_ BK256)) : gb256 ≠ gb257)); have n6_ := Aside0.mk ((by rw [hg]; exact Nat.ne_of_gt (blk_lt (g := gb256) (o := .cells #[.slice A0_0 l0_0.length c0_0, .int .i64 a0_1, .string a0_2, .int .u32 a0_3, .bool a0_4] 27 (0, 0)) (bk_ BK256)) : gb257 ≠ gb256)); clear BK256; clear HB; have BK256 := n0_; have HB := n1_; have BK257 := n2_; have GW257 := n3_; have GE257 := n4_; have NB256_257 := n5_; have NB257_256 := n6_; clear n0_ n1_ n2_ n3_ n4_ n5_ n6_; clear hb hbox hg; have hnb25 := NB256_257.out; have hnc25 := NB257_256.out; have hcz26_0 : w24.cell? ⟨gb256, 0, none⟩ = some (.slice A0_0 l0_0.length c0_0) := (blk_cell BK256.out 0).trans rfl; have hcz26_1 : w24.cell? ⟨gb256, 1, none⟩ = some (.int .i64 a0_1) := (blk_cell BK256.out 1).trans rfl; have hcz26_2 : w24.cell? ⟨gb256, 2, none⟩ = some (.string a0_2) := (blk_cell BK256.out 2).trans rfl; have hcz26_3 : w24.cell? ⟨gb256, 3, none⟩ = some (.int .u32 a0_3) := (blk_cell BK256.out 3).trans rfl; have hcz26_4 : w24.cell? ⟨gb256, 4, none⟩ = some (.bool a0_4) := (blk_cell BK256.out 4).trans rfl; have hfz26_0 := blk_frozen BK256.out 0; have hfz26_1 := blk_frozen BK256.out 1; have hfz26_2 := blk_frozen BK256.out 2; have hfz26_3 := blk_frozen BK256.out 3; have hfz26_4 := blk_frozen BK256.out 4) | ((with_reducible refine gate_callee (f := 21) rfl ?_); refine goesL_ (some 4) rfl rfl Tryd.func21 (by kernel_rfl) rfl #[.agg #[.slice A0_0 l0_0.length c0_0, .int .i64 a0_1, .string a0_2, .int .u32 a0_3, .bool a0_4]] rfl (by (try simp only [List.map_toArray, List.map_cons, List.map_nil]); first | done | rfl | (simp only [List.length_drop, List.length_take]; rfl)) ?_; (with_reducible refine (resv_Good.calls _ _ l0_0 a0_1 a0_2 a0_3 a0_4 false _ ?side1 ?side2 A2.out).mono ?_); (case side1 => repeat (first | exact (Kd.C_below HR0_0.out HB.out) | (with_reducible refine Kd.C_alloc ?_ _) | (with_reducible refine Kd.C_drewN ?_ _) | (with_reducible refine Kd.C_drew ?_))); (case side2 => exact HC0_0.out); rintro e w27 ⟨rfl, hb⟩; refine ⟨_, rfl, ?_⟩; have n0_ := Aside0.mk (blk_below (bk_ BK256) hb); have n1_ := Aside0.mk (blk_below (bk_ BK257) hb); have n2_ := Aside0.mk (below_step (hb_ HB) hb); clear BK256; clear BK257; clear HB; have BK256 := n0_; have BK257 := n1_; have HB := n2_; clear n0_ n1_ n2_; (try clear hb); (try clear hb2); (try clear hk); (try clear hi); have hcz28_0 : w27.cell? ⟨gb257, 0, none⟩ = some (.slice none 0 0) := (blk_cell BK257.out 0).trans rfl; have hcz28_1 : w27.cell? ⟨gb257, 1, none⟩ = some (.int .i64 0) := (blk_cell BK257.out 1).trans rfl; have hcz28_2 : w27.cell? ⟨gb257, 2, none⟩ = some (.string (⟨#[]⟩ : ByteArray)) := (blk_cell BK257.out 2).trans rfl; have hcz28_3 : w27.cell? ⟨gb257, 3, none⟩ = some (.int .u32 0) := (blk_cell BK257.out 3).trans rfl; have hcz28_4 : w27.cell? ⟨gb257, 4, none⟩ = some (.bool false) := (blk_cell BK257.out 4).trans rfl; have hfz28_0 := blk_frozen BK257.out 0; have hfz28_1 := blk_frozen BK257.out 1; have hfz28_2 := blk_frozen BK257.out 2; have hfz28_3 := blk_frozen BK257.out 3; have hfz28_4 := blk_frozen BK257.out 4))
  refine bodyPost_ret (results_cell_row rfl _ _ gb257 27 #[.slice none 0 0, .int .i64 0, .string (⟨#[]⟩ : ByteArray), .int .u32 0, .bool false] (0, 0) _ rfl (by (with_reducible repeat (first | refine blk_drewN ?_ _ | refine blk_drew ?_ | refine blk_alloc ?_ _)); refine blk_put (cs := #[.slice none 0 0, .int .i64 0, .string (⟨#[]⟩ : ByteArray), .int .u32 0, .bool false]) ?_ 4 _ rfl; (with_reducible repeat (first | refine blk_drewN ?_ _ | refine blk_drew ?_ | refine blk_alloc ?_ _)); refine blk_put (cs := #[.slice none 0 0, .int .i64 0, .string (⟨#[]⟩ : ByteArray), .int .u32 0, .bool false]) ?_ 3 _ rfl; (with_reducible repeat (first | refine blk_drewN ?_ _ | refine blk_drew ?_ | refine blk_alloc ?_ _)); refine blk_put (cs := #[.slice none 0 0, .int .i64 0, .string (⟨#[]⟩ : ByteArray), .int .u32 0, .bool false]) ?_ 2 _ rfl; (with_reducible repeat (first | refine blk_drewN ?_ _ | refine blk_drew ?_ | refine blk_alloc ?_ _)); refine blk_put (cs := #[.slice none 0 0, .int .i64 0, .string (⟨#[]⟩ : ByteArray), .int .u32 0, .bool false]) ?_ 1 _ rfl; (with_reducible repeat (first | refine blk_drewN ?_ _ | refine blk_drew ?_ | refine blk_alloc ?_ _)); refine blk_put (cs := #[.slice none 0 0, .int .i64 0, .string (⟨#[]⟩ : ByteArray), .int .u32 0, .bool false]) ?_ 0 _ rfl; (with_reducible repeat (first | refine blk_drewN ?_ _ | refine blk_drew ?_ | refine blk_alloc ?_ _)); exact BK257.out) Tryd.underlying27 rfl (by kernel_rfl)) rfl ?_
  exact ⟨_, by first | rfl | (simp [errW_none, errW_some] <;> rfl) | (simp [*, errW_none, errW_some] <;> rfl) | (simp [bt, *]; done) | (unfold bt; simp [*]; done), by first | exact Kd.R_nil _ _ _ _ _ | exact Kd.N_nil _ _ _ _ _ | exact Kd.V_nil _ _ _ _ _ | exact Kd.Q_nil _ _ _ _ _ | exact Kd.S_nil _ _ _ _ _, by repeat (first | (with_reducible first | exact HB.out | apply below_alloc | apply pw_below_drewN | apply below_drew1 | refine below_set ?_ GE256.out | refine below_set ?_ GE257.out) | exact HB.out)⟩
 subst c3
 have H1 := H
 rw [if_pos rfl] at H1
 clear H
 have H := H1
 clear H1
 refine neg_first (p := (a0_4 = true)) (fun c4 => ?_) (fun c4 => ?_)
 ·replace c4 := Bool.eq_false_iff.mpr c4
  subst c4
  have H1 := H
  rw [if_neg (show ¬ (false = true) by decide)] at H1
  clear H
  have H := H1
  clear H1
  simp only [Option.some.injEq, Prod.mk.injEq] at H
  obtain ⟨rfl, rfl, rfl, rfl, rfl⟩ := H
  go_enter Tryd.func25, Tryd.ntmps25
  go_wp2_with (first | ((with_reducible refine gate_dst (N := 1) rfl ?_); refine box_event ?hg (N := 1) ?hd (cs := #[.slice A0_0 l0_0.length c0_0, .int .i64 a0_1, .string a0_2, .int .u32 a0_3, .bool false]) (t := 27) ?hr ?_; (case hd => rfl); (case hg => rfl); (case hr => first | (go_simp; done) | (go_simp; rfl)); intro gb256 hg w16 hbox hb; have n0_ := Aside0.mk (below_step (hb_ HB) hb); have n1_ := Aside0.mk (hbox); have n2_ := Aside0.mk ((by rw [hg]; exact (below_size (hb_ HB)) : w.heap.size ≤ gb256)); have n3_ := Aside0.mk ((by rw [hg]; exact (below_size (hb_ HB)) : w.heap.size ≤ gb256)); clear HB; have HB := n0_; have BK256 := n1_; have GW256 := n2_; have GE256 := n3_; clear n0_ n1_ n2_ n3_; clear hb hbox hg) | ((with_reducible refine gate_dst (N := 2) rfl ?_); refine box_event ?hg (N := 2) ?hd (cs := #[.slice none 0 0, .int .i64 0, .string (⟨#[]⟩ : ByteArray), .int .u32 0, .bool false]) (t := 27) ?hr ?_; (case hd => rfl); (case hg => rfl); (case hr => first | (go_simp; done) | (go_simp; rfl)); intro gb257 hg w17 hbox hb; have n0_ := Aside0.mk (blk_below (bk_ BK256) hb); have n1_ := Aside0.mk (below_step (hb_ HB) hb); have n2_ := Aside0.mk (hbox); have n3_ := Aside0.mk ((by rw [hg]; exact (below_size (hb_ HB)) : w.heap.size ≤ gb257)); have n4_ := Aside0.mk ((by rw [hg]; exact (below_size (hb_ HB)) : w.heap.size ≤ gb257)); have n5_ := Aside0.mk ((by rw [hg]; exact Nat.ne_of_lt (blk_lt (g := gb256) (o := .cells #[.slice A0_0 l0_0.length c0_0, .int .i64 a0_1, .string a0_2, .int .u32 a0_3, .bool false] 27 (0, 0)) (bk_ BK256)) : gb256 ≠ gb257)); have n6_ := Aside0.mk ((by rw [hg]; exact Nat.ne_of_gt (blk_lt (g := gb256) (o := .cells #[.slice A0_0 l0_0.length c0_0, .int .i64 a0_1, .string a0_2, .int .u32 a0_3, .bool false] 27 (0, 0)) (bk_ BK256)) : gb257 ≠ gb256)); clear BK256; clear HB; have BK256 := n0_; have HB := n1_; have BK257 := n2_; have GW257 := n3_; have GE257 := n4_; have NB256_257 := n5_; have NB257_256 := n6_; clear n0_ n1_ n2_ n3_ n4_ n5_ n6_; clear hb hbox hg; have hnb18 := NB256_257.out; have hnc18 := NB257_256.out; have hcz19_0 : w17.cell? ⟨gb256, 0, none⟩ = some (.slice A0_0 l0_0.length c0_0) := (blk_cell BK256.out 0).trans rfl; have hcz19_1 : w17.cell? ⟨gb256, 1, none⟩ = some (.int .i64 a0_1) := (blk_cell BK256.out 1).trans rfl; have hcz19_2 : w17.cell? ⟨gb256, 2, none⟩ = some (.string a0_2) := (blk_cell BK256.out 2).trans rfl; have hcz19_3 : w17.cell? ⟨gb256, 3, none⟩ = some (.int .u32 a0_3) := (blk_cell BK256.out 3).trans rfl; have hcz19_4 : w17.cell? ⟨gb256, 4, none⟩ = some (.bool false) := (blk_cell BK256.out 4).trans rfl; have hfz19_0 := blk_frozen BK256.out 0; have hfz19_1 := blk_frozen BK256.out 1; have hfz19_2 := blk_frozen BK256.out 2; have hfz19_3 := blk_frozen BK256.out 3; have hfz19_4 := blk_frozen BK256.out 4) | ((with_reducible refine gate_callee (f := 21) rfl ?_); refine goesL_ (some 4) rfl rfl Tryd.func21 (by kernel_rfl) rfl #[.agg #[.slice A0_0 l0_0.length c0_0, .int .i64 a0_1, .string a0_2, .int .u32 a0_3, .bool false]] rfl (by (try simp only [List.map_toArray, List.map_cons, List.map_nil]); first | done | rfl | (simp only [List.length_drop, List.length_take]; rfl)) ?_; (with_reducible refine (resv_Good.calls _ _ l0_0 a0_1 a0_2 a0_3 false true _ ?side1 ?side2 A2.out).mono ?_); (case side1 => repeat (first | exact (Kd.C_below HR0_0.out HB.out) | (with_reducible refine Kd.C_alloc ?_ _) | (with_reducible refine Kd.C_drewN ?_ _) | (with_reducible refine Kd.C_drew ?_))); (case side2 => exact HC0_0.out); rintro e w20 ⟨rfl, hb⟩; refine ⟨_, rfl, ?_⟩; have n0_ := Aside0.mk (blk_below (bk_ BK256) hb); have n1_ := Aside0.mk (blk_below (bk_ BK257) hb); have n2_ := Aside0.mk (below_step (hb_ HB) hb); clear BK256; clear BK257; clear HB; have BK256 := n0_; have BK257 := n1_; have HB := n2_; clear n0_ n1_ n2_; (try clear hb); (try clear hb2); (try clear hk); (try clear hi); have hcz21_0 : w20.cell? ⟨gb256, 0, none⟩ = some (.slice A0_0 l0_0.length c0_0) := (blk_cell BK256.out 0).trans rfl; have hcz21_1 : w20.cell? ⟨gb256, 1, none⟩ = some (.int .i64 a0_1) := (blk_cell BK256.out 1).trans rfl; have hcz21_2 : w20.cell? ⟨gb256, 2, none⟩ = some (.string a0_2) := (blk_cell BK256.out 2).trans rfl; have hcz21_3 : w20.cell? ⟨gb256, 3, none⟩ = some (.int .u32 a0_3) := (blk_cell BK256.out 3).trans rfl; have hcz21_4 : w20.cell? ⟨gb256, 4, none⟩ = some (.bool false) := (blk_cell BK256.out 4).trans rfl; have hfz21_0 := blk_frozen BK256.out 0; have hfz21_1 := blk_frozen BK256.out 1; have hfz21_2 := blk_frozen BK256.out 2; have hfz21_3 := blk_frozen BK256.out 3; have hfz21_4 := blk_frozen BK256.out 4; have hcz22_0 : w20.cell? ⟨gb257, 0, none⟩ = some (.slice none 0 0) := (blk_cell BK257.out 0).trans rfl; have hcz22_1 : w20.cell? ⟨gb257, 1, none⟩ = some (.int .i64 0) := (blk_cell BK257.out 1).trans rfl; have hcz22_2 : w20.cell? ⟨gb257, 2, none⟩ = some (.string (⟨#[]⟩ : ByteArray)) := (blk_cell BK257.out 2).trans rfl; have hcz22_3 : w20.cell? ⟨gb257, 3, none⟩ = some (.int .u32 0) := (blk_cell BK257.out 3).trans rfl; have hcz22_4 : w20.cell? ⟨gb257, 4, none⟩ = some (.bool false) := (blk_cell BK257.out 4).trans rfl; have hfz22_0 := blk_frozen BK257.out 0; have hfz22_1 := blk_frozen BK257.out 1; have hfz22_2 := blk_frozen BK257.out 2; have hfz22_3 := blk_frozen BK257.out 3; have hfz22_4 := blk_frozen BK257.out 4))
  refine bodyPost_ret (results_cell_row rfl _ _ gb257 27 #[.slice none 0 0, .int .i64 0, .string (⟨#[]⟩ : ByteArray), .int .u32 0, .bool false] (0, 0) _ rfl (by (with_reducible repeat (first | refine blk_drewN ?_ _ | refine blk_drew ?_ | refine blk_alloc ?_ _)); refine blk_put (cs := #[.slice none 0 0, .int .i64 0, .string (⟨#[]⟩ : ByteArray), .int .u32 0, .bool false]) ?_ 4 _ rfl; (with_reducible repeat (first | refine blk_drewN ?_ _ | refine blk_drew ?_ | refine blk_alloc ?_ _)); refine blk_put (cs := #[.slice none 0 0, .int .i64 0, .string (⟨#[]⟩ : ByteArray), .int .u32 0, .bool false]) ?_ 3 _ rfl; (with_reducible repeat (first | refine blk_drewN ?_ _ | refine blk_drew ?_ | refine blk_alloc ?_ _)); refine blk_put (cs := #[.slice none 0 0, .int .i64 0, .string (⟨#[]⟩ : ByteArray), .int .u32 0, .bool false]) ?_ 2 _ rfl; (with_reducible repeat (first | refine blk_drewN ?_ _ | refine blk_drew ?_ | refine blk_alloc ?_ _)); refine blk_put (cs := #[.slice none 0 0, .int .i64 0, .string (⟨#[]⟩ : ByteArray), .int .u32 0, .bool false]) ?_ 1 _ rfl; (with_reducible repeat (first | refine blk_drewN ?_ _ | refine blk_drew ?_ | refine blk_alloc ?_ _)); refine blk_put (cs := #[.slice none 0 0, .int .i64 0, .string (⟨#[]⟩ : ByteArray), .int .u32 0, .bool false]) ?_ 0 _ rfl; (with_reducible repeat (first | refine blk_drewN ?_ _ | refine blk_drew ?_ | refine blk_alloc ?_ _)); exact BK257.out) Tryd.underlying27 rfl (by kernel_rfl)) rfl ?_
  exact ⟨_, by first | rfl | (simp [errW_none, errW_some] <;> rfl) | (simp [*, errW_none, errW_some] <;> rfl) | (simp [bt, *]; done) | (unfold bt; simp [*]; done), by first | exact Kd.R_nil _ _ _ _ _ | exact Kd.N_nil _ _ _ _ _ | exact Kd.V_nil _ _ _ _ _ | exact Kd.Q_nil _ _ _ _ _ | exact Kd.S_nil _ _ _ _ _, by repeat (first | (with_reducible first | exact HB.out | apply below_alloc | apply pw_below_drewN | apply below_drew1 | refine below_set ?_ GE256.out | refine below_set ?_ GE257.out) | exact HB.out)⟩
 subst c4
 have H1 := H
 rw [if_pos rfl] at H1
 clear H
 have H := H1
 clear H1
 replace H := Option.bind_eq_some_iff.mp H
 obtain ⟨t259, A50, H⟩ := H
 try dsimp only at H
 have A5 := Aside0.mk A50
 clear A50
 simp only [Option.some.injEq, Prod.mk.injEq] at H
 obtain ⟨rfl, rfl, rfl, rfl, rfl⟩ := H
 go_enter Tryd.func25, Tryd.ntmps25
 go_wp2_with (first | ((with_reducible refine gate_dst (N := 1) rfl ?_); refine box_event ?hg (N := 1) ?hd (cs := #[.slice A0_0 l0_0.length c0_0, .int .i64 a0_1, .string a0_2, .int .u32 a0_3, .bool true]) (t := 27) ?hr ?_; (case hd => rfl); (case hg => rfl); (case hr => first | (go_simp; done) | (go_simp; rfl)); intro gb256 hg w6 hbox hb; have n0_ := Aside0.mk (below_step (hb_ HB) hb); have n1_ := Aside0.mk (hbox); have n2_ := Aside0.mk ((by rw [hg]; exact (below_size (hb_ HB)) : w.heap.size ≤ gb256)); have n3_ := Aside0.mk ((by rw [hg]; exact (below_size (hb_ HB)) : w.heap.size ≤ gb256)); clear HB; have HB := n0_; have BK256 := n1_; have GW256 := n2_; have GE256 := n3_; clear n0_ n1_ n2_ n3_; clear hb hbox hg) | ((with_reducible refine gate_dst (N := 2) rfl ?_); refine box_event ?hg (N := 2) ?hd (cs := #[.slice none 0 0, .int .i64 0, .string (⟨#[]⟩ : ByteArray), .int .u32 0, .bool false]) (t := 27) ?hr ?_; (case hd => rfl); (case hg => rfl); (case hr => first | (go_simp; done) | (go_simp; rfl)); intro gb257 hg w7 hbox hb; have n0_ := Aside0.mk (blk_below (bk_ BK256) hb); have n1_ := Aside0.mk (below_step (hb_ HB) hb); have n2_ := Aside0.mk (hbox); have n3_ := Aside0.mk ((by rw [hg]; exact (below_size (hb_ HB)) : w.heap.size ≤ gb257)); have n4_ := Aside0.mk ((by rw [hg]; exact (below_size (hb_ HB)) : w.heap.size ≤ gb257)); have n5_ := Aside0.mk ((by rw [hg]; exact Nat.ne_of_lt (blk_lt (g := gb256) (o := .cells #[.slice A0_0 l0_0.length c0_0, .int .i64 a0_1, .string a0_2, .int .u32 a0_3, .bool true] 27 (0, 0)) (bk_ BK256)) : gb256 ≠ gb257)); have n6_ := Aside0.mk ((by rw [hg]; exact Nat.ne_of_gt (blk_lt (g := gb256) (o := .cells #[.slice A0_0 l0_0.length c0_0, .int .i64 a0_1, .string a0_2, .int .u32 a0_3, .bool true] 27 (0, 0)) (bk_ BK256)) : gb257 ≠ gb256)); clear BK256; clear HB; have BK256 := n0_; have HB := n1_; have BK257 := n2_; have GW257 := n3_; have GE257 := n4_; have NB256_257 := n5_; have NB257_256 := n6_; clear n0_ n1_ n2_ n3_ n4_ n5_ n6_; clear hb hbox hg; have hnb8 := NB256_257.out; have hnc8 := NB257_256.out; have hcz9_0 : w7.cell? ⟨gb256, 0, none⟩ = some (.slice A0_0 l0_0.length c0_0) := (blk_cell BK256.out 0).trans rfl; have hcz9_1 : w7.cell? ⟨gb256, 1, none⟩ = some (.int .i64 a0_1) := (blk_cell BK256.out 1).trans rfl; have hcz9_2 : w7.cell? ⟨gb256, 2, none⟩ = some (.string a0_2) := (blk_cell BK256.out 2).trans rfl; have hcz9_3 : w7.cell? ⟨gb256, 3, none⟩ = some (.int .u32 a0_3) := (blk_cell BK256.out 3).trans rfl; have hcz9_4 : w7.cell? ⟨gb256, 4, none⟩ = some (.bool true) := (blk_cell BK256.out 4).trans rfl; have hfz9_0 := blk_frozen BK256.out 0; have hfz9_1 := blk_frozen BK256.out 1; have hfz9_2 := blk_frozen BK256.out 2; have hfz9_3 := blk_frozen BK256.out 3; have hfz9_4 := blk_frozen BK256.out 4) | ((with_reducible refine gate_callee (f := 21) rfl ?_); refine goesL_ (some 4) rfl rfl Tryd.func21 (by kernel_rfl) rfl #[.agg #[.slice A0_0 l0_0.length c0_0, .int .i64 a0_1, .string a0_2, .int .u32 a0_3, .bool true]] rfl (by (try simp only [List.map_toArray, List.map_cons, List.map_nil]); first | done | rfl | (simp only [List.length_drop, List.length_take]; rfl)) ?_; (with_reducible refine (resv_Good.calls _ _ l0_0 a0_1 a0_2 a0_3 true true _ ?side1 ?side2 A2.out).mono ?_); (case side1 => repeat (first | exact (Kd.C_below HR0_0.out HB.out) | (with_reducible refine Kd.C_alloc ?_ _) | (with_reducible refine Kd.C_drewN ?_ _) | (with_reducible refine Kd.C_drew ?_))); (case side2 => exact HC0_0.out); rintro e w10 ⟨rfl, hb⟩; refine ⟨_, rfl, ?_⟩; have n0_ := Aside0.mk (blk_below (bk_ BK256) hb); have n1_ := Aside0.mk (blk_below (bk_ BK257) hb); have n2_ := Aside0.mk (below_step (hb_ HB) hb); clear BK256; clear BK257; clear HB; have BK256 := n0_; have BK257 := n1_; have HB := n2_; clear n0_ n1_ n2_; (try clear hb); (try clear hb2); (try clear hk); (try clear hi); have hcz11_0 : w10.cell? ⟨gb256, 0, none⟩ = some (.slice A0_0 l0_0.length c0_0) := (blk_cell BK256.out 0).trans rfl; have hcz11_1 : w10.cell? ⟨gb256, 1, none⟩ = some (.int .i64 a0_1) := (blk_cell BK256.out 1).trans rfl; have hcz11_2 : w10.cell? ⟨gb256, 2, none⟩ = some (.string a0_2) := (blk_cell BK256.out 2).trans rfl; have hcz11_3 : w10.cell? ⟨gb256, 3, none⟩ = some (.int .u32 a0_3) := (blk_cell BK256.out 3).trans rfl; have hcz11_4 : w10.cell? ⟨gb256, 4, none⟩ = some (.bool true) := (blk_cell BK256.out 4).trans rfl; have hfz11_0 := blk_frozen BK256.out 0; have hfz11_1 := blk_frozen BK256.out 1; have hfz11_2 := blk_frozen BK256.out 2; have hfz11_3 := blk_frozen BK256.out 3; have hfz11_4 := blk_frozen BK256.out 4) | ((with_reducible refine gate_callee (f := 36) rfl ?_); refine goesL_ (some 14) rfl rfl Tryd.func36 (by kernel_rfl) rfl #[.slice A0_0 l0_0.length c0_0] rfl (by (try simp only [List.map_toArray, List.map_cons, List.map_nil]); first | done | rfl | (simp only [List.length_drop, List.length_take]; rfl)) ?_; (with_reducible refine (api_Reg.calls _ _ l0_0 t259 _ ?side1 ?side2 A5.out).mono ?_); (case side1 => repeat (first | exact (Kd.C_below HR0_0.out HB.out) | (with_reducible refine Kd.C_alloc ?_ _) | (with_reducible refine Kd.C_drewN ?_ _) | (with_reducible refine Kd.C_drew ?_))); (case side2 => exact HC0_0.out); rintro e w12 ⟨v260, rfl, ho0, hb⟩; refine ⟨_, rfl, ?_⟩; have n0_ := Aside0.mk (Kd.R_lower ho0 (below_size (hb_ HB))); have n1_ := Aside0.mk (blk_below (bk_ BK256) hb); have n2_ := Aside0.mk (blk_below (bk_ BK257) hb); have n3_ := Aside0.mk (below_step (hb_ HB) hb); clear BK256; clear BK257; clear HB; have HO261 := n0_; have BK256 := n1_; have BK257 := n2_; have HB := n3_; clear n0_ n1_ n2_ n3_; (try clear hb); (try clear hb2); (try clear hk); (try clear hi); (try clear ho0); obtain ⟨Ao13, co13, eo13⟩ := Kd.R_slice HO261.out; subst eo13; have hcz14_0 : w12.cell? ⟨gb256, 0, none⟩ = some (.slice A0_0 l0_0.length c0_0) := (blk_cell BK256.out 0).trans rfl; have hcz14_1 : w12.cell? ⟨gb256, 1, none⟩ = some (.int .i64 a0_1) := (blk_cell BK256.out 1).trans rfl; have hcz14_2 : w12.cell? ⟨gb256, 2, none⟩ = some (.string a0_2) := (blk_cell BK256.out 2).trans rfl; have hcz14_3 : w12.cell? ⟨gb256, 3, none⟩ = some (.int .u32 a0_3) := (blk_cell BK256.out 3).trans rfl; have hcz14_4 : w12.cell? ⟨gb256, 4, none⟩ = some (.bool true) := (blk_cell BK256.out 4).trans rfl; have hfz14_0 := blk_frozen BK256.out 0; have hfz14_1 := blk_frozen BK256.out 1; have hfz14_2 := blk_frozen BK256.out 2; have hfz14_3 := blk_frozen BK256.out 3; have hfz14_4 := blk_frozen BK256.out 4; have hcz15_0 : w12.cell? ⟨gb257, 0, none⟩ = some (.slice none 0 0) := (blk_cell BK257.out 0).trans rfl; have hcz15_1 : w12.cell? ⟨gb257, 1, none⟩ = some (.int .i64 0) := (blk_cell BK257.out 1).trans rfl; have hcz15_2 : w12.cell? ⟨gb257, 2, none⟩ = some (.string (⟨#[]⟩ : ByteArray)) := (blk_cell BK257.out 2).trans rfl; have hcz15_3 : w12.cell? ⟨gb257, 3, none⟩ = some (.int .u32 0) := (blk_cell BK257.out 3).trans rfl; have hcz15_4 : w12.cell? ⟨gb257, 4, none⟩ = some (.bool false) := (blk_cell BK257.out 4).trans rfl; have hfz15_0 := blk_frozen BK257.out 0; have hfz15_1 := blk_frozen BK257.out 1; have hfz15_2 := blk_frozen BK257.out 2; have hfz15_3 := blk_frozen BK257.out 3; have hfz15_4 := blk_frozen BK257.out 4))
 refine bodyPost_ret (results_cell_row rfl _ _ gb257 27 #[.slice Ao13 t259.length co13, .int .i64 a0_1, .string a0_2, .int .u32 a0_3, .bool true] (0, 0) _ rfl (by (with_reducible repeat (first | refine blk_drewN ?_ _ | refine blk_drew ?_ | refine blk_alloc ?_ _)); refine blk_put (cs := #[.slice Ao13 t259.length co13, .int .i64 a0_1, .string a0_2, .int .u32 a0_3, .bool false]) ?_ 4 _ rfl; (with_reducible repeat (first | refine blk_drewN ?_ _ | refine blk_drew ?_ | refine blk_alloc ?_ _)); refine blk_put (cs := #[.slice Ao13 t259.length co13, .int .i64 a0_1, .string a0_2, .int .u32 0, .bool false]) ?_ 3 _ rfl; (with_reducible repeat (first | refine blk_drewN ?_ _ | refine blk_drew ?_ | refine blk_alloc ?_ _)); refine blk_put (cs := #[.slice Ao13 t259.length co13, .int .i64 a0_1, .string (⟨#[]⟩ : ByteArray), .int .u32 0, .bool false]) ?_ 2 _ rfl; (with_reducible repeat (first | refine blk_drewN ?_ _ | refine blk_drew ?_ | refine blk_alloc ?_ _)); refine blk_put (cs := #[.slice Ao13 t259.length co13, .int .i64 0, .string (⟨#[]⟩ : ByteArray), .int .u32 0, .bool false]) ?_ 1 _ rfl; (with_reducible repeat (first | refine blk_drewN ?_ _ | refine blk_drew ?_ | refine blk_alloc ?_ _)); refine blk_put (cs := #[.slice none 0 0, .int .i64 0, .string (⟨#[]⟩ : ByteArray), .int .u32 0, .bool false]) ?_ 0 _ rfl; (with_reducible repeat (first | refine blk_drewN ?_ _ | refine blk_drew ?_ | refine blk_alloc ?_ _ | refine blk_far ?_ NB257_256.out _)); exact BK257.out) Tryd.underlying27 rfl (by kernel_rfl)) rfl ?_
 exact ⟨_, by first | rfl | (simp [errW_none, errW_some] <;> rfl) | (simp [*, errW_none, errW_some] <;> rfl) | (simp [bt, *]; done) | (unfold bt; simp [*]; done), by (with_reducible repeat (first | apply Kd.R_alloc | apply Kd.R_drewN | apply Kd.R_drew)); exact Kd.R_mono (Kd.R_far (p := ⟨gb257, 4, none⟩) (Kd.R_far (p := ⟨gb257, 3, none⟩) (Kd.R_far (p := ⟨gb257, 2, none⟩) (Kd.R_far (p := ⟨gb257, 1, none⟩) (Kd.R_far (p := ⟨gb257, 0, none⟩) (Kd.R_far (p := ⟨gb256, 0, none⟩) (Kd.R_types (Kd.R_types HO261.out BK256.out (by decide)) BK257.out (by decide)) (fun _ hk => hk.1.2) (.slice Ao13 t259.length co13)) (fun _ hk => hk.2) (.slice Ao13 t259.length co13)) (fun _ hk => hk.2) (.int .i64 a0_1)) (fun _ hk => hk.2) (.string a0_2)) (fun _ hk => hk.2) (.int .u32 a0_3)) (fun _ hk => hk.2) (.bool true)) (fun _ hk => trivial), by repeat (first | (with_reducible first | exact HB.out | apply below_alloc | apply pw_below_drewN | apply below_drew1 | refine below_set ?_ GE256.out | refine below_set ?_ GE257.out) | exact HB.out)⟩
def headgateref11_Power.f (k : Nat) (l0_0 : List (S53)) (a0_1 : Int) (a0_2 : ByteArray) (a0_3 : Int) (a0_4 : Bool) : Option ((List (S53)) × Int × ByteArray × Int × Bool) := (headgateref11_Good.f k l0_0 a0_1 a0_2 a0_3 a0_4).bind fun t264 => (if t264 = true then (if a0_4 = true then ((headgatekeep_CopyTable.f l0_0 a0_1 a0_2 a0_3 a0_4).bind fun bt265 => (some (bt265.1, bt265.2.1, bt265.2.2.1, bt265.2.2.2.1, bt265.2.2.2.2))) else (some (([] : List (S53)), 0, (⟨#[]⟩ : ByteArray), 0, false))) else (some (([] : List (S53)), 0, (⟨#[]⟩ : ByteArray), 0, false)))
theorem headgateref11_Power.mono : ∀ a0 a1 a2 a3 a4 k, LeO (headgateref11_Power.f k a0 a1 a2 a3 a4) (headgateref11_Power.f (k + 1) a0 a1 a2 a3 a4) := by
 intro a0 a1 a2 a3 a4 k
 unfold headgateref11_Power.f
 repeat' first
   | (with_reducible exact headgateref11_Good.mono _ _ _ _ _ _)
   | (with_reducible exact LeO.refl _)
   | (with_reducible exact LeO.none _)
   | (with_reducible refine LeO.ite ?_ ?_)
   | (with_reducible refine LeO.bind ?_ (fun _ => ?_))
   | exact headgateref11_Good.mono _ _ _ _ _ _
   | exact LeO.none _
   | refine LeO.ite ?_ ?_
   | refine LeO.bind ?_ (fun _ => ?_)
set_option maxHeartbeats 8000000 in
set_option maxRecDepth 100000 in
theorem headgateref11_Power.calls (k : Nat) (A0_0 : Option Addr) (c0_0 : Nat) (l0_0 : List (S53)) (a0_1 : Int) (a0_2 : ByteArray) (a0_3 : Int) (a0_4 : Bool) (r1 : List (S53)) (r2 : Int) (r3 : ByteArray) (r4 : Int) (r5 : Bool) (w : World) (hr0_0 : Kd.C k53 w A0_0 l0_0.length l0_0) (hc0_0 : l0_0.length ≤ c0_0) (h : headgateref11_Power.f k l0_0 a0_1 a0_2 a0_3 a0_4 = some (r1, r2, r3, r4, r5)) :
  Calls Tryd.prog 26 #[.agg #[.slice A0_0 l0_0.length c0_0, .int .i64 a0_1, .string a0_2, .int .u32 a0_3, .bool a0_4]] w fun e w' => ∃ v0_ : Value, e = .returned (.agg #[v0_, .int .i64 r2, .string r3, .int .u32 r4, .bool r5]) ∧ Kd.R k53 53 w' w.heap.size (fun _ => True) v0_ r1 ∧ Below w.heap.size w w' := by
 have hu27 := Tryd.underlying27
 have HR0_0 := Aside0.mk hr0_0
 have HC0_0 := Aside0.mk hc0_0
 clear hr0_0 hc0_0
 have HB := Aside0.mk (Below.refl w.heap.size w)
 have H : ((headgateref11_Good.f k l0_0 a0_1 a0_2 a0_3 a0_4).bind fun t264 => (if t264 = true then (if a0_4 = true then ((headgatekeep_CopyTable.f l0_0 a0_1 a0_2 a0_3 a0_4).bind fun bt265 => (some (bt265.1, bt265.2.1, bt265.2.2.1, bt265.2.2.2.1, bt265.2.2.2.2))) else (some (([] : List (S53)), 0, (⟨#[]⟩ : ByteArray), 0, false))) else (some (([] : List (S53)), 0, (⟨#[]⟩ : ByteArray), 0, false)))) = some (r1, r2, r3, r4, r5) := h
 clear h
 replace H := Option.bind_eq_some_iff.mp H
 obtain ⟨t264, A20, H⟩ := H
 try dsimp only at H
 have A2 := Aside0.mk A20
 clear A20
 refine neg_first (p := (t264 = true)) (fun c3 => ?_) (fun c3 => ?_)
 ·replace c3 := Bool.eq_false_iff.mpr c3
  subst c3
  have H1 := H
  rw [if_neg (show ¬ (false = true) by decide)] at H1
  clear H
  have H := H1
  clear H1
  simp only [Option.some.injEq, Prod.mk.injEq] at H
  obtain ⟨rfl, rfl, rfl, rfl, rfl⟩ := H
  go_enter Tryd.func26, Tryd.ntmps26
  go_wp2_with (first | ((with_reducible refine gate_dst (N := 1) rfl ?_); refine box_event ?hg (N := 1) ?hd (cs := #[.slice A0_0 l0_0.length c0_0, .int .i64 a0_1, .string a0_2, .int .u32 a0_3, .bool a0_4]) (t := 27) ?hr ?_; (case hd => rfl); (case hg => rfl); (case hr => first | (go_simp; done) | (go_simp; rfl)); intro gb262 hg w22 hbox hb; have n0_ := Aside0.mk (below_step (hb_ HB) hb); have n1_ := Aside0.mk (hbox); have n2_ := Aside0.mk ((by rw [hg]; exact (below_size (hb_ HB)) : w.heap.size ≤ gb262)); have n3_ := Aside0.mk ((by rw [hg]; exact (below_size (hb_ HB)) : w.heap.size ≤ gb262)); clear HB; have HB := n0_; have BK262 := n1_; have GW262 := n2_; have GE262 := n3_; clear n0_ n1_ n2_ n3_; clear hb hbox hg) | ((with_reducible refine gate_dst (N := 2) rfl ?_); refine box_event ?hg (N := 2) ?hd (cs := #[.slice none 0 0, .int .i64 0, .string (⟨#[]⟩ : ByteArray), .int .u32 0, .bool false]) (t := 27) ?hr ?_; (case hd => rfl); (case hg => rfl); (case hr => first | (go_simp; done) | (go_simp; rfl)); intro gb263 hg w23 hbox hb; have n0_ := Aside0.mk (blk_below (bk_ BK262) hb); have n1_ := Aside0.mk (below_step (hb_ HB) hb); have n2_ := Aside0.mk (hbox); have n3_ := Aside0.mk ((by rw [hg]; exact (below_size (hb_ HB)) : w.heap.size ≤ gb263)); have n4_ := Aside0.mk ((by rw [hg]; exact (below_size (hb_ HB)) : w.heap.size ≤ gb263)); have n5_ := Aside0.mk ((by rw [hg]; exact Nat.ne_of_lt (blk_lt (g := gb262) (o := .cells #[.slice A0_0 l0_0.length c0_0, .int .i64 a0_1, .string a0_2, .int .u32 a0_3, .bool a0_4] 27 (0, 0)) (bk_ BK262)) : gb262 ≠ gb263)); have n6_ := Aside0.mk ((by rw [hg]; exact Nat.ne_of_gt (blk_lt (g := gb262) (o := .cells #[.slice A0_0 l0_0.length c0_0, .int .i64 a0_1, .string a0_2, .int .u32 a0_3, .bool a0_4] 27 (0, 0)) (bk_ BK262)) : gb263 ≠ gb262)); clear BK262; clear HB; have BK262 := n0_; have HB := n1_; have BK263 := n2_; have GW263 := n3_; have GE263 := n4_; have NB262_263 := n5_; have NB263_262 := n6_; clear n0_ n1_ n2_ n3_ n4_ n5_ n6_; clear hb hbox hg; have hnb24 := NB262_263.out; have hnc24 := NB263_262.out; have hcz25_0 : w23.cell? ⟨gb262, 0, none⟩ = some (.slice A0_0 l0_0.length c0_0) := (blk_cell BK262.out 0).trans rfl; have hcz25_1 : w23.cell? ⟨gb262, 1, none⟩ = some (.int .i64 a0_1) := (blk_cell BK262.out 1).trans rfl; have hcz25_2 : w23.cell? ⟨gb262, 2, none⟩ = some (.string a0_2) := (blk_cell BK262.out 2).trans rfl; have hcz25_3 : w23.cell? ⟨gb262, 3, none⟩ = some (.int .u32 a0_3) := (blk_cell BK262.out 3).trans rfl; have hcz25_4 : w23.cell? ⟨gb262, 4, none⟩ = some (.bool a0_4) := (blk_cell BK262.out 4).trans rfl; have hfz25_0 := blk_frozen BK262.out 0; have hfz25_1 := blk_frozen BK262.out 1; have hfz25_2 := blk_frozen BK262.out 2; have hfz25_3 := blk_frozen BK262.out 3; have hfz25_4 := blk_frozen BK262.out 4) | ((with_reducible refine gate_callee (f := 20) rfl ?_); refine goesL_ (some 4) rfl rfl Tryd.func20 (by kernel_rfl) rfl #[.agg #[.slice A0_0 l0_0.length c0_0, .int .i64 a0_1, .string a0_2, .int .u32 a0_3, .bool a0_4]] rfl (by (try simp only [List.map_toArray, List.map_cons, List.map_nil]); first | done | rfl | (simp only [List.length_drop, List.length_take]; rfl)) ?_; (with_reducible refine (headgateref11_Good.calls k _ _ l0_0 a0_1 a0_2 a0_3 a0_4 false _ ?side1 ?side2 A2.out).mono ?_); (case side1 => repeat (first | exact (Kd.C_below HR0_0.out HB.out) | (with_reducible refine Kd.C_alloc ?_ _) | (with_reducible refine Kd.C_drewN ?_ _) | (with_reducible refine Kd.C_drew ?_))); (case side2 => exact HC0_0.out); rintro e w26 ⟨rfl, hb⟩; refine ⟨_, rfl, ?_⟩; have n0_ := Aside0.mk (blk_below (bk_ BK262) hb); have n1_ := Aside0.mk (blk_below (bk_ BK263) hb); have n2_ := Aside0.mk (below_step (hb_ HB) hb); clear BK262; clear BK263; clear HB; have BK262 := n0_; have BK263 := n1_; have HB := n2_; clear n0_ n1_ n2_; (try clear hb); (try clear hb2); (try clear hk); (try clear hi); have hcz27_0 : w26.cell? ⟨gb263, 0, none⟩ = some (.slice none 0 0) := (blk_cell BK263.out 0).trans rfl; have hcz27_1 : w26.cell? ⟨gb263, 1, none⟩ = some (.int .i64 0) := (blk_cell BK263.out 1).trans rfl; have hcz27_2 : w26.cell? ⟨gb263, 2, none⟩ = some (.string (⟨#[]⟩ : ByteArray)) := (blk_cell BK263.out 2).trans rfl; have hcz27_3 : w26.cell? ⟨gb263, 3, none⟩ = some (.int .u32 0) := (blk_cell BK263.out 3).trans rfl; have hcz27_4 : w26.cell? ⟨gb263, 4, none⟩ = some (.bool false) := (blk_cell BK263.out 4).trans rfl; have hfz27_0 := blk_frozen BK263.out 0; have hfz27_1 := blk_frozen BK263.out 1; have hfz27_2 := blk_frozen BK263.out 2; have hfz27_3 := blk_frozen BK263.out 3; have hfz27_4 := blk_frozen BK263.out 4))
  refine bodyPost_ret (results_cell_row rfl _ _ gb263 27 #[.slice none 0 0, .int .i64 0, .string (⟨#[]⟩ : ByteArray), .int .u32 0, .bool false] (0, 0) _ rfl (by (with_reducible repeat (first | refine blk_drewN ?_ _ | refine blk_drew ?_ | refine blk_alloc ?_ _)); refine blk_put (cs := #[.slice none 0 0, .int .i64 0, .string (⟨#[]⟩ : ByteArray), .int .u32 0, .bool false]) ?_ 4 _ rfl; (with_reducible repeat (first | refine blk_drewN ?_ _ | refine blk_drew ?_ | refine blk_alloc ?_ _)); refine blk_put (cs := #[.slice none 0 0, .int .i64 0, .string (⟨#[]⟩ : ByteArray), .int .u32 0, .bool false]) ?_ 3 _ rfl; (with_reducible repeat (first | refine blk_drewN ?_ _ | refine blk_drew ?_ | refine blk_alloc ?_ _)); refine blk_put (cs := #[.slice none 0 0, .int .i64 0, .string (⟨#[]⟩ : ByteArray), .int .u32 0, .bool false]) ?_ 2 _ rfl; (with_reducible repeat (first | refine blk_drewN ?_ _ | refine blk_drew ?_ | refine blk_alloc ?_ _)); refine blk_put (cs := #[.slice none 0 0, .int .i64 0, .string (⟨#[]⟩ : ByteArray), .int .u32 0, .bool false]) ?_ 1 _ rfl; (with_reducible repeat (first | refine blk_drewN ?_ _ | refine blk_drew ?_ | refine blk_alloc ?_ _)); refine blk_put (cs := #[.slice none 0 0, .int .i64 0, .string (⟨#[]⟩ : ByteArray), .int .u32 0, .bool false]) ?_ 0 _ rfl; (with_reducible repeat (first | refine blk_drewN ?_ _ | refine blk_drew ?_ | refine blk_alloc ?_ _)); exact BK263.out) Tryd.underlying27 rfl (by kernel_rfl)) rfl ?_
  exact ⟨_, by first | rfl | (simp [errW_none, errW_some] <;> rfl) | (simp [*, errW_none, errW_some] <;> rfl) | (simp [bt, *]; done) | (unfold bt; simp [*]; done), by first | exact Kd.R_nil _ _ _ _ _ | exact Kd.N_nil _ _ _ _ _ | exact Kd.V_nil _ _ _ _ _ | exact Kd.Q_nil _ _ _ _ _ | exact Kd.S_nil _ _ _ _ _, by repeat (first | (with_reducible first | exact HB.out | apply below_alloc | apply pw_below_drewN | apply below_drew1 | refine below_set ?_ GE262.out | refine below_set ?_ GE263.out) | exact HB.out)⟩
 subst c3
 have H1 := H
 rw [if_pos rfl] at H1
 clear H
 have H := H1
 clear H1
 refine neg_first (p := (a0_4 = true)) (fun c4 => ?_) (fun c4 => ?_)
 ·replace c4 := Bool.eq_false_iff.mpr c4
  subst c4
  have H1 := H
  rw [if_neg (show ¬ (false = true) by decide)] at H1
  clear H
  have H := H1
  clear H1
  simp only [Option.some.injEq, Prod.mk.injEq] at H
  obtain ⟨rfl, rfl, rfl, rfl, rfl⟩ := H
  go_enter Tryd.func26, Tryd.ntmps26
  go_wp2_with (first | ((with_reducible refine gate_dst (N := 1) rfl ?_); refine box_event ?hg (N := 1) ?hd (cs := #[.slice A0_0 l0_0.length c0_0, .int .i64 a0_1, .string a0_2, .int .u32 a0_3, .bool false]) (t := 27) ?hr ?_; (case hd => rfl); (case hg => rfl); (case hr => first | (go_simp; done) | (go_simp; rfl)); intro gb262 hg w15 hbox hb; have n0_ := Aside0.mk (below_step (hb_ HB) hb); have n1_ := Aside0.mk (hbox); have n2_ := Aside0.mk ((by rw [hg]; exact (below_size (hb_ HB)) : w.heap.size ≤ gb262)); have n3_ := Aside0.mk ((by rw [hg]; exact (below_size (hb_ HB)) : w.heap.size ≤ gb262)); clear HB; have HB := n0_; have BK262 := n1_; have GW262 := n2_; have GE262 := n3_; clear n0_ n1_ n2_ n3_; clear hb hbox hg) | ((with_reducible refine gate_dst (N := 2) rfl ?_); refine box_event ?hg (N := 2) ?hd (cs := #[.slice none 0 0, .int .i64 0, .string (⟨#[]⟩ : ByteArray), .int .u32 0, .bool false]) (t := 27) ?hr ?_; (case hd => rfl); (case hg => rfl); (case hr => first | (go_simp; done) | (go_simp; rfl)); intro gb263 hg w16 hbox hb; have n0_ := Aside0.mk (blk_below (bk_ BK262) hb); have n1_ := Aside0.mk (below_step (hb_ HB) hb); have n2_ := Aside0.mk (hbox); have n3_ := Aside0.mk ((by rw [hg]; exact (below_size (hb_ HB)) : w.heap.size ≤ gb263)); have n4_ := Aside0.mk ((by rw [hg]; exact (below_size (hb_ HB)) : w.heap.size ≤ gb263)); have n5_ := Aside0.mk ((by rw [hg]; exact Nat.ne_of_lt (blk_lt (g := gb262) (o := .cells #[.slice A0_0 l0_0.length c0_0, .int .i64 a0_1, .string a0_2, .int .u32 a0_3, .bool false] 27 (0, 0)) (bk_ BK262)) : gb262 ≠ gb263)); have n6_ := Aside0.mk ((by rw [hg]; exact Nat.ne_of_gt (blk_lt (g := gb262) (o := .cells #[.slice A0_0 l0_0.length c0_0, .int .i64 a0_1, .string a0_2, .int .u32 a0_3, .bool false] 27 (0, 0)) (bk_ BK262)) : gb263 ≠ gb262)); clear BK262; clear HB; have BK262 := n0_; have HB := n1_; have BK263 := n2_; have GW263 := n3_; have GE263 := n4_; have NB262_263 := n5_; have NB263_262 := n6_; clear n0_ n1_ n2_ n3_ n4_ n5_ n6_; clear hb hbox hg; have hnb17 := NB262_263.out; have hnc17 := NB263_262.out; have hcz18_0 : w16.cell? ⟨gb262, 0, none⟩ = some (.slice A0_0 l0_0.length c0_0) := (blk_cell BK262.out 0).trans rfl; have hcz18_1 : w16.cell? ⟨gb262, 1, none⟩ = some (.int .i64 a0_1) := (blk_cell BK262.out 1).trans rfl; have hcz18_2 : w16.cell? ⟨gb262, 2, none⟩ = some (.string a0_2) := (blk_cell BK262.out 2).trans rfl; have hcz18_3 : w16.cell? ⟨gb262, 3, none⟩ = some (.int .u32 a0_3) := (blk_cell BK262.out 3).trans rfl; have hcz18_4 : w16.cell? ⟨gb262, 4, none⟩ = some (.bool false) := (blk_cell BK262.out 4).trans rfl; have hfz18_0 := blk_frozen BK262.out 0; have hfz18_1 := blk_frozen BK262.out 1; have hfz18_2 := blk_frozen BK262.out 2; have hfz18_3 := blk_frozen BK262.out 3; have hfz18_4 := blk_frozen BK262.out 4) | ((with_reducible refine gate_callee (f := 20) rfl ?_); refine goesL_ (some 4) rfl rfl Tryd.func20 (by kernel_rfl) rfl #[.agg #[.slice A0_0 l0_0.length c0_0, .int .i64 a0_1, .string a0_2, .int .u32 a0_3, .bool false]] rfl (by (try simp only [List.map_toArray, List.map_cons, List.map_nil]); first | done | rfl | (simp only [List.length_drop, List.length_take]; rfl)) ?_; (with_reducible refine (headgateref11_Good.calls k _ _ l0_0 a0_1 a0_2 a0_3 false true _ ?side1 ?side2 A2.out).mono ?_); (case side1 => repeat (first | exact (Kd.C_below HR0_0.out HB.out) | (with_reducible refine Kd.C_alloc ?_ _) | (with_reducible refine Kd.C_drewN ?_ _) | (with_reducible refine Kd.C_drew ?_))); (case side2 => exact HC0_0.out); rintro e w19 ⟨rfl, hb⟩; refine ⟨_, rfl, ?_⟩; have n0_ := Aside0.mk (blk_below (bk_ BK262) hb); have n1_ := Aside0.mk (blk_below (bk_ BK263) hb); have n2_ := Aside0.mk (below_step (hb_ HB) hb); clear BK262; clear BK263; clear HB; have BK262 := n0_; have BK263 := n1_; have HB := n2_; clear n0_ n1_ n2_; (try clear hb); (try clear hb2); (try clear hk); (try clear hi); have hcz20_0 : w19.cell? ⟨gb262, 0, none⟩ = some (.slice A0_0 l0_0.length c0_0) := (blk_cell BK262.out 0).trans rfl; have hcz20_1 : w19.cell? ⟨gb262, 1, none⟩ = some (.int .i64 a0_1) := (blk_cell BK262.out 1).trans rfl; have hcz20_2 : w19.cell? ⟨gb262, 2, none⟩ = some (.string a0_2) := (blk_cell BK262.out 2).trans rfl; have hcz20_3 : w19.cell? ⟨gb262, 3, none⟩ = some (.int .u32 a0_3) := (blk_cell BK262.out 3).trans rfl; have hcz20_4 : w19.cell? ⟨gb262, 4, none⟩ = some (.bool false) := (blk_cell BK262.out 4).trans rfl; have hfz20_0 := blk_frozen BK262.out 0; have hfz20_1 := blk_frozen BK262.out 1; have hfz20_2 := blk_frozen BK262.out 2; have hfz20_3 := blk_frozen BK262.out 3; have hfz20_4 := blk_frozen BK262.out 4; have hcz21_0 : w19.cell? ⟨gb263, 0, none⟩ = some (.slice none 0 0) := (blk_cell BK263.out 0).trans rfl; have hcz21_1 : w19.cell? ⟨gb263, 1, none⟩ = some (.int .i64 0) := (blk_cell BK263.out 1).trans rfl; have hcz21_2 : w19.cell? ⟨gb263, 2, none⟩ = some (.string (⟨#[]⟩ : ByteArray)) := (blk_cell BK263.out 2).trans rfl; have hcz21_3 : w19.cell? ⟨gb263, 3, none⟩ = some (.int .u32 0) := (blk_cell BK263.out 3).trans rfl; have hcz21_4 : w19.cell? ⟨gb263, 4, none⟩ = some (.bool false) := (blk_cell BK263.out 4).trans rfl; have hfz21_0 := blk_frozen BK263.out 0; have hfz21_1 := blk_frozen BK263.out 1; have hfz21_2 := blk_frozen BK263.out 2; have hfz21_3 := blk_frozen BK263.out 3; have hfz21_4 := blk_frozen BK263.out 4))
  refine bodyPost_ret (results_cell_row rfl _ _ gb263 27 #[.slice none 0 0, .int .i64 0, .string (⟨#[]⟩ : ByteArray), .int .u32 0, .bool false] (0, 0) _ rfl (by (with_reducible repeat (first | refine blk_drewN ?_ _ | refine blk_drew ?_ | refine blk_alloc ?_ _)); refine blk_put (cs := #[.slice none 0 0, .int .i64 0, .string (⟨#[]⟩ : ByteArray), .int .u32 0, .bool false]) ?_ 4 _ rfl; (with_reducible repeat (first | refine blk_drewN ?_ _ | refine blk_drew ?_ | refine blk_alloc ?_ _)); refine blk_put (cs := #[.slice none 0 0, .int .i64 0, .string (⟨#[]⟩ : ByteArray), .int .u32 0, .bool false]) ?_ 3 _ rfl; (with_reducible repeat (first | refine blk_drewN ?_ _ | refine blk_drew ?_ | refine blk_alloc ?_ _)); refine blk_put (cs := #[.slice none 0 0, .int .i64 0, .string (⟨#[]⟩ : ByteArray), .int .u32 0, .bool false]) ?_ 2 _ rfl; (with_reducible repeat (first | refine blk_drewN ?_ _ | refine blk_drew ?_ | refine blk_alloc ?_ _)); refine blk_put (cs := #[.slice none 0 0, .int .i64 0, .string (⟨#[]⟩ : ByteArray), .int .u32 0, .bool false]) ?_ 1 _ rfl; (with_reducible repeat (first | refine blk_drewN ?_ _ | refine blk_drew ?_ | refine blk_alloc ?_ _)); refine blk_put (cs := #[.slice none 0 0, .int .i64 0, .string (⟨#[]⟩ : ByteArray), .int .u32 0, .bool false]) ?_ 0 _ rfl; (with_reducible repeat (first | refine blk_drewN ?_ _ | refine blk_drew ?_ | refine blk_alloc ?_ _)); exact BK263.out) Tryd.underlying27 rfl (by kernel_rfl)) rfl ?_
  exact ⟨_, by first | rfl | (simp [errW_none, errW_some] <;> rfl) | (simp [*, errW_none, errW_some] <;> rfl) | (simp [bt, *]; done) | (unfold bt; simp [*]; done), by first | exact Kd.R_nil _ _ _ _ _ | exact Kd.N_nil _ _ _ _ _ | exact Kd.V_nil _ _ _ _ _ | exact Kd.Q_nil _ _ _ _ _ | exact Kd.S_nil _ _ _ _ _, by repeat (first | (with_reducible first | exact HB.out | apply below_alloc | apply pw_below_drewN | apply below_drew1 | refine below_set ?_ GE262.out | refine below_set ?_ GE263.out) | exact HB.out)⟩
 subst c4
 have H1 := H
 rw [if_pos rfl] at H1
 clear H
 have H := H1
 clear H1
 replace H := Option.bind_eq_some_iff.mp H
 obtain ⟨⟨t265, t268, t269, t270, t271⟩, A50, H⟩ := H
 try dsimp only at H
 have A5 := Aside0.mk A50
 clear A50
 simp only [Option.some.injEq, Prod.mk.injEq] at H
 obtain ⟨rfl, rfl, rfl, rfl, rfl⟩ := H
 go_enter Tryd.func26, Tryd.ntmps26
 go_wp2_with (first | ((with_reducible refine gate_dst (N := 1) rfl ?_); refine box_event ?hg (N := 1) ?hd (cs := #[.slice A0_0 l0_0.length c0_0, .int .i64 a0_1, .string a0_2, .int .u32 a0_3, .bool true]) (t := 27) ?hr ?_; (case hd => rfl); (case hg => rfl); (case hr => first | (go_simp; done) | (go_simp; rfl)); intro gb262 hg w6 hbox hb; have n0_ := Aside0.mk (below_step (hb_ HB) hb); have n1_ := Aside0.mk (hbox); have n2_ := Aside0.mk ((by rw [hg]; exact (below_size (hb_ HB)) : w.heap.size ≤ gb262)); have n3_ := Aside0.mk ((by rw [hg]; exact (below_size (hb_ HB)) : w.heap.size ≤ gb262)); clear HB; have HB := n0_; have BK262 := n1_; have GW262 := n2_; have GE262 := n3_; clear n0_ n1_ n2_ n3_; clear hb hbox hg) | ((with_reducible refine gate_dst (N := 2) rfl ?_); refine box_event ?hg (N := 2) ?hd (cs := #[.slice none 0 0, .int .i64 0, .string (⟨#[]⟩ : ByteArray), .int .u32 0, .bool false]) (t := 27) ?hr ?_; (case hd => rfl); (case hg => rfl); (case hr => first | (go_simp; done) | (go_simp; rfl)); intro gb263 hg w7 hbox hb; have n0_ := Aside0.mk (blk_below (bk_ BK262) hb); have n1_ := Aside0.mk (below_step (hb_ HB) hb); have n2_ := Aside0.mk (hbox); have n3_ := Aside0.mk ((by rw [hg]; exact (below_size (hb_ HB)) : w.heap.size ≤ gb263)); have n4_ := Aside0.mk ((by rw [hg]; exact (below_size (hb_ HB)) : w.heap.size ≤ gb263)); have n5_ := Aside0.mk ((by rw [hg]; exact Nat.ne_of_lt (blk_lt (g := gb262) (o := .cells #[.slice A0_0 l0_0.length c0_0, .int .i64 a0_1, .string a0_2, .int .u32 a0_3, .bool true] 27 (0, 0)) (bk_ BK262)) : gb262 ≠ gb263)); have n6_ := Aside0.mk ((by rw [hg]; exact Nat.ne_of_gt (blk_lt (g := gb262) (o := .cells #[.slice A0_0 l0_0.length c0_0, .int .i64 a0_1, .string a0_2, .int .u32 a0_3, .bool true] 27 (0, 0)) (bk_ BK262)) : gb263 ≠ gb262)); clear BK262; clear HB; have BK262 := n0_; have HB := n1_; have BK263 := n2_; have GW263 := n3_; have GE263 := n4_; have NB262_263 := n5_; have NB263_262 := n6_; clear n0_ n1_ n2_ n3_ n4_ n5_ n6_; clear hb hbox hg; have hnb8 := NB262_263.out; have hnc8 := NB263_262.out; have hcz9_0 : w7.cell? ⟨gb262, 0, none⟩ = some (.slice A0_0 l0_0.length c0_0) := (blk_cell BK262.out 0).trans rfl; have hcz9_1 : w7.cell? ⟨gb262, 1, none⟩ = some (.int .i64 a0_1) := (blk_cell BK262.out 1).trans rfl; have hcz9_2 : w7.cell? ⟨gb262, 2, none⟩ = some (.string a0_2) := (blk_cell BK262.out 2).trans rfl; have hcz9_3 : w7.cell? ⟨gb262, 3, none⟩ = some (.int .u32 a0_3) := (blk_cell BK262.out 3).trans rfl; have hcz9_4 : w7.cell? ⟨gb262, 4, none⟩ = some (.bool true) := (blk_cell BK262.out 4).trans rfl; have hfz9_0 := blk_frozen BK262.out 0; have hfz9_1 := blk_frozen BK262.out 1; have hfz9_2 := blk_frozen BK262.out 2; have hfz9_3 := blk_frozen BK262.out 3; have hfz9_4 := blk_frozen BK262.out 4) | ((with_reducible refine gate_callee (f := 20) rfl ?_); refine goesL_ (some 4) rfl rfl Tryd.func20 (by kernel_rfl) rfl #[.agg #[.slice A0_0 l0_0.length c0_0, .int .i64 a0_1, .string a0_2, .int .u32 a0_3, .bool true]] rfl (by (try simp only [List.map_toArray, List.map_cons, List.map_nil]); first | done | rfl | (simp only [List.length_drop, List.length_take]; rfl)) ?_; (with_reducible refine (headgateref11_Good.calls k _ _ l0_0 a0_1 a0_2 a0_3 true true _ ?side1 ?side2 A2.out).mono ?_); (case side1 => repeat (first | exact (Kd.C_below HR0_0.out HB.out) | (with_reducible refine Kd.C_alloc ?_ _) | (with_reducible refine Kd.C_drewN ?_ _) | (with_reducible refine Kd.C_drew ?_))); (case side2 => exact HC0_0.out); rintro e w10 ⟨rfl, hb⟩; refine ⟨_, rfl, ?_⟩; have n0_ := Aside0.mk (blk_below (bk_ BK262) hb); have n1_ := Aside0.mk (blk_below (bk_ BK263) hb); have n2_ := Aside0.mk (below_step (hb_ HB) hb); clear BK262; clear BK263; clear HB; have BK262 := n0_; have BK263 := n1_; have HB := n2_; clear n0_ n1_ n2_; (try clear hb); (try clear hb2); (try clear hk); (try clear hi); have hcz11_0 : w10.cell? ⟨gb262, 0, none⟩ = some (.slice A0_0 l0_0.length c0_0) := (blk_cell BK262.out 0).trans rfl; have hcz11_1 : w10.cell? ⟨gb262, 1, none⟩ = some (.int .i64 a0_1) := (blk_cell BK262.out 1).trans rfl; have hcz11_2 : w10.cell? ⟨gb262, 2, none⟩ = some (.string a0_2) := (blk_cell BK262.out 2).trans rfl; have hcz11_3 : w10.cell? ⟨gb262, 3, none⟩ = some (.int .u32 a0_3) := (blk_cell BK262.out 3).trans rfl; have hcz11_4 : w10.cell? ⟨gb262, 4, none⟩ = some (.bool true) := (blk_cell BK262.out 4).trans rfl; have hfz11_0 := blk_frozen BK262.out 0; have hfz11_1 := blk_frozen BK262.out 1; have hfz11_2 := blk_frozen BK262.out 2; have hfz11_3 := blk_frozen BK262.out 3; have hfz11_4 := blk_frozen BK262.out 4) | ((with_reducible refine gate_callee (f := 14) rfl ?_); refine goesL_ (some 10) rfl rfl Tryd.func14 (by kernel_rfl) rfl #[.agg #[.slice A0_0 l0_0.length c0_0, .int .i64 a0_1, .string a0_2, .int .u32 a0_3, .bool true]] rfl (by (try simp only [List.map_toArray, List.map_cons, List.map_nil]); first | done | rfl | (simp only [List.length_drop, List.length_take]; rfl)) ?_; (with_reducible refine (headgatekeep_CopyTable.calls _ _ l0_0 a0_1 a0_2 a0_3 true t265 t268 t269 t270 t271 _ ?side1 ?side2 A5.out).mono ?_); (case side1 => repeat (first | exact (Kd.C_below HR0_0.out HB.out) | (with_reducible refine Kd.C_alloc ?_ _) | (with_reducible refine Kd.C_drewN ?_ _) | (with_reducible refine Kd.C_drew ?_))); (case side2 => exact HC0_0.out); rintro e w12 ⟨v266, rfl, ho0, hb⟩; refine ⟨_, rfl, ?_⟩; have n0_ := Aside0.mk (Kd.R_lower ho0 (below_size (hb_ HB))); have n1_ := Aside0.mk (blk_below (bk_ BK262) hb); have n2_ := Aside0.mk (blk_below (bk_ BK263) hb); have n3_ := Aside0.mk (below_step (hb_ HB) hb); clear BK262; clear BK263; clear HB; have HO267 := n0_; have BK262 := n1_; have BK263 := n2_; have HB := n3_; clear n0_ n1_ n2_ n3_; (try clear hb); (try clear hb2); (try clear hk); (try clear hi); (try clear ho0); obtain ⟨Ao13, co13, eo13⟩ := Kd.R_slice HO267.out; subst eo13; have hcz14_0 : w12.cell? ⟨gb263, 0, none⟩ = some (.slice none 0 0) := (blk_cell BK263.out 0).trans rfl; have hcz14_1 : w12.cell? ⟨gb263, 1, none⟩ = some (.int .i64 0) := (blk_cell BK263.out 1).trans rfl; have hcz14_2 : w12.cell? ⟨gb263, 2, none⟩ = some (.string (⟨#[]⟩ : ByteArray)) := (blk_cell BK263.out 2).trans rfl; have hcz14_3 : w12.cell? ⟨gb263, 3, none⟩ = some (.int .u32 0) := (blk_cell BK263.out 3).trans rfl; have hcz14_4 : w12.cell? ⟨gb263, 4, none⟩ = some (.bool false) := (blk_cell BK263.out 4).trans rfl; have hfz14_0 := blk_frozen BK263.out 0; have hfz14_1 := blk_frozen BK263.out 1; have hfz14_2 := blk_frozen BK263.out 2; have hfz14_3 := blk_frozen BK263.out 3; have hfz14_4 := blk_frozen BK263.out 4))
 refine bodyPost_ret (results_cell_row rfl _ _ gb263 27 #[.slice Ao13 t265.length co13, .int .i64 t268, .string t269, .int .u32 t270, .bool t271] (0, 0) _ rfl (by (with_reducible repeat (first | refine blk_drewN ?_ _ | refine blk_drew ?_ | refine blk_alloc ?_ _)); refine blk_put (cs := #[.slice Ao13 t265.length co13, .int .i64 t268, .string t269, .int .u32 t270, .bool false]) ?_ 4 _ rfl; (with_reducible repeat (first | refine blk_drewN ?_ _ | refine blk_drew ?_ | refine blk_alloc ?_ _)); refine blk_put (cs := #[.slice Ao13 t265.length co13, .int .i64 t268, .string t269, .int .u32 0, .bool false]) ?_ 3 _ rfl; (with_reducible repeat (first | refine blk_drewN ?_ _ | refine blk_drew ?_ | refine blk_alloc ?_ _)); refine blk_put (cs := #[.slice Ao13 t265.length co13, .int .i64 t268, .string (⟨#[]⟩ : ByteArray), .int .u32 0, .bool false]) ?_ 2 _ rfl; (with_reducible repeat (first | refine blk_drewN ?_ _ | refine blk_drew ?_ | refine blk_alloc ?_ _)); refine blk_put (cs := #[.slice Ao13 t265.length co13, .int .i64 0, .string (⟨#[]⟩ : ByteArray), .int .u32 0, .bool false]) ?_ 1 _ rfl; (with_reducible repeat (first | refine blk_drewN ?_ _ | refine blk_drew ?_ | refine blk_alloc ?_ _)); refine blk_put (cs := #[.slice none 0 0, .int .i64 0, .string (⟨#[]⟩ : ByteArray), .int .u32 0, .bool false]) ?_ 0 _ rfl; (with_reducible repeat (first | refine blk_drewN ?_ _ | refine blk_drew ?_ | refine blk_alloc ?_ _)); exact BK263.out) Tryd.underlying27 rfl (by kernel_rfl)) rfl ?_
 exact ⟨_, by first | rfl | (simp [errW_none, errW_some] <;> rfl) | (simp [*, errW_none, errW_some] <;> rfl) | (simp [bt, *]; done) | (unfold bt; simp [*]; done), by (with_reducible repeat (first | apply Kd.R_alloc | apply Kd.R_drewN | apply Kd.R_drew)); exact Kd.R_mono (Kd.R_far (p := ⟨gb263, 4, none⟩) (Kd.R_far (p := ⟨gb263, 3, none⟩) (Kd.R_far (p := ⟨gb263, 2, none⟩) (Kd.R_far (p := ⟨gb263, 1, none⟩) (Kd.R_far (p := ⟨gb263, 0, none⟩) (Kd.R_types HO267.out BK263.out (by decide)) (fun _ hk => hk.2) (.slice Ao13 t265.length co13)) (fun _ hk => hk.2) (.int .i64 t268)) (fun _ hk => hk.2) (.string t269)) (fun _ hk => hk.2) (.int .u32 t270)) (fun _ hk => hk.2) (.bool t271)) (fun _ hk => trivial), by repeat (first | (with_reducible first | exact HB.out | apply below_alloc | apply pw_below_drewN | apply below_drew1 | refine below_set ?_ GE262.out | refine below_set ?_ GE263.out) | exact HB.out)⟩
end Go.Proofs.YtjogkfcjlljjcaaDoor.P
