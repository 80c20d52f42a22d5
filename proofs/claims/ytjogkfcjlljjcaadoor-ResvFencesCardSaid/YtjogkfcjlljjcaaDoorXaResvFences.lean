-- joined by this session's wip/tools/pack.py: words of the kit's print, cut to what the claim names; functions printed by a patched copy of the printer; walks and lemmas of this session; Lean checks it
import Derived.Test.YtjogkfcjlljjcaaDoorBa7
import Derived.Test.YtjogkfcjlljjcaaDoorProg
import Derived.WalkKit
import Derived.Below
import Derived.Deep.Draws
import Derived.Deep.AppendLies
import Derived.Maps.AppendAt
import Derived.OwnWalk
import Derived.Laws.BytesArg
import Derived.Laws.MakeOwn
import Derived.Laws.OwnMore
import Derived.Deep.OwnRows
import Derived.Tactics
import Derived.Lib.ConvBytes
import Derived.Laws.Slices
import Derived.KernelRfl
import Derived.RowKit3
import Derived.Deep.LoopGhost
import Derived.Deep.QuietTactic
import Derived.BigQuiet
import Derived.WideLaws
import Derived.Deep.DeepCutAuto
import Derived.Deep.CutBlock
import Derived.Deep.RegionHeld3
import Derived.Laws.Rows
import Derived.Lib.AppendStr
import Derived.ArgAppend
import Derived.Laws.IdiomCopy
import Derived.OrdersHeld
import Derived.Laws.BitsLemmas
import Derived.RowKit
import Derived.Maps.Own
import Derived.Maps.OwnOps
import Derived.Maps.Views
import Derived.Carry
import Derived.Lib.SliceRun
namespace Go.Proofs.YtjogkfcjlljjcaaDoorW.PrintLast
open Go.Proofs.YtjogkfcjlljjcaaDoorW.PrintWords (Aside0)
section
variable {P : Program} {ops : Array Oper} {Q : Exit → Act → World → Prop} {md : Region.Mode} {S : World → Prop} {ds : List Nat} {T : Bool × List (List Nat × List Nat)} {B : List Nat}
theorem pon_ (i : Nat) (N : Option Tmp) {oi : Oper} {v : Value} {fuel : Nat} {l : Array Bool} {a : Act} {w : World} (l' : Array Bool) (hT : rtab md ops = T) {a' : Act} (h : wpAnyLast P md ops Q S ds fuel l' a' w)
    (hi : ops[i]? = some oi := by rfl) (hN : oi.dst = N := by rfl) (hc : anyT T l.toList l'.toList i = true := by kernel_rfl) (hQ : ∀ c a w, Q (.panic c) (a.put oi.dst v) w → Q (.panic c) a w := by exact (fun _ _ _ h => h))
    (hw : Region.wanted oi (yielded ops a.tmps) = true := by rfl) (hy : ∀ w', (execOp a.eval oi).run P w' = .ok (.value v) w' := by intro w'; go_simp; with_reducible rfl)
    (ha : a.put N v = a' := by simp only [Act.put, la_, lb_, lc_, i64_w, i32_w]; rfl) : wpAnyLast P md ops Q S ds (fuel + 1) l a w :=
  pure_ (i := i) (N := N) (v := v) l' hi hN (any_of hT hc) hQ (Or.inl ⟨hw, hy⟩) ha h
theorem ptk_ (i : Nat) (N : Option Tmp) {oi : Oper} {v : Value} {fuel : Nat} {l : Array Bool} {a : Act} {w : World} (l' : Array Bool) (hT : rtab md ops = T) (hB : waitsOk T.2 B = true) (hS : S w) {a' : Act} (h : wpAnyLast P md ops Q S ds fuel l' a' w)
    (hi : ops[i]? = some oi := by rfl) (hN : oi.dst = N := by rfl) (hc : takeW T B ds l.toList l'.toList i = true := by kernel_rfl) (hQ : ∀ c a w, Q (.panic c) (a.put oi.dst v) w → Q (.panic c) a w := by exact (fun _ _ _ h => h))
    (hw : Region.wanted oi (yielded ops a.tmps) = true := by rfl) (hy : ∀ w', S w' → (execOp a.eval oi).run P w' = .ok (.value v) w' := by intro w' hs_; (try dsimp only at hs_); (repeat (obtain ⟨_, hs_⟩ := hs_)); go_simp; with_reducible rfl)
    (ha : a.put N v = a' := by simp only [Act.put, la_, lb_, lc_, i64_w, i32_w]; rfl) : wpAnyLast P md ops Q S ds (fuel + 1) l a w :=
  take_ (i := i) (N := N) (v := v) l' hi hN (take_ofW hT hB hc) hQ (Or.inl ⟨hw, hy⟩) hS ha h
end
end Go.Proofs.YtjogkfcjlljjcaaDoorW.PrintLast
namespace Go.Proofs.YtjogkfcjlljjcaaDoor.P
open Go.RowKit Go.Proofs.YtjogkfcjlljjcaaDoorW.PrintWords Go.Proofs.YtjogkfcjlljjcaaDoorW.PrintLast Go.Proofs.YtjogkfcjlljjcaaDoorW.PrintMore
attribute [local go_sem] max2_int min2_int max_two min_two max_three min_three max_four min_four   -- for this text's walks alone
set_option linter.unusedVariables false
set_option linter.unusedSimpArgs false
set_option linter.unnecessarySimpa false
def z31 : S31 := ⟨(0 : Int), (0 : Int), (⟨#[]⟩ : ByteArray), (0 : Int), (0 : Int), (⟨#[]⟩ : ByteArray), false, ([] : List S100), (0 : Int), (0 : Int), (0 : Int), (0 : Int), false, (0 : Int)⟩
def k31 : Kd S31 := Kd.iso (Kd.pair (Kd.int .i64) (Kd.pair (Kd.int .i64) (Kd.pair Kd.string (Kd.pair (Kd.int .i64) (Kd.pair (Kd.int .i64) (Kd.pair Kd.string (Kd.pair Kd.bool (Kd.pair (Kd.slice 100 k100) (Kd.pair (Kd.int .u64) (Kd.pair (Kd.int .u64) (Kd.pair (Kd.int .u64) (Kd.pair (Kd.int .i64) (Kd.pair Kd.bool (Kd.int .i64)))))))))))))) (fun x : S31 => (x.f0, x.f1, x.f2, x.f3, x.f4, x.f5, x.f6, x.f7, x.f8, x.f9, x.f10, x.f11, x.f12, x.f13))
theorem k31_open {w : World} {x : S31} {cs : List Value} (h : k31.K w x cs) : ∃ A7 c7, cs = [.int .i64 x.f0, .int .i64 x.f1, .string x.f2, .int .i64 x.f3, .int .i64 x.f4, .string x.f5, .bool x.f6, .slice A7 x.f7.length c7, .int .u64 x.f8, .int .u64 x.f9, .int .u64 x.f10, .int .i64 x.f11, .bool x.f12, .int .i64 x.f13] ∧ x.f7.length ≤ c7 ∧ k100.C w A7 x.f7.length x.f7 := by
  obtain ⟨_, _, rfl, rfl, ⟨_, _, rfl, rfl, ⟨_, _, rfl, rfl, ⟨_, _, rfl, rfl, ⟨_, _, rfl, rfl, ⟨_, _, rfl, rfl, ⟨_, _, rfl, rfl, ⟨_, _, rfl, ⟨A7, c7, rfl, l7, g7⟩, ⟨_, _, rfl, rfl, ⟨_, _, rfl, rfl, ⟨_, _, rfl, rfl, ⟨_, _, rfl, rfl, ⟨_, _, rfl, rfl, rfl⟩⟩⟩⟩⟩⟩⟩⟩⟩⟩⟩⟩⟩ := h
  exact ⟨A7, c7, rfl, l7, g7⟩
def rd_T31 (xs : List S31) (i : Int) : S31 := xs.getD i.toNat z31
theorem at_T31 {w : World} {A : Option Addr} {n : Nat} {xs : List S31} (h : Kd.C k31 w A n xs) (i : Int) (h0 : 0 ≤ i) (h1 : i < n) : ∃ ad A7 c7, A = some ad ∧ w.cell? (ad.add (i.toNat * 14)) = some (.int .i64 (rd_T31 xs i).f0) ∧ w.cell? ⟨(ad.add (i.toNat * 14)).block, (ad.add (i.toNat * 14)).off + 1, none⟩ = some (.int .i64 (rd_T31 xs i).f1) ∧ w.cell? ⟨(ad.add (i.toNat * 14)).block, (ad.add (i.toNat * 14)).off + 2, none⟩ = some (.string (rd_T31 xs i).f2) ∧ w.cell? ⟨(ad.add (i.toNat * 14)).block, (ad.add (i.toNat * 14)).off + 3, none⟩ = some (.int .i64 (rd_T31 xs i).f3) ∧ w.cell? ⟨(ad.add (i.toNat * 14)).block, (ad.add (i.toNat * 14)).off + 4, none⟩ = some (.int .i64 (rd_T31 xs i).f4) ∧ w.cell? ⟨(ad.add (i.toNat * 14)).block, (ad.add (i.toNat * 14)).off + 5, none⟩ = some (.string (rd_T31 xs i).f5) ∧ w.cell? ⟨(ad.add (i.toNat * 14)).block, (ad.add (i.toNat * 14)).off + 6, none⟩ = some (.bool (rd_T31 xs i).f6) ∧ w.cell? ⟨(ad.add (i.toNat * 14)).block, (ad.add (i.toNat * 14)).off + 7, none⟩ = some (.slice A7 (rd_T31 xs i).f7.length c7) ∧ w.cell? ⟨(ad.add (i.toNat * 14)).block, (ad.add (i.toNat * 14)).off + 8, none⟩ = some (.int .u64 (rd_T31 xs i).f8) ∧ w.cell? ⟨(ad.add (i.toNat * 14)).block, (ad.add (i.toNat * 14)).off + 9, none⟩ = some (.int .u64 (rd_T31 xs i).f9) ∧ w.cell? ⟨(ad.add (i.toNat * 14)).block, (ad.add (i.toNat * 14)).off + 10, none⟩ = some (.int .u64 (rd_T31 xs i).f10) ∧ w.cell? ⟨(ad.add (i.toNat * 14)).block, (ad.add (i.toNat * 14)).off + 11, none⟩ = some (.int .i64 (rd_T31 xs i).f11) ∧ w.cell? ⟨(ad.add (i.toNat * 14)).block, (ad.add (i.toNat * 14)).off + 12, none⟩ = some (.bool (rd_T31 xs i).f12) ∧ w.cell? ⟨(ad.add (i.toNat * 14)).block, (ad.add (i.toNat * 14)).off + 13, none⟩ = some (.int .i64 (rd_T31 xs i).f13) ∧ (rd_T31 xs i).f7.length ≤ c7 ∧ k100.C w A7 (rd_T31 xs i).f7.length (rd_T31 xs i).f7 := by
  obtain ⟨ad, c, e, _, hK, hc0⟩ := Kd.C_get h z31 i h0 h1
  have hc : ∀ j u, c[j]? = some u → w.cell? (ad.add (i.toNat * 14 + j)) = some u := hc0
  obtain ⟨A7, c7, rfl, l7, g7⟩ := k31_open hK
  exact ⟨ad, A7, c7, e, hc 0 _ rfl, by rw [← add_field _ _ 1 (by omega)]; exact hc 1 _ rfl, by rw [← add_field _ _ 2 (by omega)]; exact hc 2 _ rfl, by rw [← add_field _ _ 3 (by omega)]; exact hc 3 _ rfl, by rw [← add_field _ _ 4 (by omega)]; exact hc 4 _ rfl, by rw [← add_field _ _ 5 (by omega)]; exact hc 5 _ rfl, by rw [← add_field _ _ 6 (by omega)]; exact hc 6 _ rfl, by rw [← add_field _ _ 7 (by omega)]; exact hc 7 _ rfl, by rw [← add_field _ _ 8 (by omega)]; exact hc 8 _ rfl, by rw [← add_field _ _ 9 (by omega)]; exact hc 9 _ rfl, by rw [← add_field _ _ 10 (by omega)]; exact hc 10 _ rfl, by rw [← add_field _ _ 11 (by omega)]; exact hc 11 _ rfl, by rw [← add_field _ _ 12 (by omega)]; exact hc 12 _ rfl, by rw [← add_field _ _ 13 (by omega)]; exact hc 13 _ rfl, l7, g7⟩
end Go.Proofs.YtjogkfcjlljjcaaDoor.P
namespace Go.Proofs.YtjogkfcjlljjcaaDoor.P
open Go.RowKit Go.Proofs.YtjogkfcjlljjcaaDoorW.PrintWords Go.Proofs.YtjogkfcjlljjcaaDoorW.PrintLast Go.Proofs.YtjogkfcjlljjcaaDoorW.PrintMore
attribute [local go_sem] max2_int min2_int max_two min_two max_three min_three max_four min_four   -- for this text's walks alone
set_option linter.unusedVariables false
set_option linter.unusedSimpArgs false
set_option linter.unnecessarySimpa false
theorem headgatekeep_Regs.mono_l : ∀ k, (∀ y0 y1 y2, LeO (headgatekeep_Regs.l0 k y0 y1 y2) (headgatekeep_Regs.l0 (k + 1) y0 y1 y2))
  | 0 => fun _ _ _ r h => by simp [headgatekeep_Regs.l0] at h
  | k + 1 => by
    have ih0 := headgatekeep_Regs.mono_l k
    · intro y0 y1 y2
      unfold headgatekeep_Regs.l0
      repeat' first
      | (with_reducible exact ih0 _ _ _)
      | (with_reducible exact LeO.refl _)
      | (with_reducible exact LeO.none _)
      | (with_reducible refine LeO.ite ?_ ?_)
      | (with_reducible refine LeO.bind ?_ (fun _ => ?_))
      | exact ih0 _ _ _
      | exact LeO.none _
      | refine LeO.ite ?_ ?_
      | refine LeO.bind ?_ (fun _ => ?_)
theorem headgatekeep_Regs.mono : ∀ a0 a1 k, LeO (headgatekeep_Regs.f k a0 a1) (headgatekeep_Regs.f (k + 1) a0 a1) := by
  intro a0 a1 k
  have ih0 := headgatekeep_Regs.mono_l k
  unfold headgatekeep_Regs.f
  repeat' first
      | (with_reducible exact ih0 _ _ _)
      | (with_reducible exact LeO.refl _)
      | (with_reducible exact LeO.none _)
      | (with_reducible refine LeO.ite ?_ ?_)
      | (with_reducible refine LeO.bind ?_ (fun _ => ?_))
      | exact ih0 _ _ _
      | exact LeO.none _
      | refine LeO.ite ?_ ?_
      | refine LeO.bind ?_ (fun _ => ?_)
set_option maxHeartbeats 8000000 in
set_option maxRecDepth 100000 in
theorem headgatekeep_Regs.calls (k : Nat) (A0 : Option Addr) (c0 : Nat) (l0 : List (S53)) (A1 : Option Addr) (c1 : Nat) (l1 : List (S53)) (r : Bool) (w : World) (hr0 : Kd.C k53 w A0 l0.length l0) (hc0 : l0.length ≤ c0) (hr1 : Kd.C k53 w A1 l1.length l1) (hc1 : l1.length ≤ c1) (h : headgatekeep_Regs.f k l0 l1 = some r) :
    Calls Tryd.prog 23 #[.slice A0 l0.length c0, .slice A1 l1.length c1] w fun e w' => e = .returned (.bool r) ∧ Drawn0 w w' := by
  have HR0 := Aside0.mk hr0
  have HC0 := Aside0.mk hc0
  clear hr0 hc0
  have HR1 := Aside0.mk hr1
  have HC1 := Aside0.mk hc1
  clear hr1 hc1
  have H : (if (l0.length : Int) = (l1.length : Int) then (headgatekeep_Regs.l0 k l0 l1 0) else (some false)) = some r := h
  clear h
  by_cases c3 : (l0.length : Int) = (l1.length : Int)
  · rw [if_pos c3] at H
    have c3b0 : ((l0.length : Int) == (l1.length : Int)) = true := beq_iff_eq.mpr c3
    have c3b1 : ((l0.length : Int) != (l1.length : Int)) = false := bne_eq_false_iff_eq.mpr c3
    have c3b2 : (l0.length == l1.length) = true := by first | simpa using c3 | (simp at c3 ⊢; omega)
    clear c3
    have H' := Aside0.mk H
    clear H
    go_enter Tryd.func23, Tryd.ntmps23
    go_wp2
    repeat (go_quiet (fail); try go_wp2)
    go_loopg [5] k (fun kq v5 w' => ∃ (x5_1 : Int), v5 = .int .i64 x5_1 ∧ Aside0 (headgatekeep_Regs.l0 kq l0 l1 x5_1 = some r) ∧ Aside0 (kq ≤ k) ∧ Drawn0 w w')
    case atStart => exact ⟨(0), (by first | rfl | (simp; done) | (simp [*]; done)), H', ⟨Nat.le_refl _⟩, by repeat (first | exact Drawn0.refl _ | apply Drawn0.step)⟩
    case round =>
      clear H'
      try clear c1
      try clear c2
      try clear p2
      try clear c3
      try clear c3b0
      try clear c3b1
      try clear c3b2
      obtain ⟨x5_1, rfl, HA, HK1, ⟨m1, rfl⟩⟩ := hrel
      cases gk with
      | zero => exact absurd HA.out (by simp [headgatekeep_Regs.l0])
      | succ k1 =>
        have H := HA.out
        clear HA
        simp only [headgatekeep_Regs.l0] at H
        by_cases c4 : x5_1 < (l0.length : Int)
        · rw [if_pos c4] at H
          have c4b0 : decide (x5_1 < (l0.length : Int)) = true := decide_eq_true c4
          clear c4
          by_cases c5 : 0 ≤ x5_1
          · rw [if_pos c5] at H
            have c5b0 : decide (0 ≤ x5_1) = true := decide_eq_true c5
            clear c5
            by_cases c6 : x5_1 < (l1.length : Int)
            · rw [if_pos c6] at H
              have c6b0 : decide (x5_1 < (l1.length : Int)) = true := decide_eq_true c6
              clear c6
              by_cases c7 : ((rd_T53 l0 x5_1).f0).toList = ((rd_T53 l1 x5_1).f0).toList
              · rw [if_pos c7] at H
                have c7b0 : (((rd_T53 l0 x5_1).f0).toList == ((rd_T53 l1 x5_1).f0).toList) = true := beq_iff_eq.mpr c7
                have c7b1 : (((rd_T53 l0 x5_1).f0).toList != ((rd_T53 l1 x5_1).f0).toList) = false := bne_eq_false_iff_eq.mpr c7
                clear c7
                by_cases c8 : ((rd_T53 l0 x5_1).f1) = ((rd_T53 l1 x5_1).f1)
                · rw [if_pos c8] at H
                  have c8b0 : (((rd_T53 l0 x5_1).f1) == ((rd_T53 l1 x5_1).f1)) = true := beq_iff_eq.mpr c8
                  have c8b1 : (((rd_T53 l0 x5_1).f1) != ((rd_T53 l1 x5_1).f1)) = false := bne_eq_false_iff_eq.mpr c8
                  clear c8
                  have H' := Aside0.mk H
                  clear H
                  have p223 : 0 ≤ (x5_1 : Int) := of_decide_eq_true (by first | (with_reducible assumption) | assumption)
                  have q223 : x5_1 < (l0.length : Int) := of_decide_eq_true (by first | (with_reducible assumption) | assumption)
                  obtain ⟨ad223, e223, hx223_0, hx223_1⟩ := at_T53 HR0.out x5_1 p223 q223
                  cases e223
                  replace p223 := eq_true p223
                  replace q223 := eq_true q223
                  have p224 : 0 ≤ (x5_1 : Int) := of_decide_eq_true (by first | (with_reducible assumption) | assumption)
                  have q224 : x5_1 < (l1.length : Int) := of_decide_eq_true (by first | (with_reducible assumption) | assumption)
                  obtain ⟨ad224, e224, hx224_0, hx224_1⟩ := at_T53 HR1.out x5_1 p224 q224
                  cases e224
                  replace p224 := eq_true p224
                  replace q224 := eq_true q224
                  have p225 : 0 ≤ (x5_1 : Int) := of_decide_eq_true (by first | (with_reducible assumption) | assumption)
                  have q225 : x5_1 < (l0.length : Int) := of_decide_eq_true (by first | (with_reducible assumption) | assumption)
                  obtain ⟨ad225, e225, hx225_0, hx225_1⟩ := at_T53 HR0.out x5_1 p225 q225
                  obtain rfl : ad223 = ad225 := (by injection e225)
                  replace p225 := eq_true p225
                  replace q225 := eq_true q225
                  have p226 : 0 ≤ (x5_1 : Int) := of_decide_eq_true (by first | (with_reducible assumption) | assumption)
                  have q226 : x5_1 < (l1.length : Int) := of_decide_eq_true (by first | (with_reducible assumption) | assumption)
                  obtain ⟨ad226, e226, hx226_0, hx226_1⟩ := at_T53 HR1.out x5_1 p226 q226
                  obtain rfl : ad224 = ad226 := (by injection e226)
                  replace p226 := eq_true p226
                  replace q226 := eq_true q226
                  go_wp2
                  repeat (go_quiet (fail); try go_wp2)
                  go_roundg k1
                  case measure => have := HK1.out; omega
                  case rel => exact ⟨(wrap64 (x5_1 + 1)), (by first | rfl | (simp; done) | (simp [*]; done)), H', ⟨by have := HK1.out; omega⟩, by repeat (first | exact Drawn0.refl _ | apply Drawn0.step)⟩
                · rw [if_neg c8] at H
                  have c8b0 : (((rd_T53 l0 x5_1).f1) == ((rd_T53 l1 x5_1).f1)) = false := beq_eq_false_iff_ne.mpr c8
                  have c8b1 : (((rd_T53 l0 x5_1).f1) != ((rd_T53 l1 x5_1).f1)) = true := bne_iff_ne.mpr c8
                  obtain rfl := Option.some.inj H
                  have p223 : 0 ≤ (x5_1 : Int) := of_decide_eq_true (by first | (with_reducible assumption) | assumption)
                  have q223 : x5_1 < (l0.length : Int) := of_decide_eq_true (by first | (with_reducible assumption) | assumption)
                  obtain ⟨ad223, e223, hx223_0, hx223_1⟩ := at_T53 HR0.out x5_1 p223 q223
                  cases e223
                  replace p223 := eq_true p223
                  replace q223 := eq_true q223
                  have p224 : 0 ≤ (x5_1 : Int) := of_decide_eq_true (by first | (with_reducible assumption) | assumption)
                  have q224 : x5_1 < (l1.length : Int) := of_decide_eq_true (by first | (with_reducible assumption) | assumption)
                  obtain ⟨ad224, e224, hx224_0, hx224_1⟩ := at_T53 HR1.out x5_1 p224 q224
                  cases e224
                  replace p224 := eq_true p224
                  replace q224 := eq_true q224
                  have p225 : 0 ≤ (x5_1 : Int) := of_decide_eq_true (by first | (with_reducible assumption) | assumption)
                  have q225 : x5_1 < (l0.length : Int) := of_decide_eq_true (by first | (with_reducible assumption) | assumption)
                  obtain ⟨ad225, e225, hx225_0, hx225_1⟩ := at_T53 HR0.out x5_1 p225 q225
                  obtain rfl : ad223 = ad225 := (by injection e225)
                  replace p225 := eq_true p225
                  replace q225 := eq_true q225
                  have p226 : 0 ≤ (x5_1 : Int) := of_decide_eq_true (by first | (with_reducible assumption) | assumption)
                  have q226 : x5_1 < (l1.length : Int) := of_decide_eq_true (by first | (with_reducible assumption) | assumption)
                  obtain ⟨ad226, e226, hx226_0, hx226_1⟩ := at_T53 HR1.out x5_1 p226 q226
                  obtain rfl : ad224 = ad226 := (by injection e226)
                  replace p226 := eq_true p226
                  replace q226 := eq_true q226
                  go_wp2
                  repeat (go_quiet (fail); try go_wp2)
                  go_ret
                  exact ⟨by first | rfl | (simp; done) | (simp [*]; done), by repeat (first | exact Drawn0.refl _ | apply Drawn0.step)⟩
              · rw [if_neg c7] at H
                have c7b0 : (((rd_T53 l0 x5_1).f0).toList == ((rd_T53 l1 x5_1).f0).toList) = false := beq_eq_false_iff_ne.mpr c7
                have c7b1 : (((rd_T53 l0 x5_1).f0).toList != ((rd_T53 l1 x5_1).f0).toList) = true := bne_iff_ne.mpr c7
                obtain rfl := Option.some.inj H
                have p223 : 0 ≤ (x5_1 : Int) := of_decide_eq_true (by first | (with_reducible assumption) | assumption)
                have q223 : x5_1 < (l0.length : Int) := of_decide_eq_true (by first | (with_reducible assumption) | assumption)
                obtain ⟨ad223, e223, hx223_0, hx223_1⟩ := at_T53 HR0.out x5_1 p223 q223
                cases e223
                replace p223 := eq_true p223
                replace q223 := eq_true q223
                have p224 : 0 ≤ (x5_1 : Int) := of_decide_eq_true (by first | (with_reducible assumption) | assumption)
                have q224 : x5_1 < (l1.length : Int) := of_decide_eq_true (by first | (with_reducible assumption) | assumption)
                obtain ⟨ad224, e224, hx224_0, hx224_1⟩ := at_T53 HR1.out x5_1 p224 q224
                cases e224
                replace p224 := eq_true p224
                replace q224 := eq_true q224
                go_wp2
                repeat (go_quiet (fail); try go_wp2)
                go_ret
                exact ⟨by first | rfl | (simp; done) | (simp [*]; done), by repeat (first | exact Drawn0.refl _ | apply Drawn0.step)⟩
            · rw [if_neg c6] at H
              exact absurd H (by simp)
          · rw [if_neg c5] at H
            exact absurd H (by simp)
        · rw [if_neg c4] at H
          have c4b0 : decide (x5_1 < (l0.length : Int)) = false := decide_eq_false c4
          clear c4
          obtain rfl := Option.some.inj H
          go_wp2
          repeat (go_quiet (fail); try go_wp2)
          go_ret
          exact ⟨by first | rfl | (simp; done) | (simp [*]; done), by repeat (first | exact Drawn0.refl _ | apply Drawn0.step)⟩
  · rw [if_neg c3] at H
    have c3b0 : ((l0.length : Int) == (l1.length : Int)) = false := beq_eq_false_iff_ne.mpr c3
    have c3b1 : ((l0.length : Int) != (l1.length : Int)) = true := bne_iff_ne.mpr c3
    have c3b2 : (l0.length == l1.length) = false := by first | simpa using c3 | (simp at c3 ⊢; omega)
    obtain rfl := Option.some.inj H
    go_enter Tryd.func23, Tryd.ntmps23
    go_wp2
    repeat (go_quiet (fail); try go_wp2)
    go_ret
    exact ⟨by first | rfl | (simp; done) | (simp [*]; done), by repeat (first | exact Drawn0.refl _ | apply Drawn0.step)⟩
theorem headgatekeep_Tables.mono : ∀ a0 a1 a2 a3 a4 a5 a6 a7 a8 a9 k, LeO (headgatekeep_Tables.f k a0 a1 a2 a3 a4 a5 a6 a7 a8 a9) (headgatekeep_Tables.f (k + 1) a0 a1 a2 a3 a4 a5 a6 a7 a8 a9) := by
 intro a0 a1 a2 a3 a4 a5 a6 a7 a8 a9 k
 unfold headgatekeep_Tables.f
 repeat' first
   | (with_reducible exact headgatekeep_Regs.mono _ _ _)
   | (with_reducible exact LeO.refl _)
   | (with_reducible exact LeO.none _)
   | (with_reducible refine LeO.ite ?_ ?_)
   | (with_reducible refine LeO.bind ?_ (fun _ => ?_))
   | exact headgatekeep_Regs.mono _ _ _
   | exact LeO.none _
   | refine LeO.ite ?_ ?_
   | refine LeO.bind ?_ (fun _ => ?_)
set_option maxHeartbeats 8000000 in
set_option maxRecDepth 100000 in
theorem headgatekeep_Tables.calls (k : Nat) (A0_0 : Option Addr) (c0_0 : Nat) (l0_0 : List (S53)) (a0_1 : Int) (a0_2 : ByteArray) (a0_3 : Int) (a0_4 : Bool) (A1_0 : Option Addr) (c1_0 : Nat) (l1_0 : List (S53)) (a1_1 : Int) (a1_2 : ByteArray) (a1_3 : Int) (a1_4 : Bool) (r : Bool) (w : World) (hr0_0 : Kd.C k53 w A0_0 l0_0.length l0_0) (hc0_0 : l0_0.length ≤ c0_0) (hr1_0 : Kd.C k53 w A1_0 l1_0.length l1_0) (hc1_0 : l1_0.length ≤ c1_0) (h : headgatekeep_Tables.f k l0_0 a0_1 a0_2 a0_3 a0_4 l1_0 a1_1 a1_2 a1_3 a1_4 = some r) :
  Calls Tryd.prog 17 #[.agg #[.slice A0_0 l0_0.length c0_0, .int .i64 a0_1, .string a0_2, .int .u32 a0_3, .bool a0_4], .agg #[.slice A1_0 l1_0.length c1_0, .int .i64 a1_1, .string a1_2, .int .u32 a1_3, .bool a1_4]] w fun e w' => e = .returned (.bool r) ∧ Below w.heap.size w w' := by
 have hu27 := Tryd.underlying27
 have HR0_0 := Aside0.mk hr0_0
 have HC0_0 := Aside0.mk hc0_0
 clear hr0_0 hc0_0
 have HR1_0 := Aside0.mk hr1_0
 have HC1_0 := Aside0.mk hc1_0
 clear hr1_0 hc1_0
 have HB := Aside0.mk (Below.refl w.heap.size w)
 have H : ((headgatekeep_Regs.f k l0_0 l1_0).bind fun t229 => (if t229 = true then (if a0_1 = a1_1 then (if a0_2.toList = a1_2.toList then (if a0_3 = a1_3 then (some (a0_4 == a1_4)) else (some false)) else (some false)) else (some false)) else (some false))) = some r := h
 clear h
 replace H := Option.bind_eq_some_iff.mp H
 obtain ⟨t229, A30, H⟩ := H
 try dsimp only at H
 have A3 := Aside0.mk A30
 clear A30
 refine neg_first (p := (t229 = true)) (fun c4 => ?_) (fun c4 => ?_)
 ·replace c4 := Bool.eq_false_iff.mpr c4
  subst c4
  have H1 := H
  rw [if_neg (show ¬ (false = true) by decide)] at H1
  clear H
  have H := H1
  clear H1
  obtain rfl := Option.some.inj H
  go_enter Tryd.func17, Tryd.ntmps17
  go_wp2_with (first | ((with_reducible refine gate_dst (N := 2) rfl ?_); refine box_event ?hg (N := 2) ?hd (cs := #[.slice A0_0 l0_0.length c0_0, .int .i64 a0_1, .string a0_2, .int .u32 a0_3, .bool a0_4]) (t := 27) ?hr ?_; (case hd => rfl); (case hg => rfl); (case hr => first | (go_simp; done) | (go_simp; rfl)); intro gb227 hg w28 hbox hb; have n0_ := Aside0.mk (below_step (hb_ HB) hb); have n1_ := Aside0.mk (hbox); have n2_ := Aside0.mk ((by rw [hg]; exact (below_size (hb_ HB)) : w.heap.size ≤ gb227)); have n3_ := Aside0.mk ((by rw [hg]; exact (below_size (hb_ HB)) : w.heap.size ≤ gb227)); clear HB; have HB := n0_; have BK227 := n1_; have GW227 := n2_; have GE227 := n3_; clear n0_ n1_ n2_ n3_; clear hb hbox hg) | ((with_reducible refine gate_dst (N := 3) rfl ?_); refine box_event ?hg (N := 3) ?hd (cs := #[.slice A1_0 l1_0.length c1_0, .int .i64 a1_1, .string a1_2, .int .u32 a1_3, .bool a1_4]) (t := 27) ?hr ?_; (case hd => rfl); (case hg => rfl); (case hr => first | (go_simp; done) | (go_simp; rfl)); intro gb228 hg w29 hbox hb; have n0_ := Aside0.mk (blk_below (bk_ BK227) hb); have n1_ := Aside0.mk (below_step (hb_ HB) hb); have n2_ := Aside0.mk (hbox); have n3_ := Aside0.mk ((by rw [hg]; exact (below_size (hb_ HB)) : w.heap.size ≤ gb228)); have n4_ := Aside0.mk ((by rw [hg]; exact (below_size (hb_ HB)) : w.heap.size ≤ gb228)); have n5_ := Aside0.mk ((by rw [hg]; exact Nat.ne_of_lt (blk_lt (g := gb227) (o := .cells #[.slice A0_0 l0_0.length c0_0, .int .i64 a0_1, .string a0_2, .int .u32 a0_3, .bool a0_4] 27 (0, 0)) (bk_ BK227)) : gb227 ≠ gb228)); have n6_ := Aside0.mk ((by rw [hg]; exact Nat.ne_of_gt (blk_lt (g := gb227) (o := .cells #[.slice A0_0 l0_0.length c0_0, .int .i64 a0_1, .string a0_2, .int .u32 a0_3, .bool a0_4] 27 (0, 0)) (bk_ BK227)) : gb228 ≠ gb227)); clear BK227; clear HB; have BK227 := n0_; have HB := n1_; have BK228 := n2_; have GW228 := n3_; have GE228 := n4_; have NB227_228 := n5_; have NB228_227 := n6_; clear n0_ n1_ n2_ n3_ n4_ n5_ n6_; clear hb hbox hg; have hnb30 := NB227_228.out; have hnc30 := NB228_227.out; have hcz31_0 : w29.cell? ⟨gb227, 0, none⟩ = some (.slice A0_0 l0_0.length c0_0) := (blk_cell BK227.out 0).trans rfl; have hcz31_1 : w29.cell? ⟨gb227, 1, none⟩ = some (.int .i64 a0_1) := (blk_cell BK227.out 1).trans rfl; have hcz31_2 : w29.cell? ⟨gb227, 2, none⟩ = some (.string a0_2) := (blk_cell BK227.out 2).trans rfl; have hcz31_3 : w29.cell? ⟨gb227, 3, none⟩ = some (.int .u32 a0_3) := (blk_cell BK227.out 3).trans rfl; have hcz31_4 : w29.cell? ⟨gb227, 4, none⟩ = some (.bool a0_4) := (blk_cell BK227.out 4).trans rfl; have hfz31_0 := blk_frozen BK227.out 0; have hfz31_1 := blk_frozen BK227.out 1; have hfz31_2 := blk_frozen BK227.out 2; have hfz31_3 := blk_frozen BK227.out 3; have hfz31_4 := blk_frozen BK227.out 4; have hcz32_0 : w29.cell? ⟨gb228, 0, none⟩ = some (.slice A1_0 l1_0.length c1_0) := (blk_cell BK228.out 0).trans rfl; have hcz32_1 : w29.cell? ⟨gb228, 1, none⟩ = some (.int .i64 a1_1) := (blk_cell BK228.out 1).trans rfl; have hcz32_2 : w29.cell? ⟨gb228, 2, none⟩ = some (.string a1_2) := (blk_cell BK228.out 2).trans rfl; have hcz32_3 : w29.cell? ⟨gb228, 3, none⟩ = some (.int .u32 a1_3) := (blk_cell BK228.out 3).trans rfl; have hcz32_4 : w29.cell? ⟨gb228, 4, none⟩ = some (.bool a1_4) := (blk_cell BK228.out 4).trans rfl; have hfz32_0 := blk_frozen BK228.out 0; have hfz32_1 := blk_frozen BK228.out 1; have hfz32_2 := blk_frozen BK228.out 2; have hfz32_3 := blk_frozen BK228.out 3; have hfz32_4 := blk_frozen BK228.out 4) | ((with_reducible refine gate_callee (f := 23) rfl ?_); refine goesL_ (some 9) rfl rfl Tryd.func23 (by kernel_rfl) rfl #[.slice A0_0 l0_0.length c0_0, .slice A1_0 l1_0.length c1_0] rfl (by (try simp only [List.map_toArray, List.map_cons, List.map_nil]); first | done | rfl | (simp only [List.length_drop, List.length_take]; rfl)) ?_; (with_reducible refine (headgatekeep_Regs.calls k _ _ l0_0 _ _ l1_0 false _ ?side1 ?side2 ?side3 ?side4 A3.out).mono ?_); (case side1 => repeat (first | exact (Kd.C_below HR0_0.out HB.out) | (with_reducible refine Kd.C_alloc ?_ _) | (with_reducible refine Kd.C_drewN ?_ _) | (with_reducible refine Kd.C_drew ?_))); (case side2 => exact HC0_0.out); (case side3 => repeat (first | exact (Kd.C_below HR1_0.out HB.out) | (with_reducible refine Kd.C_alloc ?_ _) | (with_reducible refine Kd.C_drewN ?_ _) | (with_reducible refine Kd.C_drew ?_))); (case side4 => exact HC1_0.out); rintro e w' ⟨rfl, ⟨nd, rfl⟩⟩; refine ⟨_, rfl, ?_⟩))
  go_ret
  exact ⟨by first | rfl | (simp [errW_none, errW_some] <;> rfl) | (simp [*, errW_none, errW_some] <;> rfl) | (simp [bt, *]; done) | (unfold bt; simp [*]; done), by repeat (first | (with_reducible first | exact HB.out | apply below_alloc | apply pw_below_drewN | apply below_drew1 | refine below_set ?_ GE227.out | refine below_set ?_ GE228.out) | exact HB.out)⟩
 subst c4
 have H1 := H
 rw [if_pos rfl] at H1
 clear H
 have H := H1
 clear H1
 refine neg_first (p := (a0_1 = a1_1)) (fun c5 => ?_) (fun c5 => ?_)
 ·rw [if_neg c5] at H
  have c5b0 : (a0_1 == a1_1) = false := beq_eq_false_iff_ne.mpr c5
  have c5b1 : (a0_1 != a1_1) = true := bne_iff_ne.mpr c5
  obtain rfl := Option.some.inj H
  go_enter Tryd.func17, Tryd.ntmps17
  go_wp2_with (first | ((with_reducible refine gate_dst (N := 2) rfl ?_); refine box_event ?hg (N := 2) ?hd (cs := #[.slice A0_0 l0_0.length c0_0, .int .i64 a0_1, .string a0_2, .int .u32 a0_3, .bool a0_4]) (t := 27) ?hr ?_; (case hd => rfl); (case hg => rfl); (case hr => first | (go_simp; done) | (go_simp; rfl)); intro gb227 hg w23 hbox hb; have n0_ := Aside0.mk (below_step (hb_ HB) hb); have n1_ := Aside0.mk (hbox); have n2_ := Aside0.mk ((by rw [hg]; exact (below_size (hb_ HB)) : w.heap.size ≤ gb227)); have n3_ := Aside0.mk ((by rw [hg]; exact (below_size (hb_ HB)) : w.heap.size ≤ gb227)); clear HB; have HB := n0_; have BK227 := n1_; have GW227 := n2_; have GE227 := n3_; clear n0_ n1_ n2_ n3_; clear hb hbox hg) | ((with_reducible refine gate_dst (N := 3) rfl ?_); refine box_event ?hg (N := 3) ?hd (cs := #[.slice A1_0 l1_0.length c1_0, .int .i64 a1_1, .string a1_2, .int .u32 a1_3, .bool a1_4]) (t := 27) ?hr ?_; (case hd => rfl); (case hg => rfl); (case hr => first | (go_simp; done) | (go_simp; rfl)); intro gb228 hg w24 hbox hb; have n0_ := Aside0.mk (blk_below (bk_ BK227) hb); have n1_ := Aside0.mk (below_step (hb_ HB) hb); have n2_ := Aside0.mk (hbox); have n3_ := Aside0.mk ((by rw [hg]; exact (below_size (hb_ HB)) : w.heap.size ≤ gb228)); have n4_ := Aside0.mk ((by rw [hg]; exact (below_size (hb_ HB)) : w.heap.size ≤ gb228)); have n5_ := Aside0.mk ((by rw [hg]; exact Nat.ne_of_lt (blk_lt (g := gb227) (o := .cells #[.slice A0_0 l0_0.length c0_0, .int .i64 a0_1, .string a0_2, .int .u32 a0_3, .bool a0_4] 27 (0, 0)) (bk_ BK227)) : gb227 ≠ gb228)); have n6_ := Aside0.mk ((by rw [hg]; exact Nat.ne_of_gt (blk_lt (g := gb227) (o := .cells #[.slice A0_0 l0_0.length c0_0, .int .i64 a0_1, .string a0_2, .int .u32 a0_3, .bool a0_4] 27 (0, 0)) (bk_ BK227)) : gb228 ≠ gb227)); clear BK227; clear HB; have BK227 := n0_; have HB := n1_; have BK228 := n2_; have GW228 := n3_; have GE228 := n4_; have NB227_228 := n5_; have NB228_227 := n6_; clear n0_ n1_ n2_ n3_ n4_ n5_ n6_; clear hb hbox hg; have hnb25 := NB227_228.out; have hnc25 := NB228_227.out; have hcz26_0 : w24.cell? ⟨gb227, 0, none⟩ = some (.slice A0_0 l0_0.length c0_0) := (blk_cell BK227.out 0).trans rfl; have hcz26_1 : w24.cell? ⟨gb227, 1, none⟩ = some (.int .i64 a0_1) := (blk_cell BK227.out 1).trans rfl; have hcz26_2 : w24.cell? ⟨gb227, 2, none⟩ = some (.string a0_2) := (blk_cell BK227.out 2).trans rfl; have hcz26_3 : w24.cell? ⟨gb227, 3, none⟩ = some (.int .u32 a0_3) := (blk_cell BK227.out 3).trans rfl; have hcz26_4 : w24.cell? ⟨gb227, 4, none⟩ = some (.bool a0_4) := (blk_cell BK227.out 4).trans rfl; have hfz26_0 := blk_frozen BK227.out 0; have hfz26_1 := blk_frozen BK227.out 1; have hfz26_2 := blk_frozen BK227.out 2; have hfz26_3 := blk_frozen BK227.out 3; have hfz26_4 := blk_frozen BK227.out 4; have hcz27_0 : w24.cell? ⟨gb228, 0, none⟩ = some (.slice A1_0 l1_0.length c1_0) := (blk_cell BK228.out 0).trans rfl; have hcz27_1 : w24.cell? ⟨gb228, 1, none⟩ = some (.int .i64 a1_1) := (blk_cell BK228.out 1).trans rfl; have hcz27_2 : w24.cell? ⟨gb228, 2, none⟩ = some (.string a1_2) := (blk_cell BK228.out 2).trans rfl; have hcz27_3 : w24.cell? ⟨gb228, 3, none⟩ = some (.int .u32 a1_3) := (blk_cell BK228.out 3).trans rfl; have hcz27_4 : w24.cell? ⟨gb228, 4, none⟩ = some (.bool a1_4) := (blk_cell BK228.out 4).trans rfl; have hfz27_0 := blk_frozen BK228.out 0; have hfz27_1 := blk_frozen BK228.out 1; have hfz27_2 := blk_frozen BK228.out 2; have hfz27_3 := blk_frozen BK228.out 3; have hfz27_4 := blk_frozen BK228.out 4) | ((with_reducible refine gate_callee (f := 23) rfl ?_); refine goesL_ (some 9) rfl rfl Tryd.func23 (by kernel_rfl) rfl #[.slice A0_0 l0_0.length c0_0, .slice A1_0 l1_0.length c1_0] rfl (by (try simp only [List.map_toArray, List.map_cons, List.map_nil]); first | done | rfl | (simp only [List.length_drop, List.length_take]; rfl)) ?_; (with_reducible refine (headgatekeep_Regs.calls k _ _ l0_0 _ _ l1_0 true _ ?side1 ?side2 ?side3 ?side4 A3.out).mono ?_); (case side1 => repeat (first | exact (Kd.C_below HR0_0.out HB.out) | (with_reducible refine Kd.C_alloc ?_ _) | (with_reducible refine Kd.C_drewN ?_ _) | (with_reducible refine Kd.C_drew ?_))); (case side2 => exact HC0_0.out); (case side3 => repeat (first | exact (Kd.C_below HR1_0.out HB.out) | (with_reducible refine Kd.C_alloc ?_ _) | (with_reducible refine Kd.C_drewN ?_ _) | (with_reducible refine Kd.C_drew ?_))); (case side4 => exact HC1_0.out); rintro e w' ⟨rfl, ⟨nd, rfl⟩⟩; refine ⟨_, rfl, ?_⟩))
  go_ret
  exact ⟨by first | rfl | (simp [errW_none, errW_some] <;> rfl) | (simp [*, errW_none, errW_some] <;> rfl) | (simp [bt, *]; done) | (unfold bt; simp [*]; done), by repeat (first | (with_reducible first | exact HB.out | apply below_alloc | apply pw_below_drewN | apply below_drew1 | refine below_set ?_ GE227.out | refine below_set ?_ GE228.out) | exact HB.out)⟩
 rw [if_pos c5] at H
 have c5b0 : (a0_1 == a1_1) = true := beq_iff_eq.mpr c5
 have c5b1 : (a0_1 != a1_1) = false := bne_eq_false_iff_eq.mpr c5
 clear c5
 refine neg_first (p := (a0_2.toList = a1_2.toList)) (fun c6 => ?_) (fun c6 => ?_)
 ·rw [if_neg c6] at H
  have c6b0 : (a0_2.toList == a1_2.toList) = false := beq_eq_false_iff_ne.mpr c6
  have c6b1 : (a0_2.toList != a1_2.toList) = true := bne_iff_ne.mpr c6
  obtain rfl := Option.some.inj H
  go_enter Tryd.func17, Tryd.ntmps17
  go_wp2_with (first | ((with_reducible refine gate_dst (N := 2) rfl ?_); refine box_event ?hg (N := 2) ?hd (cs := #[.slice A0_0 l0_0.length c0_0, .int .i64 a0_1, .string a0_2, .int .u32 a0_3, .bool a0_4]) (t := 27) ?hr ?_; (case hd => rfl); (case hg => rfl); (case hr => first | (go_simp; done) | (go_simp; rfl)); intro gb227 hg w18 hbox hb; have n0_ := Aside0.mk (below_step (hb_ HB) hb); have n1_ := Aside0.mk (hbox); have n2_ := Aside0.mk ((by rw [hg]; exact (below_size (hb_ HB)) : w.heap.size ≤ gb227)); have n3_ := Aside0.mk ((by rw [hg]; exact (below_size (hb_ HB)) : w.heap.size ≤ gb227)); clear HB; have HB := n0_; have BK227 := n1_; have GW227 := n2_; have GE227 := n3_; clear n0_ n1_ n2_ n3_; clear hb hbox hg) | ((with_reducible refine gate_dst (N := 3) rfl ?_); refine box_event ?hg (N := 3) ?hd (cs := #[.slice A1_0 l1_0.length c1_0, .int .i64 a1_1, .string a1_2, .int .u32 a1_3, .bool a1_4]) (t := 27) ?hr ?_; (case hd => rfl); (case hg => rfl); (case hr => first | (go_simp; done) | (go_simp; rfl)); intro gb228 hg w19 hbox hb; have n0_ := Aside0.mk (blk_below (bk_ BK227) hb); have n1_ := Aside0.mk (below_step (hb_ HB) hb); have n2_ := Aside0.mk (hbox); have n3_ := Aside0.mk ((by rw [hg]; exact (below_size (hb_ HB)) : w.heap.size ≤ gb228)); have n4_ := Aside0.mk ((by rw [hg]; exact (below_size (hb_ HB)) : w.heap.size ≤ gb228)); have n5_ := Aside0.mk ((by rw [hg]; exact Nat.ne_of_lt (blk_lt (g := gb227) (o := .cells #[.slice A0_0 l0_0.length c0_0, .int .i64 a0_1, .string a0_2, .int .u32 a0_3, .bool a0_4] 27 (0, 0)) (bk_ BK227)) : gb227 ≠ gb228)); have n6_ := Aside0.mk ((by rw [hg]; exact Nat.ne_of_gt (blk_lt (g := gb227) (o := .cells #[.slice A0_0 l0_0.length c0_0, .int .i64 a0_1, .string a0_2, .int .u32 a0_3, .bool a0_4] 27 (0, 0)) (bk_ BK227)) : gb228 ≠ gb227)); clear BK227; clear HB; have BK227 := n0_; have HB := n1_; have BK228 := n2_; have GW228 := n3_; have GE228 := n4_; have NB227_228 := n5_; have NB228_227 := n6_; clear n0_ n1_ n2_ n3_ n4_ n5_ n6_; clear hb hbox hg; have hnb20 := NB227_228.out; have hnc20 := NB228_227.out; have hcz21_0 : w19.cell? ⟨gb227, 0, none⟩ = some (.slice A0_0 l0_0.length c0_0) := (blk_cell BK227.out 0).trans rfl; have hcz21_1 : w19.cell? ⟨gb227, 1, none⟩ = some (.int .i64 a0_1) := (blk_cell BK227.out 1).trans rfl; have hcz21_2 : w19.cell? ⟨gb227, 2, none⟩ = some (.string a0_2) := (blk_cell BK227.out 2).trans rfl; have hcz21_3 : w19.cell? ⟨gb227, 3, none⟩ = some (.int .u32 a0_3) := (blk_cell BK227.out 3).trans rfl; have hcz21_4 : w19.cell? ⟨gb227, 4, none⟩ = some (.bool a0_4) := (blk_cell BK227.out 4).trans rfl; have hfz21_0 := blk_frozen BK227.out 0; have hfz21_1 := blk_frozen BK227.out 1; have hfz21_2 := blk_frozen BK227.out 2; have hfz21_3 := blk_frozen BK227.out 3; have hfz21_4 := blk_frozen BK227.out 4; have hcz22_0 : w19.cell? ⟨gb228, 0, none⟩ = some (.slice A1_0 l1_0.length c1_0) := (blk_cell BK228.out 0).trans rfl; have hcz22_1 : w19.cell? ⟨gb228, 1, none⟩ = some (.int .i64 a1_1) := (blk_cell BK228.out 1).trans rfl; have hcz22_2 : w19.cell? ⟨gb228, 2, none⟩ = some (.string a1_2) := (blk_cell BK228.out 2).trans rfl; have hcz22_3 : w19.cell? ⟨gb228, 3, none⟩ = some (.int .u32 a1_3) := (blk_cell BK228.out 3).trans rfl; have hcz22_4 : w19.cell? ⟨gb228, 4, none⟩ = some (.bool a1_4) := (blk_cell BK228.out 4).trans rfl; have hfz22_0 := blk_frozen BK228.out 0; have hfz22_1 := blk_frozen BK228.out 1; have hfz22_2 := blk_frozen BK228.out 2; have hfz22_3 := blk_frozen BK228.out 3; have hfz22_4 := blk_frozen BK228.out 4) | ((with_reducible refine gate_callee (f := 23) rfl ?_); refine goesL_ (some 9) rfl rfl Tryd.func23 (by kernel_rfl) rfl #[.slice A0_0 l0_0.length c0_0, .slice A1_0 l1_0.length c1_0] rfl (by (try simp only [List.map_toArray, List.map_cons, List.map_nil]); first | done | rfl | (simp only [List.length_drop, List.length_take]; rfl)) ?_; (with_reducible refine (headgatekeep_Regs.calls k _ _ l0_0 _ _ l1_0 true _ ?side1 ?side2 ?side3 ?side4 A3.out).mono ?_); (case side1 => repeat (first | exact (Kd.C_below HR0_0.out HB.out) | (with_reducible refine Kd.C_alloc ?_ _) | (with_reducible refine Kd.C_drewN ?_ _) | (with_reducible refine Kd.C_drew ?_))); (case side2 => exact HC0_0.out); (case side3 => repeat (first | exact (Kd.C_below HR1_0.out HB.out) | (with_reducible refine Kd.C_alloc ?_ _) | (with_reducible refine Kd.C_drewN ?_ _) | (with_reducible refine Kd.C_drew ?_))); (case side4 => exact HC1_0.out); rintro e w' ⟨rfl, ⟨nd, rfl⟩⟩; refine ⟨_, rfl, ?_⟩))
  go_ret
  exact ⟨by first | rfl | (simp [errW_none, errW_some] <;> rfl) | (simp [*, errW_none, errW_some] <;> rfl) | (simp [bt, *]; done) | (unfold bt; simp [*]; done), by repeat (first | (with_reducible first | exact HB.out | apply below_alloc | apply pw_below_drewN | apply below_drew1 | refine below_set ?_ GE227.out | refine below_set ?_ GE228.out) | exact HB.out)⟩
 rw [if_pos c6] at H
 have c6b0 : (a0_2.toList == a1_2.toList) = true := beq_iff_eq.mpr c6
 have c6b1 : (a0_2.toList != a1_2.toList) = false := bne_eq_false_iff_eq.mpr c6
 clear c6
 refine neg_first (p := (a0_3 = a1_3)) (fun c7 => ?_) (fun c7 => ?_)
 ·rw [if_neg c7] at H
  have c7b0 : (a0_3 == a1_3) = false := beq_eq_false_iff_ne.mpr c7
  have c7b1 : (a0_3 != a1_3) = true := bne_iff_ne.mpr c7
  obtain rfl := Option.some.inj H
  go_enter Tryd.func17, Tryd.ntmps17
  go_wp2_with (first | ((with_reducible refine gate_dst (N := 2) rfl ?_); refine box_event ?hg (N := 2) ?hd (cs := #[.slice A0_0 l0_0.length c0_0, .int .i64 a0_1, .string a0_2, .int .u32 a0_3, .bool a0_4]) (t := 27) ?hr ?_; (case hd => rfl); (case hg => rfl); (case hr => first | (go_simp; done) | (go_simp; rfl)); intro gb227 hg w13 hbox hb; have n0_ := Aside0.mk (below_step (hb_ HB) hb); have n1_ := Aside0.mk (hbox); have n2_ := Aside0.mk ((by rw [hg]; exact (below_size (hb_ HB)) : w.heap.size ≤ gb227)); have n3_ := Aside0.mk ((by rw [hg]; exact (below_size (hb_ HB)) : w.heap.size ≤ gb227)); clear HB; have HB := n0_; have BK227 := n1_; have GW227 := n2_; have GE227 := n3_; clear n0_ n1_ n2_ n3_; clear hb hbox hg) | ((with_reducible refine gate_dst (N := 3) rfl ?_); refine box_event ?hg (N := 3) ?hd (cs := #[.slice A1_0 l1_0.length c1_0, .int .i64 a1_1, .string a1_2, .int .u32 a1_3, .bool a1_4]) (t := 27) ?hr ?_; (case hd => rfl); (case hg => rfl); (case hr => first | (go_simp; done) | (go_simp; rfl)); intro gb228 hg w14 hbox hb; have n0_ := Aside0.mk (blk_below (bk_ BK227) hb); have n1_ := Aside0.mk (below_step (hb_ HB) hb); have n2_ := Aside0.mk (hbox); have n3_ := Aside0.mk ((by rw [hg]; exact (below_size (hb_ HB)) : w.heap.size ≤ gb228)); have n4_ := Aside0.mk ((by rw [hg]; exact (below_size (hb_ HB)) : w.heap.size ≤ gb228)); have n5_ := Aside0.mk ((by rw [hg]; exact Nat.ne_of_lt (blk_lt (g := gb227) (o := .cells #[.slice A0_0 l0_0.length c0_0, .int .i64 a0_1, .string a0_2, .int .u32 a0_3, .bool a0_4] 27 (0, 0)) (bk_ BK227)) : gb227 ≠ gb228)); have n6_ := Aside0.mk ((by rw [hg]; exact Nat.ne_of_gt (blk_lt (g := gb227) (o := .cells #[.slice A0_0 l0_0.length c0_0, .int .i64 a0_1, .string a0_2, .int .u32 a0_3, .bool a0_4] 27 (0, 0)) (bk_ BK227)) : gb228 ≠ gb227)); clear BK227; clear HB; have BK227 := n0_; have HB := n1_; have BK228 := n2_; have GW228 := n3_; have GE228 := n4_; have NB227_228 := n5_; have NB228_227 := n6_; clear n0_ n1_ n2_ n3_ n4_ n5_ n6_; clear hb hbox hg; have hnb15 := NB227_228.out; have hnc15 := NB228_227.out; have hcz16_0 : w14.cell? ⟨gb227, 0, none⟩ = some (.slice A0_0 l0_0.length c0_0) := (blk_cell BK227.out 0).trans rfl; have hcz16_1 : w14.cell? ⟨gb227, 1, none⟩ = some (.int .i64 a0_1) := (blk_cell BK227.out 1).trans rfl; have hcz16_2 : w14.cell? ⟨gb227, 2, none⟩ = some (.string a0_2) := (blk_cell BK227.out 2).trans rfl; have hcz16_3 : w14.cell? ⟨gb227, 3, none⟩ = some (.int .u32 a0_3) := (blk_cell BK227.out 3).trans rfl; have hcz16_4 : w14.cell? ⟨gb227, 4, none⟩ = some (.bool a0_4) := (blk_cell BK227.out 4).trans rfl; have hfz16_0 := blk_frozen BK227.out 0; have hfz16_1 := blk_frozen BK227.out 1; have hfz16_2 := blk_frozen BK227.out 2; have hfz16_3 := blk_frozen BK227.out 3; have hfz16_4 := blk_frozen BK227.out 4; have hcz17_0 : w14.cell? ⟨gb228, 0, none⟩ = some (.slice A1_0 l1_0.length c1_0) := (blk_cell BK228.out 0).trans rfl; have hcz17_1 : w14.cell? ⟨gb228, 1, none⟩ = some (.int .i64 a1_1) := (blk_cell BK228.out 1).trans rfl; have hcz17_2 : w14.cell? ⟨gb228, 2, none⟩ = some (.string a1_2) := (blk_cell BK228.out 2).trans rfl; have hcz17_3 : w14.cell? ⟨gb228, 3, none⟩ = some (.int .u32 a1_3) := (blk_cell BK228.out 3).trans rfl; have hcz17_4 : w14.cell? ⟨gb228, 4, none⟩ = some (.bool a1_4) := (blk_cell BK228.out 4).trans rfl; have hfz17_0 := blk_frozen BK228.out 0; have hfz17_1 := blk_frozen BK228.out 1; have hfz17_2 := blk_frozen BK228.out 2; have hfz17_3 := blk_frozen BK228.out 3; have hfz17_4 := blk_frozen BK228.out 4) | ((with_reducible refine gate_callee (f := 23) rfl ?_); refine goesL_ (some 9) rfl rfl Tryd.func23 (by kernel_rfl) rfl #[.slice A0_0 l0_0.length c0_0, .slice A1_0 l1_0.length c1_0] rfl (by (try simp only [List.map_toArray, List.map_cons, List.map_nil]); first | done | rfl | (simp only [List.length_drop, List.length_take]; rfl)) ?_; (with_reducible refine (headgatekeep_Regs.calls k _ _ l0_0 _ _ l1_0 true _ ?side1 ?side2 ?side3 ?side4 A3.out).mono ?_); (case side1 => repeat (first | exact (Kd.C_below HR0_0.out HB.out) | (with_reducible refine Kd.C_alloc ?_ _) | (with_reducible refine Kd.C_drewN ?_ _) | (with_reducible refine Kd.C_drew ?_))); (case side2 => exact HC0_0.out); (case side3 => repeat (first | exact (Kd.C_below HR1_0.out HB.out) | (with_reducible refine Kd.C_alloc ?_ _) | (with_reducible refine Kd.C_drewN ?_ _) | (with_reducible refine Kd.C_drew ?_))); (case side4 => exact HC1_0.out); rintro e w' ⟨rfl, ⟨nd, rfl⟩⟩; refine ⟨_, rfl, ?_⟩))
  go_ret
  exact ⟨by first | rfl | (simp [errW_none, errW_some] <;> rfl) | (simp [*, errW_none, errW_some] <;> rfl) | (simp [bt, *]; done) | (unfold bt; simp [*]; done), by repeat (first | (with_reducible first | exact HB.out | apply below_alloc | apply pw_below_drewN | apply below_drew1 | refine below_set ?_ GE227.out | refine below_set ?_ GE228.out) | exact HB.out)⟩
 rw [if_pos c7] at H
 have c7b0 : (a0_3 == a1_3) = true := beq_iff_eq.mpr c7
 have c7b1 : (a0_3 != a1_3) = false := bne_eq_false_iff_eq.mpr c7
 clear c7
 obtain rfl := Option.some.inj H
 go_enter Tryd.func17, Tryd.ntmps17
 go_wp2_with (first | ((with_reducible refine gate_dst (N := 2) rfl ?_); refine box_event ?hg (N := 2) ?hd (cs := #[.slice A0_0 l0_0.length c0_0, .int .i64 a0_1, .string a0_2, .int .u32 a0_3, .bool a0_4]) (t := 27) ?hr ?_; (case hd => rfl); (case hg => rfl); (case hr => first | (go_simp; done) | (go_simp; rfl)); intro gb227 hg w8 hbox hb; have n0_ := Aside0.mk (below_step (hb_ HB) hb); have n1_ := Aside0.mk (hbox); have n2_ := Aside0.mk ((by rw [hg]; exact (below_size (hb_ HB)) : w.heap.size ≤ gb227)); have n3_ := Aside0.mk ((by rw [hg]; exact (below_size (hb_ HB)) : w.heap.size ≤ gb227)); clear HB; have HB := n0_; have BK227 := n1_; have GW227 := n2_; have GE227 := n3_; clear n0_ n1_ n2_ n3_; clear hb hbox hg) | ((with_reducible refine gate_dst (N := 3) rfl ?_); refine box_event ?hg (N := 3) ?hd (cs := #[.slice A1_0 l1_0.length c1_0, .int .i64 a1_1, .string a1_2, .int .u32 a1_3, .bool a1_4]) (t := 27) ?hr ?_; (case hd => rfl); (case hg => rfl); (case hr => first | (go_simp; done) | (go_simp; rfl)); intro gb228 hg w9 hbox hb; have n0_ := Aside0.mk (blk_below (bk_ BK227) hb); have n1_ := Aside0.mk (below_step (hb_ HB) hb); have n2_ := Aside0.mk (hbox); have n3_ := Aside0.mk ((by rw [hg]; exact (below_size (hb_ HB)) : w.heap.size ≤ gb228)); have n4_ := Aside0.mk ((by rw [hg]; exact (below_size (hb_ HB)) : w.heap.size ≤ gb228)); have n5_ := Aside0.mk ((by rw [hg]; exact Nat.ne_of_lt (blk_lt (g := gb227) (o := .cells #[.slice A0_0 l0_0.length c0_0, .int .i64 a0_1, .string a0_2, .int .u32 a0_3, .bool a0_4] 27 (0, 0)) (bk_ BK227)) : gb227 ≠ gb228)); have n6_ := Aside0.mk ((by rw [hg]; exact Nat.ne_of_gt (blk_lt (g := gb227) (o := .cells #[.slice A0_0 l0_0.length c0_0, .int .i64 a0_1, .string a0_2, .int .u32 a0_3, .bool a0_4] 27 (0, 0)) (bk_ BK227)) : gb228 ≠ gb227)); clear BK227; clear HB; have BK227 := n0_; have HB := n1_; have BK228 := n2_; have GW228 := n3_; have GE228 := n4_; have NB227_228 := n5_; have NB228_227 := n6_; clear n0_ n1_ n2_ n3_ n4_ n5_ n6_; clear hb hbox hg; have hnb10 := NB227_228.out; have hnc10 := NB228_227.out; have hcz11_0 : w9.cell? ⟨gb227, 0, none⟩ = some (.slice A0_0 l0_0.length c0_0) := (blk_cell BK227.out 0).trans rfl; have hcz11_1 : w9.cell? ⟨gb227, 1, none⟩ = some (.int .i64 a0_1) := (blk_cell BK227.out 1).trans rfl; have hcz11_2 : w9.cell? ⟨gb227, 2, none⟩ = some (.string a0_2) := (blk_cell BK227.out 2).trans rfl; have hcz11_3 : w9.cell? ⟨gb227, 3, none⟩ = some (.int .u32 a0_3) := (blk_cell BK227.out 3).trans rfl; have hcz11_4 : w9.cell? ⟨gb227, 4, none⟩ = some (.bool a0_4) := (blk_cell BK227.out 4).trans rfl; have hfz11_0 := blk_frozen BK227.out 0; have hfz11_1 := blk_frozen BK227.out 1; have hfz11_2 := blk_frozen BK227.out 2; have hfz11_3 := blk_frozen BK227.out 3; have hfz11_4 := blk_frozen BK227.out 4; have hcz12_0 : w9.cell? ⟨gb228, 0, none⟩ = some (.slice A1_0 l1_0.length c1_0) := (blk_cell BK228.out 0).trans rfl; have hcz12_1 : w9.cell? ⟨gb228, 1, none⟩ = some (.int .i64 a1_1) := (blk_cell BK228.out 1).trans rfl; have hcz12_2 : w9.cell? ⟨gb228, 2, none⟩ = some (.string a1_2) := (blk_cell BK228.out 2).trans rfl; have hcz12_3 : w9.cell? ⟨gb228, 3, none⟩ = some (.int .u32 a1_3) := (blk_cell BK228.out 3).trans rfl; have hcz12_4 : w9.cell? ⟨gb228, 4, none⟩ = some (.bool a1_4) := (blk_cell BK228.out 4).trans rfl; have hfz12_0 := blk_frozen BK228.out 0; have hfz12_1 := blk_frozen BK228.out 1; have hfz12_2 := blk_frozen BK228.out 2; have hfz12_3 := blk_frozen BK228.out 3; have hfz12_4 := blk_frozen BK228.out 4) | ((with_reducible refine gate_callee (f := 23) rfl ?_); refine goesL_ (some 9) rfl rfl Tryd.func23 (by kernel_rfl) rfl #[.slice A0_0 l0_0.length c0_0, .slice A1_0 l1_0.length c1_0] rfl (by (try simp only [List.map_toArray, List.map_cons, List.map_nil]); first | done | rfl | (simp only [List.length_drop, List.length_take]; rfl)) ?_; (with_reducible refine (headgatekeep_Regs.calls k _ _ l0_0 _ _ l1_0 true _ ?side1 ?side2 ?side3 ?side4 A3.out).mono ?_); (case side1 => repeat (first | exact (Kd.C_below HR0_0.out HB.out) | (with_reducible refine Kd.C_alloc ?_ _) | (with_reducible refine Kd.C_drewN ?_ _) | (with_reducible refine Kd.C_drew ?_))); (case side2 => exact HC0_0.out); (case side3 => repeat (first | exact (Kd.C_below HR1_0.out HB.out) | (with_reducible refine Kd.C_alloc ?_ _) | (with_reducible refine Kd.C_drewN ?_ _) | (with_reducible refine Kd.C_drew ?_))); (case side4 => exact HC1_0.out); rintro e w' ⟨rfl, ⟨nd, rfl⟩⟩; refine ⟨_, rfl, ?_⟩))
 go_ret
 exact ⟨by first | rfl | (simp [errW_none, errW_some] <;> rfl) | (simp [*, errW_none, errW_some] <;> rfl) | (simp [bt, *]; done) | (unfold bt; simp [*]; done), by repeat (first | (with_reducible first | exact HB.out | apply below_alloc | apply pw_below_drewN | apply below_drew1 | refine below_set ?_ GE227.out | refine below_set ?_ GE228.out) | exact HB.out)⟩
end Go.Proofs.YtjogkfcjlljjcaaDoor.P
namespace Go.Proofs.YtjogkfcjlljjcaaDoor.P
open Go.RowKit Go.Proofs.YtjogkfcjlljjcaaDoorW.PrintWords Go.Proofs.YtjogkfcjlljjcaaDoorW.PrintLast Go.Proofs.YtjogkfcjlljjcaaDoorW.PrintMore
attribute [local go_sem] max2_int min2_int max_two min_two max_three min_three max_four min_four   -- for this text's walks alone
set_option linter.unusedVariables false
set_option linter.unusedSimpArgs false
set_option linter.unnecessarySimpa false
def access_Reads.f (a0 : Int) : Option (Bool) := some (a0 == 2)
set_option maxHeartbeats 8000000 in
set_option maxRecDepth 100000 in
theorem access_Reads.calls (a0 : Int) (r : Bool) (w : World) (h : access_Reads.f a0 = some r) :
    Calls Tryd.prog 49 #[.int .i64 a0] w fun e w' => e = .returned (.bool r) ∧ Drawn0 w w' := by
  have H : (some (a0 == 2)) = some r := h
  clear h
  obtain rfl := Option.some.inj H
  go_enter Tryd.func49, Tryd.ntmps49
  go_wp2
  go_ret
  exact ⟨by first | rfl | (simp; done) | (simp [*]; done), by repeat (first | exact Drawn0.refl _ | apply Drawn0.step)⟩
def access_Changes.f (a0 : Int) : Option (Bool) := if a0 = 3 then (some true) else (if a0 = 5 then (some true) else (if a0 = 6 then (some true) else (if a0 = 7 then (some true) else (if a0 = 4 then (some true) else (some false)))))
set_option maxHeartbeats 8000000 in
set_option maxRecDepth 100000 in
theorem access_Changes.calls (a0 : Int) (r : Bool) (w : World) (h : access_Changes.f a0 = some r) :
    Calls Tryd.prog 50 #[.int .i64 a0] w fun e w' => e = .returned (.bool r) ∧ Drawn0 w w' := by
  have H : (if a0 = 3 then (some true) else (if a0 = 5 then (some true) else (if a0 = 6 then (some true) else (if a0 = 7 then (some true) else (if a0 = 4 then (some true) else (some false)))))) = some r := h
  clear h
  by_cases c2 : a0 = 3
  · rw [if_pos c2] at H
    have c2b0 : (a0 == 3) = true := beq_iff_eq.mpr c2
    have c2b1 : (a0 != 3) = false := bne_eq_false_iff_eq.mpr c2
    clear c2
    obtain rfl := Option.some.inj H
    go_enter Tryd.func50, Tryd.ntmps50
    go_wp2
    go_ret
    exact ⟨by first | rfl | (simp; done) | (simp [*]; done), by repeat (first | exact Drawn0.refl _ | apply Drawn0.step)⟩
  · rw [if_neg c2] at H
    have c2b0 : (a0 == 3) = false := beq_eq_false_iff_ne.mpr c2
    have c2b1 : (a0 != 3) = true := bne_iff_ne.mpr c2
    by_cases c3 : a0 = 5
    · rw [if_pos c3] at H
      have c3b0 : (a0 == 5) = true := beq_iff_eq.mpr c3
      have c3b1 : (a0 != 5) = false := bne_eq_false_iff_eq.mpr c3
      clear c3
      obtain rfl := Option.some.inj H
      go_enter Tryd.func50, Tryd.ntmps50
      go_wp2
      go_ret
      exact ⟨by first | rfl | (simp; done) | (simp [*]; done), by repeat (first | exact Drawn0.refl _ | apply Drawn0.step)⟩
    · rw [if_neg c3] at H
      have c3b0 : (a0 == 5) = false := beq_eq_false_iff_ne.mpr c3
      have c3b1 : (a0 != 5) = true := bne_iff_ne.mpr c3
      by_cases c4 : a0 = 6
      · rw [if_pos c4] at H
        have c4b0 : (a0 == 6) = true := beq_iff_eq.mpr c4
        have c4b1 : (a0 != 6) = false := bne_eq_false_iff_eq.mpr c4
        clear c4
        obtain rfl := Option.some.inj H
        go_enter Tryd.func50, Tryd.ntmps50
        go_wp2
        go_ret
        exact ⟨by first | rfl | (simp; done) | (simp [*]; done), by repeat (first | exact Drawn0.refl _ | apply Drawn0.step)⟩
      · rw [if_neg c4] at H
        have c4b0 : (a0 == 6) = false := beq_eq_false_iff_ne.mpr c4
        have c4b1 : (a0 != 6) = true := bne_iff_ne.mpr c4
        by_cases c5 : a0 = 7
        · rw [if_pos c5] at H
          have c5b0 : (a0 == 7) = true := beq_iff_eq.mpr c5
          have c5b1 : (a0 != 7) = false := bne_eq_false_iff_eq.mpr c5
          clear c5
          obtain rfl := Option.some.inj H
          go_enter Tryd.func50, Tryd.ntmps50
          go_wp2
          go_ret
          exact ⟨by first | rfl | (simp; done) | (simp [*]; done), by repeat (first | exact Drawn0.refl _ | apply Drawn0.step)⟩
        · rw [if_neg c5] at H
          have c5b0 : (a0 == 7) = false := beq_eq_false_iff_ne.mpr c5
          have c5b1 : (a0 != 7) = true := bne_iff_ne.mpr c5
          by_cases c6 : a0 = 4
          · rw [if_pos c6] at H
            have c6b0 : (a0 == 4) = true := beq_iff_eq.mpr c6
            have c6b1 : (a0 != 4) = false := bne_eq_false_iff_eq.mpr c6
            clear c6
            obtain rfl := Option.some.inj H
            go_enter Tryd.func50, Tryd.ntmps50
            go_wp2
            go_ret
            exact ⟨by first | rfl | (simp; done) | (simp [*]; done), by repeat (first | exact Drawn0.refl _ | apply Drawn0.step)⟩
          · rw [if_neg c6] at H
            have c6b0 : (a0 == 4) = false := beq_eq_false_iff_ne.mpr c6
            have c6b1 : (a0 != 4) = true := bne_iff_ne.mpr c6
            obtain rfl := Option.some.inj H
            go_enter Tryd.func50, Tryd.ntmps50
            go_wp2
            go_ret
            exact ⟨by first | rfl | (simp; done) | (simp [*]; done), by repeat (first | exact Drawn0.refl _ | apply Drawn0.step)⟩
def access_May.j0 : Nat → ByteArray → Int → Bool → List (S53) → Int → ByteArray → Int → Bool → Option (Bool)
 | 0, _, _, _, _, _, _, _, _ => none
 | k + 1, x1, x2, x27, x282000, x282001, x282002, x282003, x282004 => if x27 = true then (some true) else (if 0 ≤ x282001 then (if x282001 < 7 then ((access_Changes.f x2).bind fun t288 => (if t288 = true then (if (Go.bits .and .i64 (rd G_access_lets.tab x282001) 4) = 0 then (some false) else ((access_registered.f k x282000 x282001 x282002 x282003 x282004 x1).bind fun t289 => (some t289))) else (if (Go.bits .and .i64 (rd G_access_lets.tab x282001) 1) = 0 then (if (Go.bits .and .i64 (rd G_access_lets.tab x282001) 2) = 0 then (some false) else ((access_registered.f k x282000 x282001 x282002 x282003 x282004 x1).bind fun t290 => (some t290))) else (some true)))) else (none)) else (none))
def access_May.f (k : Nat) (l0_0 : List (S53)) (a0_1 : Int) (a0_2 : ByteArray) (a0_3 : Int) (a0_4 : Bool) (a1 : ByteArray) (a2 : Int) : Option (Bool) := (access_Type.f a0_1).bind fun t282 => (if t282 = true then ((access_Reads.f a2).bind fun t283 => (if t283 = true then ((access_Holds.f k l0_0 a0_1 a0_2 a0_3 a0_4 a1).bind fun t284 => (access_May.j0 k a1 a2 t284 l0_0 a0_1 a0_2 a0_3 a0_4)) else ((access_Changes.f a2).bind fun t285 => (if t285 = true then ((access_Holds.f k l0_0 a0_1 a0_2 a0_3 a0_4 a1).bind fun t286 => (access_May.j0 k a1 a2 t286 l0_0 a0_1 a0_2 a0_3 a0_4)) else (access_May.j0 k a1 a2 true l0_0 a0_1 a0_2 a0_3 a0_4))))) else (access_May.j0 k a1 a2 true l0_0 a0_1 a0_2 a0_3 a0_4))
theorem access_May.mono_l : ∀ k, (∀ y0 y1 y2 y3 y4 y5 y6 y7, LeO (access_May.j0 k y0 y1 y2 y3 y4 y5 y6 y7) (access_May.j0 (k + 1) y0 y1 y2 y3 y4 y5 y6 y7))
 | 0 => fun _ _ _ _ _ _ _ _ r h => by simp [access_May.j0] at h
 | k + 1 => by
  have ih0 := access_May.mono_l k
  ·intro y0 y1 y2 y3 y4 y5 y6 y7
   unfold access_May.j0
   repeat' first
   | (with_reducible exact ih0 _ _ _ _ _ _ _ _)
   | (with_reducible exact access_Holds.mono _ _ _ _ _ _ _)
   | (with_reducible exact access_registered.mono _ _ _ _ _ _ _)
   | (with_reducible exact LeO.refl _)
   | (with_reducible exact LeO.none _)
   | (with_reducible refine LeO.ite ?_ ?_)
   | (with_reducible refine LeO.bind ?_ (fun _ => ?_))
   | exact ih0 _ _ _ _ _ _ _ _
   | exact access_Holds.mono _ _ _ _ _ _ _
   | exact access_registered.mono _ _ _ _ _ _ _
   | exact LeO.none _
   | refine LeO.ite ?_ ?_
   | refine LeO.bind ?_ (fun _ => ?_)
theorem access_May.mono : ∀ a0 a1 a2 a3 a4 a5 a6 k, LeO (access_May.f k a0 a1 a2 a3 a4 a5 a6) (access_May.f (k + 1) a0 a1 a2 a3 a4 a5 a6) := by
 intro a0 a1 a2 a3 a4 a5 a6 k
 have ih0 := access_May.mono_l k
 unfold access_May.f
 repeat' first
   | (with_reducible exact ih0 _ _ _ _ _ _ _ _)
   | (with_reducible exact access_Holds.mono _ _ _ _ _ _ _)
   | (with_reducible exact access_registered.mono _ _ _ _ _ _ _)
   | (with_reducible exact LeO.refl _)
   | (with_reducible exact LeO.none _)
   | (with_reducible refine LeO.ite ?_ ?_)
   | (with_reducible refine LeO.bind ?_ (fun _ => ?_))
   | exact ih0 _ _ _ _ _ _ _ _
   | exact access_Holds.mono _ _ _ _ _ _ _
   | exact access_registered.mono _ _ _ _ _ _ _
   | exact LeO.none _
   | refine LeO.ite ?_ ?_
   | refine LeO.bind ?_ (fun _ => ?_)
set_option maxHeartbeats 8000000 in
set_option maxRecDepth 100000 in
theorem access_May.calls (k : Nat) (A0_0 : Option Addr) (c0_0 : Nat) (l0_0 : List (S53)) (a0_1 : Int) (a0_2 : ByteArray) (a0_3 : Int) (a0_4 : Bool) (a1 : ByteArray) (a2 : Int) (r : Bool) (w : World) (hr0_0 : Kd.C k53 w A0_0 l0_0.length l0_0) (hc0_0 : l0_0.length ≤ c0_0) (hG : Glob w) (h : access_May.f k l0_0 a0_1 a0_2 a0_3 a0_4 a1 a2 = some r) :
  Calls Tryd.prog 28 #[.agg #[.slice A0_0 l0_0.length c0_0, .int .i64 a0_1, .string a0_2, .int .u32 a0_3, .bool a0_4], .string a1, .int .i64 a2] w fun e w' => e = .returned (.bool r) ∧ Below w.heap.size w w' := by
 have hu27 := Tryd.underlying27
 have HRgl0 := Aside0.mk (G_access_lets.reads (Glob.access_lets hG))
 have HG := Aside0.mk hG
 clear hG
 have HR0_0 := Aside0.mk hr0_0
 have HC0_0 := Aside0.mk hc0_0
 clear hr0_0 hc0_0
 have HB := Aside0.mk (Below.refl w.heap.size w)
 have H : ((access_Type.f a0_1).bind fun t282 => (if t282 = true then ((access_Reads.f a2).bind fun t283 => (if t283 = true then ((access_Holds.f k l0_0 a0_1 a0_2 a0_3 a0_4 a1).bind fun t284 => (access_May.j0 k a1 a2 t284 l0_0 a0_1 a0_2 a0_3 a0_4)) else ((access_Changes.f a2).bind fun t285 => (if t285 = true then ((access_Holds.f k l0_0 a0_1 a0_2 a0_3 a0_4 a1).bind fun t286 => (access_May.j0 k a1 a2 t286 l0_0 a0_1 a0_2 a0_3 a0_4)) else (access_May.j0 k a1 a2 true l0_0 a0_1 a0_2 a0_3 a0_4))))) else (access_May.j0 k a1 a2 true l0_0 a0_1 a0_2 a0_3 a0_4))) = some r := h
 clear h
 have HC4 := Aside0.mk H
 clear H
 go_enter Tryd.func28, Tryd.ntmps28
 go_upto_region 1 with (first | ((with_reducible refine gate_dst (N := 3) rfl ?_); refine box_event ?hg (N := 3) ?hd (cs := #[.slice A0_0 l0_0.length c0_0, .int .i64 a0_1, .string a0_2, .int .u32 a0_3, .bool a0_4]) (t := 27) ?hr ?_; (case hd => rfl); (case hg => rfl); (case hr => first | (go_simp; done) | (go_simp; rfl)); intro gb281 hg w5 hbox hb; have n0_ := Aside0.mk (below_step (hb_ HB) hb); have n1_ := Aside0.mk (hbox); have n2_ := Aside0.mk ((by rw [hg]; exact (below_size (hb_ HB)) : w.heap.size ≤ gb281)); have n3_ := Aside0.mk ((by rw [hg]; exact (below_size (hb_ HB)) : w.heap.size ≤ gb281)); clear HB; have HB := n0_; have BK281 := n1_; have GW281 := n2_; have GE281 := n3_; clear n0_ n1_ n2_ n3_; clear hb hbox hg))
 (try simp only [Act.put, la_, lb_, lc_])
 go_cut [27] (fun v27 wc => ∃ (kq : Nat) (x27_3 : Bool), v27 = .bool x27_3 ∧ Aside0 (access_May.j0 kq a1 a2 x27_3 l0_0 a0_1 a0_2 a0_3 a0_4 = some r) ∧ Aside0 (kq ≤ k) ∧ Aside0 (wc.heap[gb281]? = some (.cells #[(.slice A0_0 l0_0.length c0_0), .int .i64 a0_1, .string a0_2, .int .u32 a0_3, .bool a0_4] 27 (0, 0))) ∧ Aside0 (Below w.heap.size w wc))
 case first =>
  have H := HC4.out
  clear HC4
  replace H := Option.bind_eq_some_iff.mp H
  obtain ⟨t282, A60, H⟩ := H
  try dsimp only at H
  have A6 := Aside0.mk A60
  clear A60
  refine neg_first (p := (t282 = true)) (fun c7 => ?_) (fun c7 => ?_)
  ·replace c7 := Bool.eq_false_iff.mpr c7
   subst c7
   have H1 := H
   rw [if_neg (show ¬ (false = true) by decide)] at H1
   clear H
   have H := H1
   clear H1
   have H' := Aside0.mk H
   clear H
   have hcz19_0 : w5.cell? ⟨gb281, 0, none⟩ = some (.slice A0_0 l0_0.length c0_0) := (blk_cell BK281.out 0).trans rfl
   have hcz19_1 : w5.cell? ⟨gb281, 1, none⟩ = some (.int .i64 a0_1) := (blk_cell BK281.out 1).trans rfl
   have hcz19_2 : w5.cell? ⟨gb281, 2, none⟩ = some (.string a0_2) := (blk_cell BK281.out 2).trans rfl
   have hcz19_3 : w5.cell? ⟨gb281, 3, none⟩ = some (.int .u32 a0_3) := (blk_cell BK281.out 3).trans rfl
   have hcz19_4 : w5.cell? ⟨gb281, 4, none⟩ = some (.bool a0_4) := (blk_cell BK281.out 4).trans rfl
   have hfz19_0 := blk_frozen BK281.out 0
   have hfz19_1 := blk_frozen BK281.out 1
   have hfz19_2 := blk_frozen BK281.out 2
   have hfz19_3 := blk_frozen BK281.out 3
   have hfz19_4 := blk_frozen BK281.out 4
   go_wp2_with (first | ((with_reducible refine gate_callee (f := 45) rfl ?_); refine goesL_ (some 11) rfl rfl Tryd.func45 (by kernel_rfl) rfl #[.int .i64 a0_1] rfl (by (try simp only [List.map_toArray, List.map_cons, List.map_nil]); first | done | rfl | (simp only [List.length_drop, List.length_take]; rfl)) ?_; (with_reducible refine (access_Type.calls a0_1 false _ A6.out).mono ?_); rintro e w' ⟨rfl, ⟨nd, rfl⟩⟩; refine ⟨_, rfl, ?_⟩))
   go_meet
   case rel => exact ⟨_, (true), (by first | rfl | (simp; done) | (simp [*]; done)), H', ⟨by first | omega | exact Nat.le_refl _⟩, ⟨bk_ BK281⟩, ⟨hb_ HB⟩⟩
  subst c7
  have H1 := H
  rw [if_pos rfl] at H1
  clear H
  have H := H1
  clear H1
  replace H := Option.bind_eq_some_iff.mp H
  obtain ⟨t283, A80, H⟩ := H
  try dsimp only at H
  have A8 := Aside0.mk A80
  clear A80
  by_cases c9 : t283 = true
  ·subst c9
   have H1 := H
   rw [if_pos rfl] at H1
   clear H
   have H := H1
   clear H1
   replace H := Option.bind_eq_some_iff.mp H
   obtain ⟨t284, A100, H⟩ := H
   try dsimp only at H
   have A10 := Aside0.mk A100
   clear A100
   have H' := Aside0.mk H
   clear H
   have hcz11_0 : w5.cell? ⟨gb281, 0, none⟩ = some (.slice A0_0 l0_0.length c0_0) := (blk_cell BK281.out 0).trans rfl
   have hcz11_1 : w5.cell? ⟨gb281, 1, none⟩ = some (.int .i64 a0_1) := (blk_cell BK281.out 1).trans rfl
   have hcz11_2 : w5.cell? ⟨gb281, 2, none⟩ = some (.string a0_2) := (blk_cell BK281.out 2).trans rfl
   have hcz11_3 : w5.cell? ⟨gb281, 3, none⟩ = some (.int .u32 a0_3) := (blk_cell BK281.out 3).trans rfl
   have hcz11_4 : w5.cell? ⟨gb281, 4, none⟩ = some (.bool a0_4) := (blk_cell BK281.out 4).trans rfl
   have hfz11_0 := blk_frozen BK281.out 0
   have hfz11_1 := blk_frozen BK281.out 1
   have hfz11_2 := blk_frozen BK281.out 2
   have hfz11_3 := blk_frozen BK281.out 3
   have hfz11_4 := blk_frozen BK281.out 4
   go_wp2_with (first | ((with_reducible refine gate_callee (f := 45) rfl ?_); refine goesL_ (some 11) rfl rfl Tryd.func45 (by kernel_rfl) rfl #[.int .i64 a0_1] rfl (by (try simp only [List.map_toArray, List.map_cons, List.map_nil]); first | done | rfl | (simp only [List.length_drop, List.length_take]; rfl)) ?_; (with_reducible refine (access_Type.calls a0_1 true _ A6.out).mono ?_); rintro e w' ⟨rfl, ⟨nd, rfl⟩⟩; refine ⟨_, rfl, ?_⟩) | (go_at_call 49; (with_reducible refine (access_Reads.calls a2 true _ A8.out).mono ?_); rintro e w' ⟨rfl, ⟨nd, rfl⟩⟩) | (go_at_call 29; (with_reducible refine (access_Holds.calls k _ _ l0_0 a0_1 a0_2 a0_3 a0_4 a1 t284 _ ?side1 ?side2 ?side3 A10.out).mono ?_); (case side1 => repeat (first | exact (Kd.C_below HR0_0.out (hb_ HB)) | (with_reducible refine Kd.C_alloc ?_ _) | (with_reducible refine Kd.C_drewN ?_ _) | (with_reducible refine Kd.C_drew ?_))); (case side2 => exact HC0_0.out); (case side3 => first | ((refine Glob.keep HG.out ?_); (repeat (first | (with_reducible first | exact HB.out | apply below_alloc | apply pw_below_drewN | apply below_drew1 | refine below_set ?_ GE281.out) | exact HB.out)); done) | exact HG.out); rintro e w12 ⟨rfl, hb⟩; have n0_ := Aside0.mk (blk_below (bk_ BK281) hb); have n1_ := Aside0.mk (below_step (hb_ HB) hb); clear BK281; clear HB; have BK281 := n0_; have HB := n1_; clear n0_ n1_; (try clear hb); (try clear hb2); (try clear hk); (try clear hi)))
   go_meet
   case rel => exact ⟨_, (t284), (by first | rfl | (simp; done) | (simp [*]; done)), H', ⟨by first | omega | exact Nat.le_refl _⟩, ⟨bk_ BK281⟩, ⟨hb_ HB⟩⟩
  replace c9 := Bool.eq_false_iff.mpr c9
  subst c9
  have H1 := H
  rw [if_neg (show ¬ (false = true) by decide)] at H1
  clear H
  have H := H1
  clear H1
  replace H := Option.bind_eq_some_iff.mp H
  obtain ⟨t285, A130, H⟩ := H
  try dsimp only at H
  have A13 := Aside0.mk A130
  clear A130
  refine neg_first (p := (t285 = true)) (fun c14 => ?_) (fun c14 => ?_)
  ·replace c14 := Bool.eq_false_iff.mpr c14
   subst c14
   have H1 := H
   rw [if_neg (show ¬ (false = true) by decide)] at H1
   clear H
   have H := H1
   clear H1
   have H' := Aside0.mk H
   clear H
   have hcz18_0 : w5.cell? ⟨gb281, 0, none⟩ = some (.slice A0_0 l0_0.length c0_0) := (blk_cell BK281.out 0).trans rfl
   have hcz18_1 : w5.cell? ⟨gb281, 1, none⟩ = some (.int .i64 a0_1) := (blk_cell BK281.out 1).trans rfl
   have hcz18_2 : w5.cell? ⟨gb281, 2, none⟩ = some (.string a0_2) := (blk_cell BK281.out 2).trans rfl
   have hcz18_3 : w5.cell? ⟨gb281, 3, none⟩ = some (.int .u32 a0_3) := (blk_cell BK281.out 3).trans rfl
   have hcz18_4 : w5.cell? ⟨gb281, 4, none⟩ = some (.bool a0_4) := (blk_cell BK281.out 4).trans rfl
   have hfz18_0 := blk_frozen BK281.out 0
   have hfz18_1 := blk_frozen BK281.out 1
   have hfz18_2 := blk_frozen BK281.out 2
   have hfz18_3 := blk_frozen BK281.out 3
   have hfz18_4 := blk_frozen BK281.out 4
   go_wp2_with (first | ((with_reducible refine gate_callee (f := 45) rfl ?_); refine goesL_ (some 11) rfl rfl Tryd.func45 (by kernel_rfl) rfl #[.int .i64 a0_1] rfl (by (try simp only [List.map_toArray, List.map_cons, List.map_nil]); first | done | rfl | (simp only [List.length_drop, List.length_take]; rfl)) ?_; (with_reducible refine (access_Type.calls a0_1 true _ A6.out).mono ?_); rintro e w' ⟨rfl, ⟨nd, rfl⟩⟩; refine ⟨_, rfl, ?_⟩) | (go_at_call 49; (with_reducible refine (access_Reads.calls a2 false _ A8.out).mono ?_); rintro e w' ⟨rfl, ⟨nd, rfl⟩⟩) | (go_at_call 50; (with_reducible refine (access_Changes.calls a2 false _ A13.out).mono ?_); rintro e w' ⟨rfl, ⟨nd, rfl⟩⟩))
   go_meet
   case rel => exact ⟨_, (true), (by first | rfl | (simp; done) | (simp [*]; done)), H', ⟨by first | omega | exact Nat.le_refl _⟩, ⟨bk_ BK281⟩, ⟨hb_ HB⟩⟩
  subst c14
  have H1 := H
  rw [if_pos rfl] at H1
  clear H
  have H := H1
  clear H1
  replace H := Option.bind_eq_some_iff.mp H
  obtain ⟨t286, A150, H⟩ := H
  try dsimp only at H
  have A15 := Aside0.mk A150
  clear A150
  have H' := Aside0.mk H
  clear H
  have hcz16_0 : w5.cell? ⟨gb281, 0, none⟩ = some (.slice A0_0 l0_0.length c0_0) := (blk_cell BK281.out 0).trans rfl
  have hcz16_1 : w5.cell? ⟨gb281, 1, none⟩ = some (.int .i64 a0_1) := (blk_cell BK281.out 1).trans rfl
  have hcz16_2 : w5.cell? ⟨gb281, 2, none⟩ = some (.string a0_2) := (blk_cell BK281.out 2).trans rfl
  have hcz16_3 : w5.cell? ⟨gb281, 3, none⟩ = some (.int .u32 a0_3) := (blk_cell BK281.out 3).trans rfl
  have hcz16_4 : w5.cell? ⟨gb281, 4, none⟩ = some (.bool a0_4) := (blk_cell BK281.out 4).trans rfl
  have hfz16_0 := blk_frozen BK281.out 0
  have hfz16_1 := blk_frozen BK281.out 1
  have hfz16_2 := blk_frozen BK281.out 2
  have hfz16_3 := blk_frozen BK281.out 3
  have hfz16_4 := blk_frozen BK281.out 4
  go_wp2_with (first | ((with_reducible refine gate_callee (f := 45) rfl ?_); refine goesL_ (some 11) rfl rfl Tryd.func45 (by kernel_rfl) rfl #[.int .i64 a0_1] rfl (by (try simp only [List.map_toArray, List.map_cons, List.map_nil]); first | done | rfl | (simp only [List.length_drop, List.length_take]; rfl)) ?_; (with_reducible refine (access_Type.calls a0_1 true _ A6.out).mono ?_); rintro e w' ⟨rfl, ⟨nd, rfl⟩⟩; refine ⟨_, rfl, ?_⟩) | (go_at_call 49; (with_reducible refine (access_Reads.calls a2 false _ A8.out).mono ?_); rintro e w' ⟨rfl, ⟨nd, rfl⟩⟩) | (go_at_call 50; (with_reducible refine (access_Changes.calls a2 true _ A13.out).mono ?_); rintro e w' ⟨rfl, ⟨nd, rfl⟩⟩) | (go_at_call 29; (with_reducible refine (access_Holds.calls k _ _ l0_0 a0_1 a0_2 a0_3 a0_4 a1 t286 _ ?side1 ?side2 ?side3 A15.out).mono ?_); (case side1 => repeat (first | exact (Kd.C_below HR0_0.out (hb_ HB)) | (with_reducible refine Kd.C_alloc ?_ _) | (with_reducible refine Kd.C_drewN ?_ _) | (with_reducible refine Kd.C_drew ?_))); (case side2 => exact HC0_0.out); (case side3 => first | ((refine Glob.keep HG.out ?_); (repeat (first | (with_reducible first | exact HB.out | apply below_alloc | apply pw_below_drewN | apply below_drew1 | refine below_set ?_ GE281.out) | exact HB.out)); done) | exact HG.out); rintro e w17 ⟨rfl, hb⟩; have n0_ := Aside0.mk (blk_below (bk_ BK281) hb); have n1_ := Aside0.mk (below_step (hb_ HB) hb); clear BK281; clear HB; have BK281 := n0_; have HB := n1_; clear n0_ n1_; (try clear hb); (try clear hb2); (try clear hk); (try clear hi)))
  go_meet
  case rel => exact ⟨_, (t286), (by first | rfl | (simp; done) | (simp [*]; done)), H', ⟨by first | omega | exact Nat.le_refl _⟩, ⟨bk_ BK281⟩, ⟨hb_ HB⟩⟩
 case rest =>
  clear HC4
  try clear c1
  try clear c2
  try clear p2
  try clear c4
  try clear c7
  try clear c9
  try clear c14
  try clear hcz11_0
  try clear hcz11_1
  try clear hcz11_2
  try clear hcz11_3
  try clear hcz11_4
  try clear hcz16_0
  try clear hcz16_1
  try clear hcz16_2
  try clear hcz16_3
  try clear hcz16_4
  try clear hcz18_0
  try clear hcz18_1
  try clear hcz18_2
  try clear hcz18_3
  try clear hcz18_4
  try clear hcz19_0
  try clear hcz19_1
  try clear hcz19_2
  try clear hcz19_3
  try clear hcz19_4
  try clear hfz11_0
  try clear hfz11_1
  try clear hfz11_2
  try clear hfz11_3
  try clear hfz11_4
  try clear hfz16_0
  try clear hfz16_1
  try clear hfz16_2
  try clear hfz16_3
  try clear hfz16_4
  try clear hfz18_0
  try clear hfz18_1
  try clear hfz18_2
  try clear hfz18_3
  try clear hfz18_4
  try clear hfz19_0
  try clear hfz19_1
  try clear hfz19_2
  try clear hfz19_3
  try clear hfz19_4
  obtain ⟨kq, x27_3, rfl, HA, HJ3, BK281, HB⟩ := hcut
  cases kq with
  | zero => exact absurd HA.out (by simp [access_May.j0])
  | succ kj3 =>
   have H := HA.out
   clear HA
   simp only [access_May.j0] at H
   by_cases c20 : x27_3 = true
   ·subst c20
    have H1 := H
    rw [if_pos rfl] at H1
    clear H
    have H := H1
    clear H1
    obtain rfl := Option.some.inj H
    go_wp2
    go_ret
    exact ⟨by first | rfl | (simp [errW_none, errW_some] <;> rfl) | (simp [*, errW_none, errW_some] <;> rfl) | (simp [bt, *]; done) | (unfold bt; simp [*]; done), by repeat (first | (with_reducible first | exact HB.out | apply below_alloc | apply pw_below_drewN | apply below_drew1 | refine below_set ?_ GE281.out) | exact HB.out)⟩
   replace c20 := Bool.eq_false_iff.mpr c20
   subst c20
   have H1 := H
   rw [if_neg (show ¬ (false = true) by decide)] at H1
   clear H
   have H := H1
   clear H1
   refine neg_first (p := (0 ≤ a0_1)) (fun c21 => ?_) (fun c21 => ?_)
   ·rw [if_neg c21] at H
    exact absurd H (by simp)
   rw [if_pos c21] at H
   have c21b0 : decide (0 ≤ a0_1) = true := decide_eq_true c21
   clear c21
   refine neg_first (p := (a0_1 < 7)) (fun c22 => ?_) (fun c22 => ?_)
   ·rw [if_neg c22] at H
    exact absurd H (by simp)
   rw [if_pos c22] at H
   have c22b0 : decide (a0_1 < 7) = true := decide_eq_true c22
   clear c22
   replace H := Option.bind_eq_some_iff.mp H
   obtain ⟨t288, A230, H⟩ := H
   try dsimp only at H
   have A23 := Aside0.mk A230
   clear A230
   by_cases c24 : t288 = true
   ·subst c24
    have H1 := H
    rw [if_pos rfl] at H1
    clear H
    have H := H1
    clear H1
    by_cases c25 : (Go.bits .and .i64 (rd G_access_lets.tab a0_1) 4) = 0
    ·rw [if_pos c25] at H
     have c25b0 : ((Go.bits .and .i64 (rd G_access_lets.tab a0_1) 4) == 0) = true := beq_iff_eq.mpr c25
     have c25b1 : ((Go.bits .and .i64 (rd G_access_lets.tab a0_1) 4) != 0) = false := bne_eq_false_iff_eq.mpr c25
     clear c25
     obtain rfl := Option.some.inj H
     have hcz26_0 : wc.cell? ⟨gb281, 0, none⟩ = some (.slice A0_0 l0_0.length c0_0) := (blk_cell BK281.out 0).trans rfl
     have hcz26_1 : wc.cell? ⟨gb281, 1, none⟩ = some (.int .i64 a0_1) := (blk_cell BK281.out 1).trans rfl
     have hcz26_2 : wc.cell? ⟨gb281, 2, none⟩ = some (.string a0_2) := (blk_cell BK281.out 2).trans rfl
     have hcz26_3 : wc.cell? ⟨gb281, 3, none⟩ = some (.int .u32 a0_3) := (blk_cell BK281.out 3).trans rfl
     have hcz26_4 : wc.cell? ⟨gb281, 4, none⟩ = some (.bool a0_4) := (blk_cell BK281.out 4).trans rfl
     have hfz26_0 := blk_frozen BK281.out 0
     have hfz26_1 := blk_frozen BK281.out 1
     have hfz26_2 := blk_frozen BK281.out 2
     have hfz26_3 := blk_frozen BK281.out 3
     have hfz26_4 := blk_frozen BK281.out 4
     have p287 : 0 ≤ (a0_1 : Int) := of_decide_eq_true (by first | (with_reducible assumption) | assumption)
     have q287 : a0_1 < (G_access_lets.tab.length : Int) := of_decide_eq_true (by first | (with_reducible assumption) | assumption)
     have qg287 : (a0_1 < (7 : Int)) = True := eq_true q287
     obtain ⟨ad287, e287, hx287_0⟩ := Kd.at_int HRgl0.out a0_1 p287 q287
     obtain rfl : (⟨0, 0, none⟩ : Addr) = ad287 := (by injection e287)
     (first | simp only [add_plain] at hx287_0 | simp only [add_at] at hx287_0 | simp only [Addr.add, Nat.zero_add] at hx287_0 | skip)
     replace hx287_0 := (HB.out.cell (World.block_lt_of_cell? w _ hx287_0)).trans hx287_0
     replace p287 := eq_true p287
     replace q287 := eq_true q287
     go_wp2_with (first | ((with_reducible refine gate_callee (f := 50) rfl ?_); refine goesL_ (some 34) rfl rfl Tryd.func50 (by kernel_rfl) rfl #[.int .i64 a2] rfl (by (try simp only [List.map_toArray, List.map_cons, List.map_nil]); first | done | rfl | (simp only [List.length_drop, List.length_take]; rfl)) ?_; (with_reducible refine (access_Changes.calls a2 true _ A23.out).mono ?_); rintro e w' ⟨rfl, ⟨nd, rfl⟩⟩; refine ⟨_, rfl, ?_⟩))
     go_ret
     exact ⟨by first | rfl | (simp [errW_none, errW_some] <;> rfl) | (simp [*, errW_none, errW_some] <;> rfl) | (simp [bt, *]; done) | (unfold bt; simp [*]; done), by repeat (first | (with_reducible first | exact HB.out | apply below_alloc | apply pw_below_drewN | apply below_drew1 | refine below_set ?_ GE281.out) | exact HB.out)⟩
    rw [if_neg c25] at H
    have c25b0 : ((Go.bits .and .i64 (rd G_access_lets.tab a0_1) 4) == 0) = false := beq_eq_false_iff_ne.mpr c25
    have c25b1 : ((Go.bits .and .i64 (rd G_access_lets.tab a0_1) 4) != 0) = true := bne_iff_ne.mpr c25
    replace H := Option.bind_eq_some_iff.mp H
    obtain ⟨t289, A270, H⟩ := H
    try dsimp only at H
    have A27 := Aside0.mk A270
    clear A270
    obtain rfl := Option.some.inj H
    have hcz28_0 : wc.cell? ⟨gb281, 0, none⟩ = some (.slice A0_0 l0_0.length c0_0) := (blk_cell BK281.out 0).trans rfl
    have hcz28_1 : wc.cell? ⟨gb281, 1, none⟩ = some (.int .i64 a0_1) := (blk_cell BK281.out 1).trans rfl
    have hcz28_2 : wc.cell? ⟨gb281, 2, none⟩ = some (.string a0_2) := (blk_cell BK281.out 2).trans rfl
    have hcz28_3 : wc.cell? ⟨gb281, 3, none⟩ = some (.int .u32 a0_3) := (blk_cell BK281.out 3).trans rfl
    have hcz28_4 : wc.cell? ⟨gb281, 4, none⟩ = some (.bool a0_4) := (blk_cell BK281.out 4).trans rfl
    have hfz28_0 := blk_frozen BK281.out 0
    have hfz28_1 := blk_frozen BK281.out 1
    have hfz28_2 := blk_frozen BK281.out 2
    have hfz28_3 := blk_frozen BK281.out 3
    have hfz28_4 := blk_frozen BK281.out 4
    have p287 : 0 ≤ (a0_1 : Int) := of_decide_eq_true (by first | (with_reducible assumption) | assumption)
    have q287 : a0_1 < (G_access_lets.tab.length : Int) := of_decide_eq_true (by first | (with_reducible assumption) | assumption)
    have qg287 : (a0_1 < (7 : Int)) = True := eq_true q287
    obtain ⟨ad287, e287, hx287_0⟩ := Kd.at_int HRgl0.out a0_1 p287 q287
    obtain rfl : (⟨0, 0, none⟩ : Addr) = ad287 := (by injection e287)
    (first | simp only [add_plain] at hx287_0 | simp only [add_at] at hx287_0 | simp only [Addr.add, Nat.zero_add] at hx287_0 | skip)
    replace hx287_0 := (HB.out.cell (World.block_lt_of_cell? w _ hx287_0)).trans hx287_0
    replace p287 := eq_true p287
    replace q287 := eq_true q287
    go_wp2_with (first | ((with_reducible refine gate_callee (f := 50) rfl ?_); refine goesL_ (some 34) rfl rfl Tryd.func50 (by kernel_rfl) rfl #[.int .i64 a2] rfl (by (try simp only [List.map_toArray, List.map_cons, List.map_nil]); first | done | rfl | (simp only [List.length_drop, List.length_take]; rfl)) ?_; (with_reducible refine (access_Changes.calls a2 true _ A23.out).mono ?_); rintro e w' ⟨rfl, ⟨nd, rfl⟩⟩; refine ⟨_, rfl, ?_⟩) | (go_at_call 51; (with_reducible refine (access_registered.calls kj3 _ _ l0_0 a0_1 a0_2 a0_3 a0_4 a1 t289 _ ?side1 ?side2 A27.out).mono ?_); (case side1 => repeat (first | exact (Kd.C_below HR0_0.out (hb_ HB)) | (with_reducible refine Kd.C_alloc ?_ _) | (with_reducible refine Kd.C_drewN ?_ _) | (with_reducible refine Kd.C_drew ?_))); (case side2 => exact HC0_0.out); rintro e w29 ⟨rfl, hb⟩; have n0_ := Aside0.mk (blk_below (bk_ BK281) hb); have n1_ := Aside0.mk (below_step (hb_ HB) hb); clear BK281; clear HB; have BK281 := n0_; have HB := n1_; clear n0_ n1_; (try clear hb); (try clear hb2); (try clear hk); (try clear hi)))
    go_ret
    exact ⟨by first | rfl | (simp [errW_none, errW_some] <;> rfl) | (simp [*, errW_none, errW_some] <;> rfl) | (simp [bt, *]; done) | (unfold bt; simp [*]; done), by repeat (first | (with_reducible first | exact HB.out | apply below_alloc | apply pw_below_drewN | apply below_drew1 | refine below_set ?_ GE281.out) | exact HB.out)⟩
   replace c24 := Bool.eq_false_iff.mpr c24
   subst c24
   have H1 := H
   rw [if_neg (show ¬ (false = true) by decide)] at H1
   clear H
   have H := H1
   clear H1
   refine neg_first (p := ((Go.bits .and .i64 (rd G_access_lets.tab a0_1) 1) = 0)) (fun c30 => ?_) (fun c30 => ?_)
   ·rw [if_neg c30] at H
    have c30b0 : ((Go.bits .and .i64 (rd G_access_lets.tab a0_1) 1) == 0) = false := beq_eq_false_iff_ne.mpr c30
    have c30b1 : ((Go.bits .and .i64 (rd G_access_lets.tab a0_1) 1) != 0) = true := bne_iff_ne.mpr c30
    obtain rfl := Option.some.inj H
    have hcz36_0 : wc.cell? ⟨gb281, 0, none⟩ = some (.slice A0_0 l0_0.length c0_0) := (blk_cell BK281.out 0).trans rfl
    have hcz36_1 : wc.cell? ⟨gb281, 1, none⟩ = some (.int .i64 a0_1) := (blk_cell BK281.out 1).trans rfl
    have hcz36_2 : wc.cell? ⟨gb281, 2, none⟩ = some (.string a0_2) := (blk_cell BK281.out 2).trans rfl
    have hcz36_3 : wc.cell? ⟨gb281, 3, none⟩ = some (.int .u32 a0_3) := (blk_cell BK281.out 3).trans rfl
    have hcz36_4 : wc.cell? ⟨gb281, 4, none⟩ = some (.bool a0_4) := (blk_cell BK281.out 4).trans rfl
    have hfz36_0 := blk_frozen BK281.out 0
    have hfz36_1 := blk_frozen BK281.out 1
    have hfz36_2 := blk_frozen BK281.out 2
    have hfz36_3 := blk_frozen BK281.out 3
    have hfz36_4 := blk_frozen BK281.out 4
    have p287 : 0 ≤ (a0_1 : Int) := of_decide_eq_true (by first | (with_reducible assumption) | assumption)
    have q287 : a0_1 < (G_access_lets.tab.length : Int) := of_decide_eq_true (by first | (with_reducible assumption) | assumption)
    have qg287 : (a0_1 < (7 : Int)) = True := eq_true q287
    obtain ⟨ad287, e287, hx287_0⟩ := Kd.at_int HRgl0.out a0_1 p287 q287
    obtain rfl : (⟨0, 0, none⟩ : Addr) = ad287 := (by injection e287)
    (first | simp only [add_plain] at hx287_0 | simp only [add_at] at hx287_0 | simp only [Addr.add, Nat.zero_add] at hx287_0 | skip)
    replace hx287_0 := (HB.out.cell (World.block_lt_of_cell? w _ hx287_0)).trans hx287_0
    replace p287 := eq_true p287
    replace q287 := eq_true q287
    go_wp2_with (first | ((with_reducible refine gate_callee (f := 50) rfl ?_); refine goesL_ (some 34) rfl rfl Tryd.func50 (by kernel_rfl) rfl #[.int .i64 a2] rfl (by (try simp only [List.map_toArray, List.map_cons, List.map_nil]); first | done | rfl | (simp only [List.length_drop, List.length_take]; rfl)) ?_; (with_reducible refine (access_Changes.calls a2 false _ A23.out).mono ?_); rintro e w' ⟨rfl, ⟨nd, rfl⟩⟩; refine ⟨_, rfl, ?_⟩))
    go_ret
    exact ⟨by first | rfl | (simp [errW_none, errW_some] <;> rfl) | (simp [*, errW_none, errW_some] <;> rfl) | (simp [bt, *]; done) | (unfold bt; simp [*]; done), by repeat (first | (with_reducible first | exact HB.out | apply below_alloc | apply pw_below_drewN | apply below_drew1 | refine below_set ?_ GE281.out) | exact HB.out)⟩
   rw [if_pos c30] at H
   have c30b0 : ((Go.bits .and .i64 (rd G_access_lets.tab a0_1) 1) == 0) = true := beq_iff_eq.mpr c30
   have c30b1 : ((Go.bits .and .i64 (rd G_access_lets.tab a0_1) 1) != 0) = false := bne_eq_false_iff_eq.mpr c30
   clear c30
   by_cases c31 : (Go.bits .and .i64 (rd G_access_lets.tab a0_1) 2) = 0
   ·rw [if_pos c31] at H
    have c31b0 : ((Go.bits .and .i64 (rd G_access_lets.tab a0_1) 2) == 0) = true := beq_iff_eq.mpr c31
    have c31b1 : ((Go.bits .and .i64 (rd G_access_lets.tab a0_1) 2) != 0) = false := bne_eq_false_iff_eq.mpr c31
    clear c31
    obtain rfl := Option.some.inj H
    have hcz32_0 : wc.cell? ⟨gb281, 0, none⟩ = some (.slice A0_0 l0_0.length c0_0) := (blk_cell BK281.out 0).trans rfl
    have hcz32_1 : wc.cell? ⟨gb281, 1, none⟩ = some (.int .i64 a0_1) := (blk_cell BK281.out 1).trans rfl
    have hcz32_2 : wc.cell? ⟨gb281, 2, none⟩ = some (.string a0_2) := (blk_cell BK281.out 2).trans rfl
    have hcz32_3 : wc.cell? ⟨gb281, 3, none⟩ = some (.int .u32 a0_3) := (blk_cell BK281.out 3).trans rfl
    have hcz32_4 : wc.cell? ⟨gb281, 4, none⟩ = some (.bool a0_4) := (blk_cell BK281.out 4).trans rfl
    have hfz32_0 := blk_frozen BK281.out 0
    have hfz32_1 := blk_frozen BK281.out 1
    have hfz32_2 := blk_frozen BK281.out 2
    have hfz32_3 := blk_frozen BK281.out 3
    have hfz32_4 := blk_frozen BK281.out 4
    have p287 : 0 ≤ (a0_1 : Int) := of_decide_eq_true (by first | (with_reducible assumption) | assumption)
    have q287 : a0_1 < (G_access_lets.tab.length : Int) := of_decide_eq_true (by first | (with_reducible assumption) | assumption)
    have qg287 : (a0_1 < (7 : Int)) = True := eq_true q287
    obtain ⟨ad287, e287, hx287_0⟩ := Kd.at_int HRgl0.out a0_1 p287 q287
    obtain rfl : (⟨0, 0, none⟩ : Addr) = ad287 := (by injection e287)
    (first | simp only [add_plain] at hx287_0 | simp only [add_at] at hx287_0 | simp only [Addr.add, Nat.zero_add] at hx287_0 | skip)
    replace hx287_0 := (HB.out.cell (World.block_lt_of_cell? w _ hx287_0)).trans hx287_0
    replace p287 := eq_true p287
    replace q287 := eq_true q287
    go_wp2_with (first | ((with_reducible refine gate_callee (f := 50) rfl ?_); refine goesL_ (some 34) rfl rfl Tryd.func50 (by kernel_rfl) rfl #[.int .i64 a2] rfl (by (try simp only [List.map_toArray, List.map_cons, List.map_nil]); first | done | rfl | (simp only [List.length_drop, List.length_take]; rfl)) ?_; (with_reducible refine (access_Changes.calls a2 false _ A23.out).mono ?_); rintro e w' ⟨rfl, ⟨nd, rfl⟩⟩; refine ⟨_, rfl, ?_⟩))
    go_ret
    exact ⟨by first | rfl | (simp [errW_none, errW_some] <;> rfl) | (simp [*, errW_none, errW_some] <;> rfl) | (simp [bt, *]; done) | (unfold bt; simp [*]; done), by repeat (first | (with_reducible first | exact HB.out | apply below_alloc | apply pw_below_drewN | apply below_drew1 | refine below_set ?_ GE281.out) | exact HB.out)⟩
   rw [if_neg c31] at H
   have c31b0 : ((Go.bits .and .i64 (rd G_access_lets.tab a0_1) 2) == 0) = false := beq_eq_false_iff_ne.mpr c31
   have c31b1 : ((Go.bits .and .i64 (rd G_access_lets.tab a0_1) 2) != 0) = true := bne_iff_ne.mpr c31
   replace H := Option.bind_eq_some_iff.mp H
   obtain ⟨t290, A330, H⟩ := H
   try dsimp only at H
   have A33 := Aside0.mk A330
   clear A330
   obtain rfl := Option.some.inj H
   have hcz34_0 : wc.cell? ⟨gb281, 0, none⟩ = some (.slice A0_0 l0_0.length c0_0) := (blk_cell BK281.out 0).trans rfl
   have hcz34_1 : wc.cell? ⟨gb281, 1, none⟩ = some (.int .i64 a0_1) := (blk_cell BK281.out 1).trans rfl
   have hcz34_2 : wc.cell? ⟨gb281, 2, none⟩ = some (.string a0_2) := (blk_cell BK281.out 2).trans rfl
   have hcz34_3 : wc.cell? ⟨gb281, 3, none⟩ = some (.int .u32 a0_3) := (blk_cell BK281.out 3).trans rfl
   have hcz34_4 : wc.cell? ⟨gb281, 4, none⟩ = some (.bool a0_4) := (blk_cell BK281.out 4).trans rfl
   have hfz34_0 := blk_frozen BK281.out 0
   have hfz34_1 := blk_frozen BK281.out 1
   have hfz34_2 := blk_frozen BK281.out 2
   have hfz34_3 := blk_frozen BK281.out 3
   have hfz34_4 := blk_frozen BK281.out 4
   have p287 : 0 ≤ (a0_1 : Int) := of_decide_eq_true (by first | (with_reducible assumption) | assumption)
   have q287 : a0_1 < (G_access_lets.tab.length : Int) := of_decide_eq_true (by first | (with_reducible assumption) | assumption)
   have qg287 : (a0_1 < (7 : Int)) = True := eq_true q287
   obtain ⟨ad287, e287, hx287_0⟩ := Kd.at_int HRgl0.out a0_1 p287 q287
   obtain rfl : (⟨0, 0, none⟩ : Addr) = ad287 := (by injection e287)
   (first | simp only [add_plain] at hx287_0 | simp only [add_at] at hx287_0 | simp only [Addr.add, Nat.zero_add] at hx287_0 | skip)
   replace hx287_0 := (HB.out.cell (World.block_lt_of_cell? w _ hx287_0)).trans hx287_0
   replace p287 := eq_true p287
   replace q287 := eq_true q287
   go_wp2_with (first | ((with_reducible refine gate_callee (f := 50) rfl ?_); refine goesL_ (some 34) rfl rfl Tryd.func50 (by kernel_rfl) rfl #[.int .i64 a2] rfl (by (try simp only [List.map_toArray, List.map_cons, List.map_nil]); first | done | rfl | (simp only [List.length_drop, List.length_take]; rfl)) ?_; (with_reducible refine (access_Changes.calls a2 false _ A23.out).mono ?_); rintro e w' ⟨rfl, ⟨nd, rfl⟩⟩; refine ⟨_, rfl, ?_⟩) | (go_at_call 51; (with_reducible refine (access_registered.calls kj3 _ _ l0_0 a0_1 a0_2 a0_3 a0_4 a1 t290 _ ?side1 ?side2 A33.out).mono ?_); (case side1 => repeat (first | exact (Kd.C_below HR0_0.out (hb_ HB)) | (with_reducible refine Kd.C_alloc ?_ _) | (with_reducible refine Kd.C_drewN ?_ _) | (with_reducible refine Kd.C_drew ?_))); (case side2 => exact HC0_0.out); rintro e w35 ⟨rfl, hb⟩; have n0_ := Aside0.mk (blk_below (bk_ BK281) hb); have n1_ := Aside0.mk (below_step (hb_ HB) hb); clear BK281; clear HB; have BK281 := n0_; have HB := n1_; clear n0_ n1_; (try clear hb); (try clear hb2); (try clear hk); (try clear hi)))
   go_ret
   exact ⟨by first | rfl | (simp [errW_none, errW_some] <;> rfl) | (simp [*, errW_none, errW_some] <;> rfl) | (simp [bt, *]; done) | (unfold bt; simp [*]; done), by repeat (first | (with_reducible first | exact HB.out | apply below_alloc | apply pw_below_drewN | apply below_drew1 | refine below_set ?_ GE281.out) | exact HB.out)⟩
end Go.Proofs.YtjogkfcjlljjcaaDoor.P
namespace Go.Proofs.YtjogkfcjlljjcaaDoor.Pure
open Go.RowKit Go.Proofs.YtjogkfcjlljjcaaDoor.P Go.Proofs.YtjogkfcjlljjcaaDoorW.PrintWords Go.Proofs.YtjogkfcjlljjcaaDoorW.PrintLast Go.Proofs.YtjogkfcjlljjcaaDoorW.PrintMore Go.Proofs.YtjogkfcjlljjcaaDoor.Num
set_option linter.unusedVariables false
set_option linter.unusedSimpArgs false
def changes (c : Int) : Bool := decide (c = 3 ∨ c = 4 ∨ c = 5 ∨ c = 6 ∨ c = 7)
def holds (l : List S53) (t : Int) (o h : ByteArray) : Bool :=
  if typed t then (if t = 5 ∨ t = 6 then reg l h else decide (h.toList = o.toList)) else false
def may (l : List S53) (t : Int) (o h : ByteArray) (c : Int) : Bool :=
  if typed t then
    (if c = 2 then (holds l t o h || (if t = 1 ∨ t = 3 ∨ t = 5 then true else if 3 ≤ t then reg l h else false))
     else if changes c then (holds l t o h || (if 3 ≤ t then reg l h else false)) else true)
  else true
theorem registered_l0 (h : ByteArray) (l : List S53) (hl : l.length ≤ 1000) : ∀ (n k i : Nat), i + n = l.length → n + 1 ≤ k → access_registered.l0 k h l (l.length : Int) (i : Int) = some ((l.drop i).any fun r => decide (r.f0.toList = h.toList))
  | 0, k + 1, i, hi, hk => by
    show (if (i : Int) < (l.length : Int) then _ else some false) = _
    rw [if_neg (by omega), List.drop_eq_nil_of_le (by omega)]
    rfl
  | n + 1, k + 1, i, hi, hk => by
    have hlt : i < l.length := by omega
    show (if (i : Int) < (l.length : Int) then (if 0 ≤ (i : Int) then (if (i : Int) < (l.length : Int) then (if ((rd_T53 l i).f0).toList = h.toList then (some true) else (access_registered.l0 k h l (l.length : Int) (wrap64 ((i : Int) + 1)))) else none) else none) else some false) = _
    rw [if_pos (by omega), if_pos (by omega), if_pos (by omega), rd_at l i hlt, List.drop_eq_getElem_cons hlt, List.any_cons]
    by_cases hc : (l[i]).f0.toList = h.toList
    · rw [if_pos hc, decide_eq_true hc]
      rfl
    · rw [if_neg hc, decide_eq_false hc, w64 (by omega) (by omega)]
      exact registered_l0 h l hl n k (i + 1) (by omega) (by omega)
theorem registered_spec (k : Nat) (l : List S53) (t : Int) (o : ByteArray) (g : Int) (b : Bool) (h : ByteArray) (hl : l.length ≤ 201) (hk : 210 ≤ k) : access_registered.f k l t o g b h = some (reg l h) :=
  registered_l0 h l (by omega) l.length k 0 (by omega) (by omega)
theorem Changes_spec (c : Int) : access_Changes.f c = some (changes c) := by
  unfold access_Changes.f changes
  by_cases h3 : c = 3
  · rw [if_pos h3, decide_eq_true (by omega)]
  by_cases h5 : c = 5
  · rw [if_neg h3, if_pos h5, decide_eq_true (by omega)]
  by_cases h6 : c = 6
  · rw [if_neg h3, if_neg h5, if_pos h6, decide_eq_true (by omega)]
  by_cases h7 : c = 7
  · rw [if_neg h3, if_neg h5, if_neg h6, if_pos h7, decide_eq_true (by omega)]
  by_cases h4 : c = 4
  · rw [if_neg h3, if_neg h5, if_neg h6, if_neg h7, if_pos h4, decide_eq_true (by omega)]
  · rw [if_neg h3, if_neg h5, if_neg h6, if_neg h7, if_neg h4, decide_eq_false (by omega)]
theorem typed_cases {t : Int} (h : typed t = true) : t = 1 ∨ t = 2 ∨ t = 3 ∨ t = 4 ∨ t = 5 ∨ t = 6 := by
  have := of_decide_eq_true h
  omega
theorem beq_dec (a b : List UInt8) : (a == b) = decide (a = b) := by
  by_cases h : a = b
  · rw [h]
    simp
  · rw [decide_eq_false h]
    exact beq_eq_false_iff_ne.mpr h
theorem Holds_spec (k : Nat) (l : List S53) (t : Int) (o : ByteArray) (g : Int) (b : Bool) (h : ByteArray) (hl : l.length ≤ 201) (hk : 210 ≤ k) : access_Holds.f k l t o g b h = some (holds l t o h) := by
  unfold access_Holds.f
  rw [Type_spec, Option.bind_some]
  unfold holds
  cases ht : typed t with
  | false => rfl
  | true =>
    rw [if_pos rfl, if_pos rfl, registered_spec k l t o g b h hl hk]
    rcases typed_cases ht with rfl | rfl | rfl | rfl | rfl | rfl
    all_goals first
      | (rw [if_pos (by decide), if_pos (by decide), if_pos (by decide +kernel), if_neg (by decide), beq_dec])
      | (rw [if_pos (by decide), if_pos (by decide), if_neg (by decide +kernel), if_pos (by decide)]; rfl)
theorem May_spec (k : Nat) (l : List S53) (t : Int) (o : ByteArray) (g : Int) (b : Bool) (h : ByteArray) (c : Int) (hl : l.length ≤ 201) (hk : 220 ≤ k) : access_May.f k l t o g b h c = some (may l t o h c) := by
  obtain ⟨k, rfl⟩ := Nat.exists_eq_add_of_le' (show 1 ≤ k by omega)
  have hr := registered_spec k l t o g b h hl (by omega)
  have hj : ∀ z, access_May.j0 (k + 1) h c z l t o g b = if z = true then (some true) else (if 0 ≤ t then (if t < 7 then ((access_Changes.f c).bind fun t117 => (if t117 = true then (if (Go.bits .and .i64 (rd G_access_lets.tab t) 4) = 0 then (some false) else ((access_registered.f k l t o g b h).bind fun t118 => (some t118))) else (if (Go.bits .and .i64 (rd G_access_lets.tab t) 1) = 0 then (if (Go.bits .and .i64 (rd G_access_lets.tab t) 2) = 0 then (some false) else ((access_registered.f k l t o g b h).bind fun t119 => (some t119))) else (some true)))) else (none)) else (none)) := fun z => rfl
  unfold access_May.f may
  simp only [hj, hr, Type_spec, Changes_spec, Holds_spec (k + 1) l t o g b h hl (by omega), access_Reads.f, Option.bind_some]
  cases ht : typed t with
  | false => simp
  | true =>
    rw [if_pos rfl, if_pos rfl]
    by_cases h2 : c = 2
    · subst h2
      have hc2 : changes 2 = false := by decide
      rw [if_pos (by decide), if_pos rfl, hc2]
      cases hh : holds l t o h with
      | true => rfl
      | false =>
        rcases typed_cases ht with rfl | rfl | rfl | rfl | rfl | rfl
        · rw [if_neg (by decide), if_pos (by decide), if_pos (by decide), if_neg (by decide), if_neg (by decide +kernel)]; rfl
        · rw [if_neg (by decide), if_pos (by decide), if_pos (by decide), if_neg (by decide), if_pos (by decide +kernel), if_pos (by decide +kernel)]; rfl
        · rw [if_neg (by decide), if_pos (by decide), if_pos (by decide), if_neg (by decide), if_neg (by decide +kernel)]; rfl
        · rw [if_neg (by decide), if_pos (by decide), if_pos (by decide), if_neg (by decide), if_pos (by decide +kernel), if_neg (by decide +kernel)]; rfl
        · rw [if_neg (by decide), if_pos (by decide), if_pos (by decide), if_neg (by decide), if_neg (by decide +kernel)]; rfl
        · rw [if_neg (by decide), if_pos (by decide), if_pos (by decide), if_neg (by decide), if_pos (by decide +kernel), if_neg (by decide +kernel)]; rfl
    · have h2' : (c == 2) = false := beq_eq_false_iff_ne.mpr h2
      rw [h2', if_neg (by decide), if_neg h2]
      cases hc : changes c with
      | false => rfl
      | true =>
        rw [if_pos rfl, if_pos rfl]
        cases hh : holds l t o h with
        | true => rfl
        | false =>
          rcases typed_cases ht with rfl | rfl | rfl | rfl | rfl | rfl
          · rw [if_neg (by decide), if_pos (by decide), if_pos (by decide), if_pos rfl, if_pos (by decide +kernel)]; rfl
          · rw [if_neg (by decide), if_pos (by decide), if_pos (by decide), if_pos rfl, if_pos (by decide +kernel)]; rfl
          · rw [if_neg (by decide), if_pos (by decide), if_pos (by decide), if_pos rfl, if_neg (by decide +kernel)]; rfl
          · rw [if_neg (by decide), if_pos (by decide), if_pos (by decide), if_pos rfl, if_neg (by decide +kernel)]; rfl
          · rw [if_neg (by decide), if_pos (by decide), if_pos (by decide), if_pos rfl, if_neg (by decide +kernel)]; rfl
          · rw [if_neg (by decide), if_pos (by decide), if_pos (by decide), if_pos rfl, if_neg (by decide +kernel)]; rfl
end Go.Proofs.YtjogkfcjlljjcaaDoor.Pure
namespace Go.Proofs.YtjogkfcjlljjcaaDoor.Pure
open Go.RowKit Go.Proofs.YtjogkfcjlljjcaaDoor.P Go.Proofs.YtjogkfcjlljjcaaDoorW.PrintWords Go.Proofs.YtjogkfcjlljjcaaDoorW.PrintLast Go.Proofs.YtjogkfcjlljjcaaDoorW.PrintMore Go.Proofs.YtjogkfcjlljjcaaDoor.Num
set_option linter.unusedVariables false
set_option linter.unusedSimpArgs false
theorem do_bad (k : Nat) (l : List S53) (typ : Int) (host : ByteArray) (gen : Int) (apt : Bool) (c : S31) (hh : host.size ≤ 5000) (hl : ∀ x ∈ l, x.f0.size ≤ 5000) (hw : (Lit.int .i64 c.f0).wf = true) (h : ¬(8 ≤ c.f0 ∧ c.f0 ≤ 12) ∨ goodB l typ host = false ∨ nameB c.f2 = false) : do_f k l typ host gen apt c = do_same l typ host gen apt 5 := by
  unfold do_f
  rw [if_pos hw]
  by_cases ho : 8 ≤ c.f0 ∧ c.f0 ≤ 12
  · rw [if_neg (by rw [decide_eq_true ho]; decide), Good_spec l typ host gen apt hh hl, Option.bind_some]
    cases hg : goodB l typ host with
    | false => rw [if_pos rfl]
    | true =>
      rw [if_neg (by decide), show names_Name.f c.f2 = some (nameB c.f2) from rfl, Option.bind_some]
      cases hn : nameB c.f2 with
      | false => rw [if_pos rfl]
      | true =>
        rcases h with h | h | h
        · exact absurd ho h
        · rw [hg] at h; cases h
        · rw [hn] at h; cases h
  · rw [if_pos (by rw [decide_eq_false ho])]
theorem rsv_eq (k : Nat) (l : List S53) (typ : Int) (host : ByteArray) (gen : Int) (apt : Bool) (c : S31) (kk : Int) (hk : 210 ≤ k) (hl : l.length ≤ 201) :
    do_rsv k l typ host gen apt c kk = if typed c.f11 = false then do_same l typ host gen apt 5 else if asksP kk c = false then do_same l typ host gen apt 2 else if typ = 0 then some (l, c.f11, takenBy c, gen, apt, [], 1) else if (holds l typ host c.f2 && typ == c.f11) = true then do_same l typ host gen apt 1 else do_same l typ host gen apt 2 := by
  unfold do_rsv
  rw [Type_spec, Option.bind_some, Holds_spec k l typ host gen apt c.f2 hl hk, Option.bind_some]
theorem rel_eq (k : Nat) (l : List S53) (typ : Int) (host : ByteArray) (gen : Int) (apt : Bool) (c : S31) (kk : Int) (hk : 210 ≤ k) (hl : l.length ≤ 201) :
    do_rel k l typ host gen apt c kk = if asksP kk c = false then do_same l typ host gen apt 2 else if holds l typ host c.f2 = false then do_same l typ host gen apt 1 else if (typ != c.f11) = true then do_same l typ host gen apt 5 else some (l, 0, (⟨#[]⟩ : ByteArray), gen, apt, (if silent typ = true then [] else told c (fun _ _ => true) 3 l l.length), 1) := by
  unfold do_rel
  rw [Holds_spec k l typ host gen apt c.f2 hl hk, Option.bind_some]
end Go.Proofs.YtjogkfcjlljjcaaDoor.Pure
namespace Go.Proofs.YtjogkfcjlljjcaaDoor.P
open Go.RowKit Go.Proofs.YtjogkfcjlljjcaaDoorW.PrintWords
def Q100 (x : S100) : Prop := (Lit.int .i64 x.f0).wf = true ∧ (Lit.int .i64 x.f1).wf = true
theorem o100 : Rk.Opens Tryd.prog 100 k100 Q100 :=
  Rk.opens_iso (fun p => ⟨p.1, p.2⟩) (fun _ => rfl) (Rk.opens_struct Tryd.underlying100 (l := [(3, 0), (3, 1)]) (by kernel_rfl) (by kernel_rfl) (Rk.fits_cons (Rk.opens_int Tryd.underlying3) (by kernel_rfl) (Rk.fits_one (Rk.opens_int Tryd.underlying3) (by kernel_rfl))))
def Q31 (x : S31) : Prop := (Lit.int .i64 x.f0).wf = true ∧ (Lit.int .i64 x.f1).wf = true ∧ x.f2.size ≤ 9223372036854775807 ∧ (Lit.int .i64 x.f3).wf = true ∧ (Lit.int .i64 x.f4).wf = true ∧ x.f5.size ≤ 9223372036854775807 ∧ True ∧ (x.f7.length ≤ 9223372036854775807 ∧ ∀ y0 ∈ x.f7, Q100 y0) ∧ (Lit.int .u64 x.f8).wf = true ∧ (Lit.int .u64 x.f9).wf = true ∧ (Lit.int .u64 x.f10).wf = true ∧ (Lit.int .i64 x.f11).wf = true ∧ True ∧ (Lit.int .i64 x.f13).wf = true
theorem o31 : Rk.Opens Tryd.prog 31 k31 Q31 :=
  Rk.opens_iso (fun p => ⟨p.1, p.2.1, p.2.2.1, p.2.2.2.1, p.2.2.2.2.1, p.2.2.2.2.2.1, p.2.2.2.2.2.2.1, p.2.2.2.2.2.2.2.1, p.2.2.2.2.2.2.2.2.1, p.2.2.2.2.2.2.2.2.2.1, p.2.2.2.2.2.2.2.2.2.2.1, p.2.2.2.2.2.2.2.2.2.2.2.1, p.2.2.2.2.2.2.2.2.2.2.2.2.1, p.2.2.2.2.2.2.2.2.2.2.2.2.2⟩) (fun _ => rfl) (Rk.opens_struct Tryd.underlying31 (l := [(3, 0), (3, 1), (9, 2), (3, 3), (3, 4), (9, 5), (4, 6), (28, 7), (29, 8), (29, 9), (29, 10), (3, 11), (4, 12), (3, 13)]) (by kernel_rfl) (by kernel_rfl) (Rk.fits_cons (Rk.opens_int Tryd.underlying3) (by kernel_rfl) (Rk.fits_cons (Rk.opens_int Tryd.underlying3) (by kernel_rfl) (Rk.fits_cons (Rk.opens_string Tryd.underlying9) (by kernel_rfl) (Rk.fits_cons (Rk.opens_int Tryd.underlying3) (by kernel_rfl) (Rk.fits_cons (Rk.opens_int Tryd.underlying3) (by kernel_rfl) (Rk.fits_cons (Rk.opens_string Tryd.underlying9) (by kernel_rfl) (Rk.fits_cons (Rk.opens_bool Tryd.underlying4) (by kernel_rfl) (Rk.fits_cons (Rk.opens_slice Tryd.underlying28 (by kernel_rfl) o100) (by kernel_rfl) (Rk.fits_cons (Rk.opens_int Tryd.underlying29) (by kernel_rfl) (Rk.fits_cons (Rk.opens_int Tryd.underlying29) (by kernel_rfl) (Rk.fits_cons (Rk.opens_int Tryd.underlying29) (by kernel_rfl) (Rk.fits_cons (Rk.opens_int Tryd.underlying3) (by kernel_rfl) (Rk.fits_cons (Rk.opens_bool Tryd.underlying4) (by kernel_rfl) (Rk.fits_one (Rk.opens_int Tryd.underlying3) (by kernel_rfl))))))))))))))))
end Go.Proofs.YtjogkfcjlljjcaaDoor.P
