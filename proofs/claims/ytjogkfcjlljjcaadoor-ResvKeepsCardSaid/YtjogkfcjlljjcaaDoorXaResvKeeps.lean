-- joined by this session's wip/tools/pack.py: words of the kit's print, cut to what the claim names; functions printed by a patched copy of the printer; walks and lemmas of this session; Lean checks it
import Derived.Test.YtjogkfcjlljjcaaDoorBa7
import Derived.Test.YtjogkfcjlljjcaaDoorProg
import Derived.WalkKit
import Derived.Below
import Derived.Deep.Draws
import Derived.Deep.AppendLies
import Derived.Maps.AppendAt
import Derived.OwnWalk
import Derived.Laws.BytesArg
import Derived.Laws.MakeOwn
import Derived.Laws.OwnMore
import Derived.Deep.OwnRows
import Derived.Tactics
import Derived.Lib.ConvBytes
import Derived.Laws.Slices
import Derived.KernelRfl
import Derived.RowKit3
import Derived.Deep.LoopGhost
import Derived.Deep.QuietTactic
import Derived.BigQuiet
import Derived.WideLaws
import Derived.Deep.DeepCutAuto
import Derived.Deep.CutBlock
import Derived.Deep.RegionHeld3
import Derived.Laws.Rows
import Derived.Lib.AppendStr
import Derived.ArgAppend
import Derived.Laws.IdiomCopy
import Derived.OrdersHeld
import Derived.Laws.BitsLemmas
import Derived.RowKit
import Derived.Maps.Own
import Derived.Maps.OwnOps
import Derived.Maps.Views
import Derived.Carry
import Derived.Lib.SliceRun
namespace Go.Proofs.YtjogkfcjlljjcaaDoorW.PrintLast
open Go.Proofs.YtjogkfcjlljjcaaDoorW.PrintWords (Aside0)
section
variable {P : Program} {ops : Array Oper} {Q : Exit → Act → World → Prop} {md : Region.Mode} {S : World → Prop} {ds : List Nat} {T : Bool × List (List Nat × List Nat)} {B : List Nat}
theorem pon_ (i : Nat) (N : Option Tmp) {oi : Oper} {v : Value} {fuel : Nat} {l : Array Bool} {a : Act} {w : World} (l' : Array Bool) (hT : rtab md ops = T) {a' : Act} (h : wpAnyLast P md ops Q S ds fuel l' a' w)
    (hi : ops[i]? = some oi := by rfl) (hN : oi.dst = N := by rfl) (hc : anyT T l.toList l'.toList i = true := by kernel_rfl) (hQ : ∀ c a w, Q (.panic c) (a.put oi.dst v) w → Q (.panic c) a w := by exact (fun _ _ _ h => h))
    (hw : Region.wanted oi (yielded ops a.tmps) = true := by rfl) (hy : ∀ w', (execOp a.eval oi).run P w' = .ok (.value v) w' := by intro w'; go_simp; with_reducible rfl)
    (ha : a.put N v = a' := by simp only [Act.put, la_, lb_, lc_, i64_w, i32_w]; rfl) : wpAnyLast P md ops Q S ds (fuel + 1) l a w :=
  pure_ (i := i) (N := N) (v := v) l' hi hN (any_of hT hc) hQ (Or.inl ⟨hw, hy⟩) ha h
theorem ptk_ (i : Nat) (N : Option Tmp) {oi : Oper} {v : Value} {fuel : Nat} {l : Array Bool} {a : Act} {w : World} (l' : Array Bool) (hT : rtab md ops = T) (hB : waitsOk T.2 B = true) (hS : S w) {a' : Act} (h : wpAnyLast P md ops Q S ds fuel l' a' w)
    (hi : ops[i]? = some oi := by rfl) (hN : oi.dst = N := by rfl) (hc : takeW T B ds l.toList l'.toList i = true := by kernel_rfl) (hQ : ∀ c a w, Q (.panic c) (a.put oi.dst v) w → Q (.panic c) a w := by exact (fun _ _ _ h => h))
    (hw : Region.wanted oi (yielded ops a.tmps) = true := by rfl) (hy : ∀ w', S w' → (execOp a.eval oi).run P w' = .ok (.value v) w' := by intro w' hs_; (try dsimp only at hs_); (repeat (obtain ⟨_, hs_⟩ := hs_)); go_simp; with_reducible rfl)
    (ha : a.put N v = a' := by simp only [Act.put, la_, lb_, lc_, i64_w, i32_w]; rfl) : wpAnyLast P md ops Q S ds (fuel + 1) l a w :=
  take_ (i := i) (N := N) (v := v) l' hi hN (take_ofW hT hB hc) hQ (Or.inl ⟨hw, hy⟩) hS ha h
end
end Go.Proofs.YtjogkfcjlljjcaaDoorW.PrintLast
namespace Go.Proofs.YtjogkfcjlljjcaaDoor.P
open Go.RowKit Go.Proofs.YtjogkfcjlljjcaaDoorW.PrintWords Go.Proofs.YtjogkfcjlljjcaaDoorW.PrintLast Go.Proofs.YtjogkfcjlljjcaaDoorW.PrintMore
attribute [local go_sem] max2_int min2_int max_two min_two max_three min_three max_four min_four   -- for this text's walks alone
set_option linter.unusedVariables false
set_option linter.unusedSimpArgs false
set_option linter.unnecessarySimpa false
def k31 : Kd S31 := Kd.iso (Kd.pair (Kd.int .i64) (Kd.pair (Kd.int .i64) (Kd.pair Kd.string (Kd.pair (Kd.int .i64) (Kd.pair (Kd.int .i64) (Kd.pair Kd.string (Kd.pair Kd.bool (Kd.pair (Kd.slice 100 k100) (Kd.pair (Kd.int .u64) (Kd.pair (Kd.int .u64) (Kd.pair (Kd.int .u64) (Kd.pair (Kd.int .i64) (Kd.pair Kd.bool (Kd.int .i64)))))))))))))) (fun x : S31 => (x.f0, x.f1, x.f2, x.f3, x.f4, x.f5, x.f6, x.f7, x.f8, x.f9, x.f10, x.f11, x.f12, x.f13))
theorem k31_open {w : World} {x : S31} {cs : List Value} (h : k31.K w x cs) : ∃ A7 c7, cs = [.int .i64 x.f0, .int .i64 x.f1, .string x.f2, .int .i64 x.f3, .int .i64 x.f4, .string x.f5, .bool x.f6, .slice A7 x.f7.length c7, .int .u64 x.f8, .int .u64 x.f9, .int .u64 x.f10, .int .i64 x.f11, .bool x.f12, .int .i64 x.f13] ∧ x.f7.length ≤ c7 ∧ k100.C w A7 x.f7.length x.f7 := by
  obtain ⟨_, _, rfl, rfl, ⟨_, _, rfl, rfl, ⟨_, _, rfl, rfl, ⟨_, _, rfl, rfl, ⟨_, _, rfl, rfl, ⟨_, _, rfl, rfl, ⟨_, _, rfl, rfl, ⟨_, _, rfl, ⟨A7, c7, rfl, l7, g7⟩, ⟨_, _, rfl, rfl, ⟨_, _, rfl, rfl, ⟨_, _, rfl, rfl, ⟨_, _, rfl, rfl, ⟨_, _, rfl, rfl, rfl⟩⟩⟩⟩⟩⟩⟩⟩⟩⟩⟩⟩⟩ := h
  exact ⟨A7, c7, rfl, l7, g7⟩
end Go.Proofs.YtjogkfcjlljjcaaDoor.P
namespace Go.Proofs.YtjogkfcjlljjcaaDoor.P
open Go.RowKit Go.Proofs.YtjogkfcjlljjcaaDoorW.PrintWords Go.Proofs.YtjogkfcjlljjcaaDoorW.PrintLast Go.Proofs.YtjogkfcjlljjcaaDoorW.PrintMore
attribute [local go_sem] max2_int min2_int max_two min_two max_three min_three max_four min_four   -- for this text's walks alone
set_option linter.unusedVariables false
set_option linter.unusedSimpArgs false
set_option linter.unnecessarySimpa false
def headgatelaw11_large.f (a0_0 : Int) (a0_1 : Int) (a0_2 : ByteArray) (a0_3 : Int) (a0_4 : Int) (a0_5 : ByteArray) (a0_6 : Bool) (l0_7 : List (S100)) (a0_8 : Int) (a0_9 : Int) (a0_10 : Int) (a0_11 : Int) (a0_12 : Bool) (a0_13 : Int) : Option (Bool) := some (decide ((a0_2.size : Int) > 1000))
set_option maxHeartbeats 8000000 in
set_option maxRecDepth 100000 in
theorem headgatelaw11_large.calls (a0_0 : Int) (a0_1 : Int) (a0_2 : ByteArray) (a0_3 : Int) (a0_4 : Int) (a0_5 : ByteArray) (a0_6 : Bool) (A0_7 : Option Addr) (c0_7 : Nat) (l0_7 : List (S100)) (a0_8 : Int) (a0_9 : Int) (a0_10 : Int) (a0_11 : Int) (a0_12 : Bool) (a0_13 : Int) (r : Bool) (w : World) (hr0_7 : Kd.C k100 w A0_7 l0_7.length l0_7) (hc0_7 : l0_7.length ≤ c0_7) (h : headgatelaw11_large.f a0_0 a0_1 a0_2 a0_3 a0_4 a0_5 a0_6 l0_7 a0_8 a0_9 a0_10 a0_11 a0_12 a0_13 = some r) :
    Calls Tryd.prog 12 #[.agg #[.int .i64 a0_0, .int .i64 a0_1, .string a0_2, .int .i64 a0_3, .int .i64 a0_4, .string a0_5, .bool a0_6, .slice A0_7 l0_7.length c0_7, .int .u64 a0_8, .int .u64 a0_9, .int .u64 a0_10, .int .i64 a0_11, .bool a0_12, .int .i64 a0_13]] w fun e w' => e = .returned (.bool r) ∧ Below w.heap.size w w' := by
  have hu31 := Tryd.underlying31
  have HR0_7 := Aside0.mk hr0_7
  have HC0_7 := Aside0.mk hc0_7
  clear hr0_7 hc0_7
  have HB := Aside0.mk (Below.refl w.heap.size w)
  have H : (some (decide ((a0_2.size : Int) > 1000))) = some r := h
  clear h
  obtain rfl := Option.some.inj H
  go_enter Tryd.func12, Tryd.ntmps12
  go_wp2_with (first | ((with_reducible refine gate_dst (N := 1) rfl ?_); refine box_event ?hg (N := 1) ?hd (cs := #[.int .i64 a0_0, .int .i64 a0_1, .string a0_2, .int .i64 a0_3, .int .i64 a0_4, .string a0_5, .bool a0_6, .slice A0_7 l0_7.length c0_7, .int .u64 a0_8, .int .u64 a0_9, .int .u64 a0_10, .int .i64 a0_11, .bool a0_12, .int .i64 a0_13]) (t := 31) ?hr ?_; (case hd => rfl); (case hg => rfl); (case hr => first | (go_simp; done) | (go_simp; rfl)); intro gb103 hg w2 hbox hb; have n0_ := Aside0.mk (below_step (by repeat (first | (with_reducible first | exact HB.out | apply below_alloc | apply pw_below_drewN | apply below_drew1) | exact HB.out)) hb); have n1_ := Aside0.mk (hbox); have n2_ := Aside0.mk ((by rw [hg]; exact (below_size (by repeat (first | (with_reducible first | exact HB.out | apply below_alloc | apply pw_below_drewN | apply below_drew1) | exact HB.out))) : w.heap.size ≤ gb103)); have n3_ := Aside0.mk ((by rw [hg]; exact (below_size (by repeat (first | (with_reducible first | exact HB.out | apply below_alloc | apply pw_below_drewN | apply below_drew1) | exact HB.out))) : w.heap.size ≤ gb103)); clear HB; have HB := n0_; have BK103 := n1_; have GW103 := n2_; have GE103 := n3_; clear n0_ n1_ n2_ n3_; clear hb hbox hg; have hcz3_0 : w2.cell? ⟨gb103, 0, none⟩ = some (.int .i64 a0_0) := (blk_cell BK103.out 0).trans rfl; have hcz3_1 : w2.cell? ⟨gb103, 1, none⟩ = some (.int .i64 a0_1) := (blk_cell BK103.out 1).trans rfl; have hcz3_2 : w2.cell? ⟨gb103, 2, none⟩ = some (.string a0_2) := (blk_cell BK103.out 2).trans rfl; have hcz3_3 : w2.cell? ⟨gb103, 3, none⟩ = some (.int .i64 a0_3) := (blk_cell BK103.out 3).trans rfl; have hcz3_4 : w2.cell? ⟨gb103, 4, none⟩ = some (.int .i64 a0_4) := (blk_cell BK103.out 4).trans rfl; have hcz3_5 : w2.cell? ⟨gb103, 5, none⟩ = some (.string a0_5) := (blk_cell BK103.out 5).trans rfl; have hcz3_6 : w2.cell? ⟨gb103, 6, none⟩ = some (.bool a0_6) := (blk_cell BK103.out 6).trans rfl; have hcz3_7 : w2.cell? ⟨gb103, 7, none⟩ = some (.slice A0_7 l0_7.length c0_7) := (blk_cell BK103.out 7).trans rfl; have hcz3_8 : w2.cell? ⟨gb103, 8, none⟩ = some (.int .u64 a0_8) := (blk_cell BK103.out 8).trans rfl; have hcz3_9 : w2.cell? ⟨gb103, 9, none⟩ = some (.int .u64 a0_9) := (blk_cell BK103.out 9).trans rfl; have hcz3_10 : w2.cell? ⟨gb103, 10, none⟩ = some (.int .u64 a0_10) := (blk_cell BK103.out 10).trans rfl; have hcz3_11 : w2.cell? ⟨gb103, 11, none⟩ = some (.int .i64 a0_11) := (blk_cell BK103.out 11).trans rfl; have hcz3_12 : w2.cell? ⟨gb103, 12, none⟩ = some (.bool a0_12) := (blk_cell BK103.out 12).trans rfl; have hcz3_13 : w2.cell? ⟨gb103, 13, none⟩ = some (.int .i64 a0_13) := (blk_cell BK103.out 13).trans rfl; have hfz3_0 := blk_frozen BK103.out 0; have hfz3_1 := blk_frozen BK103.out 1; have hfz3_2 := blk_frozen BK103.out 2; have hfz3_3 := blk_frozen BK103.out 3; have hfz3_4 := blk_frozen BK103.out 4; have hfz3_5 := blk_frozen BK103.out 5; have hfz3_6 := blk_frozen BK103.out 6; have hfz3_7 := blk_frozen BK103.out 7; have hfz3_8 := blk_frozen BK103.out 8; have hfz3_9 := blk_frozen BK103.out 9; have hfz3_10 := blk_frozen BK103.out 10; have hfz3_11 := blk_frozen BK103.out 11; have hfz3_12 := blk_frozen BK103.out 12; have hfz3_13 := blk_frozen BK103.out 13))
  go_ret
  exact ⟨by first | rfl | (simp [errW_none, errW_some] <;> rfl) | (simp [*, errW_none, errW_some] <;> rfl) | (simp [bt, *]; done) | (unfold bt; simp [*]; done), by repeat (first | (with_reducible first | exact HB.out | apply below_alloc | apply pw_below_drewN | apply below_drew1 | refine below_set ?_ GE103.out) | exact HB.out)⟩
end Go.Proofs.YtjogkfcjlljjcaaDoor.P
namespace Go.Proofs.YtjogkfcjlljjcaaDoor.P
open Go.RowKit Go.Proofs.YtjogkfcjlljjcaaDoorW.PrintWords Go.Proofs.YtjogkfcjlljjcaaDoorW.PrintLast Go.Proofs.YtjogkfcjlljjcaaDoorW.PrintMore
attribute [local go_sem] max2_int min2_int max_two min_two max_three min_three max_four min_four   -- for this text's walks alone
set_option linter.unusedVariables false
set_option linter.unusedSimpArgs false
set_option linter.unnecessarySimpa false
theorem headgatekeep_Regs.mono_l : ∀ k, (∀ y0 y1 y2, LeO (headgatekeep_Regs.l0 k y0 y1 y2) (headgatekeep_Regs.l0 (k + 1) y0 y1 y2))
  | 0 => fun _ _ _ r h => by simp [headgatekeep_Regs.l0] at h
  | k + 1 => by
    have ih0 := headgatekeep_Regs.mono_l k
    · intro y0 y1 y2
      unfold headgatekeep_Regs.l0
      repeat' first
      | (with_reducible exact ih0 _ _ _)
      | (with_reducible exact LeO.refl _)
      | (with_reducible exact LeO.none _)
      | (with_reducible refine LeO.ite ?_ ?_)
      | (with_reducible refine LeO.bind ?_ (fun _ => ?_))
      | exact ih0 _ _ _
      | exact LeO.none _
      | refine LeO.ite ?_ ?_
      | refine LeO.bind ?_ (fun _ => ?_)
theorem headgatekeep_Regs.mono : ∀ a0 a1 k, LeO (headgatekeep_Regs.f k a0 a1) (headgatekeep_Regs.f (k + 1) a0 a1) := by
  intro a0 a1 k
  have ih0 := headgatekeep_Regs.mono_l k
  unfold headgatekeep_Regs.f
  repeat' first
      | (with_reducible exact ih0 _ _ _)
      | (with_reducible exact LeO.refl _)
      | (with_reducible exact LeO.none _)
      | (with_reducible refine LeO.ite ?_ ?_)
      | (with_reducible refine LeO.bind ?_ (fun _ => ?_))
      | exact ih0 _ _ _
      | exact LeO.none _
      | refine LeO.ite ?_ ?_
      | refine LeO.bind ?_ (fun _ => ?_)
set_option maxHeartbeats 8000000 in
set_option maxRecDepth 100000 in
theorem headgatekeep_Regs.calls (k : Nat) (A0 : Option Addr) (c0 : Nat) (l0 : List (S53)) (A1 : Option Addr) (c1 : Nat) (l1 : List (S53)) (r : Bool) (w : World) (hr0 : Kd.C k53 w A0 l0.length l0) (hc0 : l0.length ≤ c0) (hr1 : Kd.C k53 w A1 l1.length l1) (hc1 : l1.length ≤ c1) (h : headgatekeep_Regs.f k l0 l1 = some r) :
    Calls Tryd.prog 23 #[.slice A0 l0.length c0, .slice A1 l1.length c1] w fun e w' => e = .returned (.bool r) ∧ Drawn0 w w' := by
  have HR0 := Aside0.mk hr0
  have HC0 := Aside0.mk hc0
  clear hr0 hc0
  have HR1 := Aside0.mk hr1
  have HC1 := Aside0.mk hc1
  clear hr1 hc1
  have H : (if (l0.length : Int) = (l1.length : Int) then (headgatekeep_Regs.l0 k l0 l1 0) else (some false)) = some r := h
  clear h
  by_cases c3 : (l0.length : Int) = (l1.length : Int)
  · rw [if_pos c3] at H
    have c3b0 : ((l0.length : Int) == (l1.length : Int)) = true := beq_iff_eq.mpr c3
    have c3b1 : ((l0.length : Int) != (l1.length : Int)) = false := bne_eq_false_iff_eq.mpr c3
    have c3b2 : (l0.length == l1.length) = true := by first | simpa using c3 | (simp at c3 ⊢; omega)
    clear c3
    have H' := Aside0.mk H
    clear H
    go_enter Tryd.func23, Tryd.ntmps23
    go_wp2
    repeat (go_quiet (fail); try go_wp2)
    go_loopg [5] k (fun kq v5 w' => ∃ (x5_1 : Int), v5 = .int .i64 x5_1 ∧ Aside0 (headgatekeep_Regs.l0 kq l0 l1 x5_1 = some r) ∧ Aside0 (kq ≤ k) ∧ Drawn0 w w')
    case atStart => exact ⟨(0), (by first | rfl | (simp; done) | (simp [*]; done)), H', ⟨Nat.le_refl _⟩, by repeat (first | exact Drawn0.refl _ | apply Drawn0.step)⟩
    case round =>
      clear H'
      try clear c1
      try clear c2
      try clear p2
      try clear c3
      try clear c3b0
      try clear c3b1
      try clear c3b2
      obtain ⟨x5_1, rfl, HA, HK1, ⟨m1, rfl⟩⟩ := hrel
      cases gk with
      | zero => exact absurd HA.out (by simp [headgatekeep_Regs.l0])
      | succ k1 =>
        have H := HA.out
        clear HA
        simp only [headgatekeep_Regs.l0] at H
        by_cases c4 : x5_1 < (l0.length : Int)
        · rw [if_pos c4] at H
          have c4b0 : decide (x5_1 < (l0.length : Int)) = true := decide_eq_true c4
          clear c4
          by_cases c5 : 0 ≤ x5_1
          · rw [if_pos c5] at H
            have c5b0 : decide (0 ≤ x5_1) = true := decide_eq_true c5
            clear c5
            by_cases c6 : x5_1 < (l1.length : Int)
            · rw [if_pos c6] at H
              have c6b0 : decide (x5_1 < (l1.length : Int)) = true := decide_eq_true c6
              clear c6
              by_cases c7 : ((rd_T53 l0 x5_1).f0).toList = ((rd_T53 l1 x5_1).f0).toList
              · rw [if_pos c7] at H
                have c7b0 : (((rd_T53 l0 x5_1).f0).toList == ((rd_T53 l1 x5_1).f0).toList) = true := beq_iff_eq.mpr c7
                have c7b1 : (((rd_T53 l0 x5_1).f0).toList != ((rd_T53 l1 x5_1).f0).toList) = false := bne_eq_false_iff_eq.mpr c7
                clear c7
                by_cases c8 : ((rd_T53 l0 x5_1).f1) = ((rd_T53 l1 x5_1).f1)
                · rw [if_pos c8] at H
                  have c8b0 : (((rd_T53 l0 x5_1).f1) == ((rd_T53 l1 x5_1).f1)) = true := beq_iff_eq.mpr c8
                  have c8b1 : (((rd_T53 l0 x5_1).f1) != ((rd_T53 l1 x5_1).f1)) = false := bne_eq_false_iff_eq.mpr c8
                  clear c8
                  have H' := Aside0.mk H
                  clear H
                  have p223 : 0 ≤ (x5_1 : Int) := of_decide_eq_true (by first | (with_reducible assumption) | assumption)
                  have q223 : x5_1 < (l0.length : Int) := of_decide_eq_true (by first | (with_reducible assumption) | assumption)
                  obtain ⟨ad223, e223, hx223_0, hx223_1⟩ := at_T53 HR0.out x5_1 p223 q223
                  cases e223
                  replace p223 := eq_true p223
                  replace q223 := eq_true q223
                  have p224 : 0 ≤ (x5_1 : Int) := of_decide_eq_true (by first | (with_reducible assumption) | assumption)
                  have q224 : x5_1 < (l1.length : Int) := of_decide_eq_true (by first | (with_reducible assumption) | assumption)
                  obtain ⟨ad224, e224, hx224_0, hx224_1⟩ := at_T53 HR1.out x5_1 p224 q224
                  cases e224
                  replace p224 := eq_true p224
                  replace q224 := eq_true q224
                  have p225 : 0 ≤ (x5_1 : Int) := of_decide_eq_true (by first | (with_reducible assumption) | assumption)
                  have q225 : x5_1 < (l0.length : Int) := of_decide_eq_true (by first | (with_reducible assumption) | assumption)
                  obtain ⟨ad225, e225, hx225_0, hx225_1⟩ := at_T53 HR0.out x5_1 p225 q225
                  obtain rfl : ad223 = ad225 := (by injection e225)
                  replace p225 := eq_true p225
                  replace q225 := eq_true q225
                  have p226 : 0 ≤ (x5_1 : Int) := of_decide_eq_true (by first | (with_reducible assumption) | assumption)
                  have q226 : x5_1 < (l1.length : Int) := of_decide_eq_true (by first | (with_reducible assumption) | assumption)
                  obtain ⟨ad226, e226, hx226_0, hx226_1⟩ := at_T53 HR1.out x5_1 p226 q226
                  obtain rfl : ad224 = ad226 := (by injection e226)
                  replace p226 := eq_true p226
                  replace q226 := eq_true q226
                  go_wp2
                  repeat (go_quiet (fail); try go_wp2)
                  go_roundg k1
                  case measure => have := HK1.out; omega
                  case rel => exact ⟨(wrap64 (x5_1 + 1)), (by first | rfl | (simp; done) | (simp [*]; done)), H', ⟨by have := HK1.out; omega⟩, by repeat (first | exact Drawn0.refl _ | apply Drawn0.step)⟩
                · rw [if_neg c8] at H
                  have c8b0 : (((rd_T53 l0 x5_1).f1) == ((rd_T53 l1 x5_1).f1)) = false := beq_eq_false_iff_ne.mpr c8
                  have c8b1 : (((rd_T53 l0 x5_1).f1) != ((rd_T53 l1 x5_1).f1)) = true := bne_iff_ne.mpr c8
                  obtain rfl := Option.some.inj H
                  have p223 : 0 ≤ (x5_1 : Int) := of_decide_eq_true (by first | (with_reducible assumption) | assumption)
                  have q223 : x5_1 < (l0.length : Int) := of_decide_eq_true (by first | (with_reducible assumption) | assumption)
                  obtain ⟨ad223, e223, hx223_0, hx223_1⟩ := at_T53 HR0.out x5_1 p223 q223
                  cases e223
                  replace p223 := eq_true p223
                  replace q223 := eq_true q223
                  have p224 : 0 ≤ (x5_1 : Int) := of_decide_eq_true (by first | (with_reducible assumption) | assumption)
                  have q224 : x5_1 < (l1.length : Int) := of_decide_eq_true (by first | (with_reducible assumption) | assumption)
                  obtain ⟨ad224, e224, hx224_0, hx224_1⟩ := at_T53 HR1.out x5_1 p224 q224
                  cases e224
                  replace p224 := eq_true p224
                  replace q224 := eq_true q224
                  have p225 : 0 ≤ (x5_1 : Int) := of_decide_eq_true (by first | (with_reducible assumption) | assumption)
                  have q225 : x5_1 < (l0.length : Int) := of_decide_eq_true (by first | (with_reducible assumption) | assumption)
                  obtain ⟨ad225, e225, hx225_0, hx225_1⟩ := at_T53 HR0.out x5_1 p225 q225
                  obtain rfl : ad223 = ad225 := (by injection e225)
                  replace p225 := eq_true p225
                  replace q225 := eq_true q225
                  have p226 : 0 ≤ (x5_1 : Int) := of_decide_eq_true (by first | (with_reducible assumption) | assumption)
                  have q226 : x5_1 < (l1.length : Int) := of_decide_eq_true (by first | (with_reducible assumption) | assumption)
                  obtain ⟨ad226, e226, hx226_0, hx226_1⟩ := at_T53 HR1.out x5_1 p226 q226
                  obtain rfl : ad224 = ad226 := (by injection e226)
                  replace p226 := eq_true p226
                  replace q226 := eq_true q226
                  go_wp2
                  repeat (go_quiet (fail); try go_wp2)
                  go_ret
                  exact ⟨by first | rfl | (simp; done) | (simp [*]; done), by repeat (first | exact Drawn0.refl _ | apply Drawn0.step)⟩
              · rw [if_neg c7] at H
                have c7b0 : (((rd_T53 l0 x5_1).f0).toList == ((rd_T53 l1 x5_1).f0).toList) = false := beq_eq_false_iff_ne.mpr c7
                have c7b1 : (((rd_T53 l0 x5_1).f0).toList != ((rd_T53 l1 x5_1).f0).toList) = true := bne_iff_ne.mpr c7
                obtain rfl := Option.some.inj H
                have p223 : 0 ≤ (x5_1 : Int) := of_decide_eq_true (by first | (with_reducible assumption) | assumption)
                have q223 : x5_1 < (l0.length : Int) := of_decide_eq_true (by first | (with_reducible assumption) | assumption)
                obtain ⟨ad223, e223, hx223_0, hx223_1⟩ := at_T53 HR0.out x5_1 p223 q223
                cases e223
                replace p223 := eq_true p223
                replace q223 := eq_true q223
                have p224 : 0 ≤ (x5_1 : Int) := of_decide_eq_true (by first | (with_reducible assumption) | assumption)
                have q224 : x5_1 < (l1.length : Int) := of_decide_eq_true (by first | (with_reducible assumption) | assumption)
                obtain ⟨ad224, e224, hx224_0, hx224_1⟩ := at_T53 HR1.out x5_1 p224 q224
                cases e224
                replace p224 := eq_true p224
                replace q224 := eq_true q224
                go_wp2
                repeat (go_quiet (fail); try go_wp2)
                go_ret
                exact ⟨by first | rfl | (simp; done) | (simp [*]; done), by repeat (first | exact Drawn0.refl _ | apply Drawn0.step)⟩
            · rw [if_neg c6] at H
              exact absurd H (by simp)
          · rw [if_neg c5] at H
            exact absurd H (by simp)
        · rw [if_neg c4] at H
          have c4b0 : decide (x5_1 < (l0.length : Int)) = false := decide_eq_false c4
          clear c4
          obtain rfl := Option.some.inj H
          go_wp2
          repeat (go_quiet (fail); try go_wp2)
          go_ret
          exact ⟨by first | rfl | (simp; done) | (simp [*]; done), by repeat (first | exact Drawn0.refl _ | apply Drawn0.step)⟩
  · rw [if_neg c3] at H
    have c3b0 : ((l0.length : Int) == (l1.length : Int)) = false := beq_eq_false_iff_ne.mpr c3
    have c3b1 : ((l0.length : Int) != (l1.length : Int)) = true := bne_iff_ne.mpr c3
    have c3b2 : (l0.length == l1.length) = false := by first | simpa using c3 | (simp at c3 ⊢; omega)
    obtain rfl := Option.some.inj H
    go_enter Tryd.func23, Tryd.ntmps23
    go_wp2
    repeat (go_quiet (fail); try go_wp2)
    go_ret
    exact ⟨by first | rfl | (simp; done) | (simp [*]; done), by repeat (first | exact Drawn0.refl _ | apply Drawn0.step)⟩
theorem headgatekeep_Tables.mono : ∀ a0 a1 a2 a3 a4 a5 a6 a7 a8 a9 k, LeO (headgatekeep_Tables.f k a0 a1 a2 a3 a4 a5 a6 a7 a8 a9) (headgatekeep_Tables.f (k + 1) a0 a1 a2 a3 a4 a5 a6 a7 a8 a9) := by
 intro a0 a1 a2 a3 a4 a5 a6 a7 a8 a9 k
 unfold headgatekeep_Tables.f
 repeat' first
   | (with_reducible exact headgatekeep_Regs.mono _ _ _)
   | (with_reducible exact LeO.refl _)
   | (with_reducible exact LeO.none _)
   | (with_reducible refine LeO.ite ?_ ?_)
   | (with_reducible refine LeO.bind ?_ (fun _ => ?_))
   | exact headgatekeep_Regs.mono _ _ _
   | exact LeO.none _
   | refine LeO.ite ?_ ?_
   | refine LeO.bind ?_ (fun _ => ?_)
set_option maxHeartbeats 8000000 in
set_option maxRecDepth 100000 in
theorem headgatekeep_Tables.calls (k : Nat) (A0_0 : Option Addr) (c0_0 : Nat) (l0_0 : List (S53)) (a0_1 : Int) (a0_2 : ByteArray) (a0_3 : Int) (a0_4 : Bool) (A1_0 : Option Addr) (c1_0 : Nat) (l1_0 : List (S53)) (a1_1 : Int) (a1_2 : ByteArray) (a1_3 : Int) (a1_4 : Bool) (r : Bool) (w : World) (hr0_0 : Kd.C k53 w A0_0 l0_0.length l0_0) (hc0_0 : l0_0.length ≤ c0_0) (hr1_0 : Kd.C k53 w A1_0 l1_0.length l1_0) (hc1_0 : l1_0.length ≤ c1_0) (h : headgatekeep_Tables.f k l0_0 a0_1 a0_2 a0_3 a0_4 l1_0 a1_1 a1_2 a1_3 a1_4 = some r) :
  Calls Tryd.prog 17 #[.agg #[.slice A0_0 l0_0.length c0_0, .int .i64 a0_1, .string a0_2, .int .u32 a0_3, .bool a0_4], .agg #[.slice A1_0 l1_0.length c1_0, .int .i64 a1_1, .string a1_2, .int .u32 a1_3, .bool a1_4]] w fun e w' => e = .returned (.bool r) ∧ Below w.heap.size w w' := by
 have hu27 := Tryd.underlying27
 have HR0_0 := Aside0.mk hr0_0
 have HC0_0 := Aside0.mk hc0_0
 clear hr0_0 hc0_0
 have HR1_0 := Aside0.mk hr1_0
 have HC1_0 := Aside0.mk hc1_0
 clear hr1_0 hc1_0
 have HB := Aside0.mk (Below.refl w.heap.size w)
 have H : ((headgatekeep_Regs.f k l0_0 l1_0).bind fun t229 => (if t229 = true then (if a0_1 = a1_1 then (if a0_2.toList = a1_2.toList then (if a0_3 = a1_3 then (some (a0_4 == a1_4)) else (some false)) else (some false)) else (some false)) else (some false))) = some r := h
 clear h
 replace H := Option.bind_eq_some_iff.mp H
 obtain ⟨t229, A30, H⟩ := H
 try dsimp only at H
 have A3 := Aside0.mk A30
 clear A30
 refine neg_first (p := (t229 = true)) (fun c4 => ?_) (fun c4 => ?_)
 ·replace c4 := Bool.eq_false_iff.mpr c4
  subst c4
  have H1 := H
  rw [if_neg (show ¬ (false = true) by decide)] at H1
  clear H
  have H := H1
  clear H1
  obtain rfl := Option.some.inj H
  go_enter Tryd.func17, Tryd.ntmps17
  go_wp2_with (first | ((with_reducible refine gate_dst (N := 2) rfl ?_); refine box_event ?hg (N := 2) ?hd (cs := #[.slice A0_0 l0_0.length c0_0, .int .i64 a0_1, .string a0_2, .int .u32 a0_3, .bool a0_4]) (t := 27) ?hr ?_; (case hd => rfl); (case hg => rfl); (case hr => first | (go_simp; done) | (go_simp; rfl)); intro gb227 hg w28 hbox hb; have n0_ := Aside0.mk (below_step (hb_ HB) hb); have n1_ := Aside0.mk (hbox); have n2_ := Aside0.mk ((by rw [hg]; exact (below_size (hb_ HB)) : w.heap.size ≤ gb227)); have n3_ := Aside0.mk ((by rw [hg]; exact (below_size (hb_ HB)) : w.heap.size ≤ gb227)); clear HB; have HB := n0_; have BK227 := n1_; have GW227 := n2_; have GE227 := n3_; clear n0_ n1_ n2_ n3_; clear hb hbox hg) | ((with_reducible refine gate_dst (N := 3) rfl ?_); refine box_event ?hg (N := 3) ?hd (cs := #[.slice A1_0 l1_0.length c1_0, .int .i64 a1_1, .string a1_2, .int .u32 a1_3, .bool a1_4]) (t := 27) ?hr ?_; (case hd => rfl); (case hg => rfl); (case hr => first | (go_simp; done) | (go_simp; rfl)); intro gb228 hg w29 hbox hb; have n0_ := Aside0.mk (blk_below (bk_ BK227) hb); have n1_ := Aside0.mk (below_step (hb_ HB) hb); have n2_ := Aside0.mk (hbox); have n3_ := Aside0.mk ((by rw [hg]; exact (below_size (hb_ HB)) : w.heap.size ≤ gb228)); have n4_ := Aside0.mk ((by rw [hg]; exact (below_size (hb_ HB)) : w.heap.size ≤ gb228)); have n5_ := Aside0.mk ((by rw [hg]; exact Nat.ne_of_lt (blk_lt (g := gb227) (o := .cells #[.slice A0_0 l0_0.length c0_0, .int .i64 a0_1, .string a0_2, .int .u32 a0_3, .bool a0_4] 27 (0, 0)) (bk_ BK227)) : gb227 ≠ gb228)); have n6_ := Aside0.mk ((by rw [hg]; exact Nat.ne_of_gt (blk_lt (g := gb227) (o := .cells #[.slice A0_0 l0_0.length c0_0, .int .i64 a0_1, .string a0_2, .int .u32 a0_3, .bool a0_4] 27 (0, 0)) (bk_ BK227)) : gb228 ≠ gb227)); clear BK227; clear HB; have BK227 := n0_; have HB := n1_; have BK228 := n2_; have GW228 := n3_; have GE228 := n4_; have NB227_228 := n5_; have NB228_227 := n6_; clear n0_ n1_ n2_ n3_ n4_ n5_ n6_; clear hb hbox hg; have hnb30 := NB227_228.out; have hnc30 := NB228_227.out; have hcz31_0 : w29.cell? ⟨gb227, 0, none⟩ = some (.slice A0_0 l0_0.length c0_0) := (blk_cell BK227.out 0).trans rfl; have hcz31_1 : w29.cell? ⟨gb227, 1, none⟩ = some (.int .i64 a0_1) := (blk_cell BK227.out 1).trans rfl; have hcz31_2 : w29.cell? ⟨gb227, 2, none⟩ = some (.string a0_2) := (blk_cell BK227.out 2).trans rfl; have hcz31_3 : w29.cell? ⟨gb227, 3, none⟩ = some (.int .u32 a0_3) := (blk_cell BK227.out 3).trans rfl; have hcz31_4 : w29.cell? ⟨gb227, 4, none⟩ = some (.bool a0_4) := (blk_cell BK227.out 4).trans rfl; have hfz31_0 := blk_frozen BK227.out 0; have hfz31_1 := blk_frozen BK227.out 1; have hfz31_2 := blk_frozen BK227.out 2; have hfz31_3 := blk_frozen BK227.out 3; have hfz31_4 := blk_frozen BK227.out 4; have hcz32_0 : w29.cell? ⟨gb228, 0, none⟩ = some (.slice A1_0 l1_0.length c1_0) := (blk_cell BK228.out 0).trans rfl; have hcz32_1 : w29.cell? ⟨gb228, 1, none⟩ = some (.int .i64 a1_1) := (blk_cell BK228.out 1).trans rfl; have hcz32_2 : w29.cell? ⟨gb228, 2, none⟩ = some (.string a1_2) := (blk_cell BK228.out 2).trans rfl; have hcz32_3 : w29.cell? ⟨gb228, 3, none⟩ = some (.int .u32 a1_3) := (blk_cell BK228.out 3).trans rfl; have hcz32_4 : w29.cell? ⟨gb228, 4, none⟩ = some (.bool a1_4) := (blk_cell BK228.out 4).trans rfl; have hfz32_0 := blk_frozen BK228.out 0; have hfz32_1 := blk_frozen BK228.out 1; have hfz32_2 := blk_frozen BK228.out 2; have hfz32_3 := blk_frozen BK228.out 3; have hfz32_4 := blk_frozen BK228.out 4) | ((with_reducible refine gate_callee (f := 23) rfl ?_); refine goesL_ (some 9) rfl rfl Tryd.func23 (by kernel_rfl) rfl #[.slice A0_0 l0_0.length c0_0, .slice A1_0 l1_0.length c1_0] rfl (by (try simp only [List.map_toArray, List.map_cons, List.map_nil]); first | done | rfl | (simp only [List.length_drop, List.length_take]; rfl)) ?_; (with_reducible refine (headgatekeep_Regs.calls k _ _ l0_0 _ _ l1_0 false _ ?side1 ?side2 ?side3 ?side4 A3.out).mono ?_); (case side1 => repeat (first | exact (Kd.C_below HR0_0.out HB.out) | (with_reducible refine Kd.C_alloc ?_ _) | (with_reducible refine Kd.C_drewN ?_ _) | (with_reducible refine Kd.C_drew ?_))); (case side2 => exact HC0_0.out); (case side3 => repeat (first | exact (Kd.C_below HR1_0.out HB.out) | (with_reducible refine Kd.C_alloc ?_ _) | (with_reducible refine Kd.C_drewN ?_ _) | (with_reducible refine Kd.C_drew ?_))); (case side4 => exact HC1_0.out); rintro e w' ⟨rfl, ⟨nd, rfl⟩⟩; refine ⟨_, rfl, ?_⟩))
  go_ret
  exact ⟨by first | rfl | (simp [errW_none, errW_some] <;> rfl) | (simp [*, errW_none, errW_some] <;> rfl) | (simp [bt, *]; done) | (unfold bt; simp [*]; done), by repeat (first | (with_reducible first | exact HB.out | apply below_alloc | apply pw_below_drewN | apply below_drew1 | refine below_set ?_ GE227.out | refine below_set ?_ GE228.out) | exact HB.out)⟩
 subst c4
 have H1 := H
 rw [if_pos rfl] at H1
 clear H
 have H := H1
 clear H1
 refine neg_first (p := (a0_1 = a1_1)) (fun c5 => ?_) (fun c5 => ?_)
 ·rw [if_neg c5] at H
  have c5b0 : (a0_1 == a1_1) = false := beq_eq_false_iff_ne.mpr c5
  have c5b1 : (a0_1 != a1_1) = true := bne_iff_ne.mpr c5
  obtain rfl := Option.some.inj H
  go_enter Tryd.func17, Tryd.ntmps17
  go_wp2_with (first | ((with_reducible refine gate_dst (N := 2) rfl ?_); refine box_event ?hg (N := 2) ?hd (cs := #[.slice A0_0 l0_0.length c0_0, .int .i64 a0_1, .string a0_2, .int .u32 a0_3, .bool a0_4]) (t := 27) ?hr ?_; (case hd => rfl); (case hg => rfl); (case hr => first | (go_simp; done) | (go_simp; rfl)); intro gb227 hg w23 hbox hb; have n0_ := Aside0.mk (below_step (hb_ HB) hb); have n1_ := Aside0.mk (hbox); have n2_ := Aside0.mk ((by rw [hg]; exact (below_size (hb_ HB)) : w.heap.size ≤ gb227)); have n3_ := Aside0.mk ((by rw [hg]; exact (below_size (hb_ HB)) : w.heap.size ≤ gb227)); clear HB; have HB := n0_; have BK227 := n1_; have GW227 := n2_; have GE227 := n3_; clear n0_ n1_ n2_ n3_; clear hb hbox hg) | ((with_reducible refine gate_dst (N := 3) rfl ?_); refine box_event ?hg (N := 3) ?hd (cs := #[.slice A1_0 l1_0.length c1_0, .int .i64 a1_1, .string a1_2, .int .u32 a1_3, .bool a1_4]) (t := 27) ?hr ?_; (case hd => rfl); (case hg => rfl); (case hr => first | (go_simp; done) | (go_simp; rfl)); intro gb228 hg w24 hbox hb; have n0_ := Aside0.mk (blk_below (bk_ BK227) hb); have n1_ := Aside0.mk (below_step (hb_ HB) hb); have n2_ := Aside0.mk (hbox); have n3_ := Aside0.mk ((by rw [hg]; exact (below_size (hb_ HB)) : w.heap.size ≤ gb228)); have n4_ := Aside0.mk ((by rw [hg]; exact (below_size (hb_ HB)) : w.heap.size ≤ gb228)); have n5_ := Aside0.mk ((by rw [hg]; exact Nat.ne_of_lt (blk_lt (g := gb227) (o := .cells #[.slice A0_0 l0_0.length c0_0, .int .i64 a0_1, .string a0_2, .int .u32 a0_3, .bool a0_4] 27 (0, 0)) (bk_ BK227)) : gb227 ≠ gb228)); have n6_ := Aside0.mk ((by rw [hg]; exact Nat.ne_of_gt (blk_lt (g := gb227) (o := .cells #[.slice A0_0 l0_0.length c0_0, .int .i64 a0_1, .string a0_2, .int .u32 a0_3, .bool a0_4] 27 (0, 0)) (bk_ BK227)) : gb228 ≠ gb227)); clear BK227; clear HB; have BK227 := n0_; have HB := n1_; have BK228 := n2_; have GW228 := n3_; have GE228 := n4_; have NB227_228 := n5_; have NB228_227 := n6_; clear n0_ n1_ n2_ n3_ n4_ n5_ n6_; clear hb hbox hg; have hnb25 := NB227_228.out; have hnc25 := NB228_227.out; have hcz26_0 : w24.cell? ⟨gb227, 0, none⟩ = some (.slice A0_0 l0_0.length c0_0) := (blk_cell BK227.out 0).trans rfl; have hcz26_1 : w24.cell? ⟨gb227, 1, none⟩ = some (.int .i64 a0_1) := (blk_cell BK227.out 1).trans rfl; have hcz26_2 : w24.cell? ⟨gb227, 2, none⟩ = some (.string a0_2) := (blk_cell BK227.out 2).trans rfl; have hcz26_3 : w24.cell? ⟨gb227, 3, none⟩ = some (.int .u32 a0_3) := (blk_cell BK227.out 3).trans rfl; have hcz26_4 : w24.cell? ⟨gb227, 4, none⟩ = some (.bool a0_4) := (blk_cell BK227.out 4).trans rfl; have hfz26_0 := blk_frozen BK227.out 0; have hfz26_1 := blk_frozen BK227.out 1; have hfz26_2 := blk_frozen BK227.out 2; have hfz26_3 := blk_frozen BK227.out 3; have hfz26_4 := blk_frozen BK227.out 4; have hcz27_0 : w24.cell? ⟨gb228, 0, none⟩ = some (.slice A1_0 l1_0.length c1_0) := (blk_cell BK228.out 0).trans rfl; have hcz27_1 : w24.cell? ⟨gb228, 1, none⟩ = some (.int .i64 a1_1) := (blk_cell BK228.out 1).trans rfl; have hcz27_2 : w24.cell? ⟨gb228, 2, none⟩ = some (.string a1_2) := (blk_cell BK228.out 2).trans rfl; have hcz27_3 : w24.cell? ⟨gb228, 3, none⟩ = some (.int .u32 a1_3) := (blk_cell BK228.out 3).trans rfl; have hcz27_4 : w24.cell? ⟨gb228, 4, none⟩ = some (.bool a1_4) := (blk_cell BK228.out 4).trans rfl; have hfz27_0 := blk_frozen BK228.out 0; have hfz27_1 := blk_frozen BK228.out 1; have hfz27_2 := blk_frozen BK228.out 2; have hfz27_3 := blk_frozen BK228.out 3; have hfz27_4 := blk_frozen BK228.out 4) | ((with_reducible refine gate_callee (f := 23) rfl ?_); refine goesL_ (some 9) rfl rfl Tryd.func23 (by kernel_rfl) rfl #[.slice A0_0 l0_0.length c0_0, .slice A1_0 l1_0.length c1_0] rfl (by (try simp only [List.map_toArray, List.map_cons, List.map_nil]); first | done | rfl | (simp only [List.length_drop, List.length_take]; rfl)) ?_; (with_reducible refine (headgatekeep_Regs.calls k _ _ l0_0 _ _ l1_0 true _ ?side1 ?side2 ?side3 ?side4 A3.out).mono ?_); (case side1 => repeat (first | exact (Kd.C_below HR0_0.out HB.out) | (with_reducible refine Kd.C_alloc ?_ _) | (with_reducible refine Kd.C_drewN ?_ _) | (with_reducible refine Kd.C_drew ?_))); (case side2 => exact HC0_0.out); (case side3 => repeat (first | exact (Kd.C_below HR1_0.out HB.out) | (with_reducible refine Kd.C_alloc ?_ _) | (with_reducible refine Kd.C_drewN ?_ _) | (with_reducible refine Kd.C_drew ?_))); (case side4 => exact HC1_0.out); rintro e w' ⟨rfl, ⟨nd, rfl⟩⟩; refine ⟨_, rfl, ?_⟩))
  go_ret
  exact ⟨by first | rfl | (simp [errW_none, errW_some] <;> rfl) | (simp [*, errW_none, errW_some] <;> rfl) | (simp [bt, *]; done) | (unfold bt; simp [*]; done), by repeat (first | (with_reducible first | exact HB.out | apply below_alloc | apply pw_below_drewN | apply below_drew1 | refine below_set ?_ GE227.out | refine below_set ?_ GE228.out) | exact HB.out)⟩
 rw [if_pos c5] at H
 have c5b0 : (a0_1 == a1_1) = true := beq_iff_eq.mpr c5
 have c5b1 : (a0_1 != a1_1) = false := bne_eq_false_iff_eq.mpr c5
 clear c5
 refine neg_first (p := (a0_2.toList = a1_2.toList)) (fun c6 => ?_) (fun c6 => ?_)
 ·rw [if_neg c6] at H
  have c6b0 : (a0_2.toList == a1_2.toList) = false := beq_eq_false_iff_ne.mpr c6
  have c6b1 : (a0_2.toList != a1_2.toList) = true := bne_iff_ne.mpr c6
  obtain rfl := Option.some.inj H
  go_enter Tryd.func17, Tryd.ntmps17
  go_wp2_with (first | ((with_reducible refine gate_dst (N := 2) rfl ?_); refine box_event ?hg (N := 2) ?hd (cs := #[.slice A0_0 l0_0.length c0_0, .int .i64 a0_1, .string a0_2, .int .u32 a0_3, .bool a0_4]) (t := 27) ?hr ?_; (case hd => rfl); (case hg => rfl); (case hr => first | (go_simp; done) | (go_simp; rfl)); intro gb227 hg w18 hbox hb; have n0_ := Aside0.mk (below_step (hb_ HB) hb); have n1_ := Aside0.mk (hbox); have n2_ := Aside0.mk ((by rw [hg]; exact (below_size (hb_ HB)) : w.heap.size ≤ gb227)); have n3_ := Aside0.mk ((by rw [hg]; exact (below_size (hb_ HB)) : w.heap.size ≤ gb227)); clear HB; have HB := n0_; have BK227 := n1_; have GW227 := n2_; have GE227 := n3_; clear n0_ n1_ n2_ n3_; clear hb hbox hg) | ((with_reducible refine gate_dst (N := 3) rfl ?_); refine box_event ?hg (N := 3) ?hd (cs := #[.slice A1_0 l1_0.length c1_0, .int .i64 a1_1, .string a1_2, .int .u32 a1_3, .bool a1_4]) (t := 27) ?hr ?_; (case hd => rfl); (case hg => rfl); (case hr => first | (go_simp; done) | (go_simp; rfl)); intro gb228 hg w19 hbox hb; have n0_ := Aside0.mk (blk_below (bk_ BK227) hb); have n1_ := Aside0.mk (below_step (hb_ HB) hb); have n2_ := Aside0.mk (hbox); have n3_ := Aside0.mk ((by rw [hg]; exact (below_size (hb_ HB)) : w.heap.size ≤ gb228)); have n4_ := Aside0.mk ((by rw [hg]; exact (below_size (hb_ HB)) : w.heap.size ≤ gb228)); have n5_ := Aside0.mk ((by rw [hg]; exact Nat.ne_of_lt (blk_lt (g := gb227) (o := .cells #[.slice A0_0 l0_0.length c0_0, .int .i64 a0_1, .string a0_2, .int .u32 a0_3, .bool a0_4] 27 (0, 0)) (bk_ BK227)) : gb227 ≠ gb228)); have n6_ := Aside0.mk ((by rw [hg]; exact Nat.ne_of_gt (blk_lt (g := gb227) (o := .cells #[.slice A0_0 l0_0.length c0_0, .int .i64 a0_1, .string a0_2, .int .u32 a0_3, .bool a0_4] 27 (0, 0)) (bk_ BK227)) : gb228 ≠ gb227)); clear BK227; clear HB; have BK227 := n0_; have HB := n1_; have BK228 := n2_; have GW228 := n3_; have GE228 := n4_; have NB227_228 := n5_; have NB228_227 := n6_; clear n0_ n1_ n2_ n3_ n4_ n5_ n6_; clear hb hbox hg; have hnb20 := NB227_228.out; have hnc20 := NB228_227.out; have hcz21_0 : w19.cell? ⟨gb227, 0, none⟩ = some (.slice A0_0 l0_0.length c0_0) := (blk_cell BK227.out 0).trans rfl; have hcz21_1 : w19.cell? ⟨gb227, 1, none⟩ = some (.int .i64 a0_1) := (blk_cell BK227.out 1).trans rfl; have hcz21_2 : w19.cell? ⟨gb227, 2, none⟩ = some (.string a0_2) := (blk_cell BK227.out 2).trans rfl; have hcz21_3 : w19.cell? ⟨gb227, 3, none⟩ = some (.int .u32 a0_3) := (blk_cell BK227.out 3).trans rfl; have hcz21_4 : w19.cell? ⟨gb227, 4, none⟩ = some (.bool a0_4) := (blk_cell BK227.out 4).trans rfl; have hfz21_0 := blk_frozen BK227.out 0; have hfz21_1 := blk_frozen BK227.out 1; have hfz21_2 := blk_frozen BK227.out 2; have hfz21_3 := blk_frozen BK227.out 3; have hfz21_4 := blk_frozen BK227.out 4; have hcz22_0 : w19.cell? ⟨gb228, 0, none⟩ = some (.slice A1_0 l1_0.length c1_0) := (blk_cell BK228.out 0).trans rfl; have hcz22_1 : w19.cell? ⟨gb228, 1, none⟩ = some (.int .i64 a1_1) := (blk_cell BK228.out 1).trans rfl; have hcz22_2 : w19.cell? ⟨gb228, 2, none⟩ = some (.string a1_2) := (blk_cell BK228.out 2).trans rfl; have hcz22_3 : w19.cell? ⟨gb228, 3, none⟩ = some (.int .u32 a1_3) := (blk_cell BK228.out 3).trans rfl; have hcz22_4 : w19.cell? ⟨gb228, 4, none⟩ = some (.bool a1_4) := (blk_cell BK228.out 4).trans rfl; have hfz22_0 := blk_frozen BK228.out 0; have hfz22_1 := blk_frozen BK228.out 1; have hfz22_2 := blk_frozen BK228.out 2; have hfz22_3 := blk_frozen BK228.out 3; have hfz22_4 := blk_frozen BK228.out 4) | ((with_reducible refine gate_callee (f := 23) rfl ?_); refine goesL_ (some 9) rfl rfl Tryd.func23 (by kernel_rfl) rfl #[.slice A0_0 l0_0.length c0_0, .slice A1_0 l1_0.length c1_0] rfl (by (try simp only [List.map_toArray, List.map_cons, List.map_nil]); first | done | rfl | (simp only [List.length_drop, List.length_take]; rfl)) ?_; (with_reducible refine (headgatekeep_Regs.calls k _ _ l0_0 _ _ l1_0 true _ ?side1 ?side2 ?side3 ?side4 A3.out).mono ?_); (case side1 => repeat (first | exact (Kd.C_below HR0_0.out HB.out) | (with_reducible refine Kd.C_alloc ?_ _) | (with_reducible refine Kd.C_drewN ?_ _) | (with_reducible refine Kd.C_drew ?_))); (case side2 => exact HC0_0.out); (case side3 => repeat (first | exact (Kd.C_below HR1_0.out HB.out) | (with_reducible refine Kd.C_alloc ?_ _) | (with_reducible refine Kd.C_drewN ?_ _) | (with_reducible refine Kd.C_drew ?_))); (case side4 => exact HC1_0.out); rintro e w' ⟨rfl, ⟨nd, rfl⟩⟩; refine ⟨_, rfl, ?_⟩))
  go_ret
  exact ⟨by first | rfl | (simp [errW_none, errW_some] <;> rfl) | (simp [*, errW_none, errW_some] <;> rfl) | (simp [bt, *]; done) | (unfold bt; simp [*]; done), by repeat (first | (with_reducible first | exact HB.out | apply below_alloc | apply pw_below_drewN | apply below_drew1 | refine below_set ?_ GE227.out | refine below_set ?_ GE228.out) | exact HB.out)⟩
 rw [if_pos c6] at H
 have c6b0 : (a0_2.toList == a1_2.toList) = true := beq_iff_eq.mpr c6
 have c6b1 : (a0_2.toList != a1_2.toList) = false := bne_eq_false_iff_eq.mpr c6
 clear c6
 refine neg_first (p := (a0_3 = a1_3)) (fun c7 => ?_) (fun c7 => ?_)
 ·rw [if_neg c7] at H
  have c7b0 : (a0_3 == a1_3) = false := beq_eq_false_iff_ne.mpr c7
  have c7b1 : (a0_3 != a1_3) = true := bne_iff_ne.mpr c7
  obtain rfl := Option.some.inj H
  go_enter Tryd.func17, Tryd.ntmps17
  go_wp2_with (first | ((with_reducible refine gate_dst (N := 2) rfl ?_); refine box_event ?hg (N := 2) ?hd (cs := #[.slice A0_0 l0_0.length c0_0, .int .i64 a0_1, .string a0_2, .int .u32 a0_3, .bool a0_4]) (t := 27) ?hr ?_; (case hd => rfl); (case hg => rfl); (case hr => first | (go_simp; done) | (go_simp; rfl)); intro gb227 hg w13 hbox hb; have n0_ := Aside0.mk (below_step (hb_ HB) hb); have n1_ := Aside0.mk (hbox); have n2_ := Aside0.mk ((by rw [hg]; exact (below_size (hb_ HB)) : w.heap.size ≤ gb227)); have n3_ := Aside0.mk ((by rw [hg]; exact (below_size (hb_ HB)) : w.heap.size ≤ gb227)); clear HB; have HB := n0_; have BK227 := n1_; have GW227 := n2_; have GE227 := n3_; clear n0_ n1_ n2_ n3_; clear hb hbox hg) | ((with_reducible refine gate_dst (N := 3) rfl ?_); refine box_event ?hg (N := 3) ?hd (cs := #[.slice A1_0 l1_0.length c1_0, .int .i64 a1_1, .string a1_2, .int .u32 a1_3, .bool a1_4]) (t := 27) ?hr ?_; (case hd => rfl); (case hg => rfl); (case hr => first | (go_simp; done) | (go_simp; rfl)); intro gb228 hg w14 hbox hb; have n0_ := Aside0.mk (blk_below (bk_ BK227) hb); have n1_ := Aside0.mk (below_step (hb_ HB) hb); have n2_ := Aside0.mk (hbox); have n3_ := Aside0.mk ((by rw [hg]; exact (below_size (hb_ HB)) : w.heap.size ≤ gb228)); have n4_ := Aside0.mk ((by rw [hg]; exact (below_size (hb_ HB)) : w.heap.size ≤ gb228)); have n5_ := Aside0.mk ((by rw [hg]; exact Nat.ne_of_lt (blk_lt (g := gb227) (o := .cells #[.slice A0_0 l0_0.length c0_0, .int .i64 a0_1, .string a0_2, .int .u32 a0_3, .bool a0_4] 27 (0, 0)) (bk_ BK227)) : gb227 ≠ gb228)); have n6_ := Aside0.mk ((by rw [hg]; exact Nat.ne_of_gt (blk_lt (g := gb227) (o := .cells #[.slice A0_0 l0_0.length c0_0, .int .i64 a0_1, .string a0_2, .int .u32 a0_3, .bool a0_4] 27 (0, 0)) (bk_ BK227)) : gb228 ≠ gb227)); clear BK227; clear HB; have BK227 := n0_; have HB := n1_; have BK228 := n2_; have GW228 := n3_; have GE228 := n4_; have NB227_228 := n5_; have NB228_227 := n6_; clear n0_ n1_ n2_ n3_ n4_ n5_ n6_; clear hb hbox hg; have hnb15 := NB227_228.out; have hnc15 := NB228_227.out; have hcz16_0 : w14.cell? ⟨gb227, 0, none⟩ = some (.slice A0_0 l0_0.length c0_0) := (blk_cell BK227.out 0).trans rfl; have hcz16_1 : w14.cell? ⟨gb227, 1, none⟩ = some (.int .i64 a0_1) := (blk_cell BK227.out 1).trans rfl; have hcz16_2 : w14.cell? ⟨gb227, 2, none⟩ = some (.string a0_2) := (blk_cell BK227.out 2).trans rfl; have hcz16_3 : w14.cell? ⟨gb227, 3, none⟩ = some (.int .u32 a0_3) := (blk_cell BK227.out 3).trans rfl; have hcz16_4 : w14.cell? ⟨gb227, 4, none⟩ = some (.bool a0_4) := (blk_cell BK227.out 4).trans rfl; have hfz16_0 := blk_frozen BK227.out 0; have hfz16_1 := blk_frozen BK227.out 1; have hfz16_2 := blk_frozen BK227.out 2; have hfz16_3 := blk_frozen BK227.out 3; have hfz16_4 := blk_frozen BK227.out 4; have hcz17_0 : w14.cell? ⟨gb228, 0, none⟩ = some (.slice A1_0 l1_0.length c1_0) := (blk_cell BK228.out 0).trans rfl; have hcz17_1 : w14.cell? ⟨gb228, 1, none⟩ = some (.int .i64 a1_1) := (blk_cell BK228.out 1).trans rfl; have hcz17_2 : w14.cell? ⟨gb228, 2, none⟩ = some (.string a1_2) := (blk_cell BK228.out 2).trans rfl; have hcz17_3 : w14.cell? ⟨gb228, 3, none⟩ = some (.int .u32 a1_3) := (blk_cell BK228.out 3).trans rfl; have hcz17_4 : w14.cell? ⟨gb228, 4, none⟩ = some (.bool a1_4) := (blk_cell BK228.out 4).trans rfl; have hfz17_0 := blk_frozen BK228.out 0; have hfz17_1 := blk_frozen BK228.out 1; have hfz17_2 := blk_frozen BK228.out 2; have hfz17_3 := blk_frozen BK228.out 3; have hfz17_4 := blk_frozen BK228.out 4) | ((with_reducible refine gate_callee (f := 23) rfl ?_); refine goesL_ (some 9) rfl rfl Tryd.func23 (by kernel_rfl) rfl #[.slice A0_0 l0_0.length c0_0, .slice A1_0 l1_0.length c1_0] rfl (by (try simp only [List.map_toArray, List.map_cons, List.map_nil]); first | done | rfl | (simp only [List.length_drop, List.length_take]; rfl)) ?_; (with_reducible refine (headgatekeep_Regs.calls k _ _ l0_0 _ _ l1_0 true _ ?side1 ?side2 ?side3 ?side4 A3.out).mono ?_); (case side1 => repeat (first | exact (Kd.C_below HR0_0.out HB.out) | (with_reducible refine Kd.C_alloc ?_ _) | (with_reducible refine Kd.C_drewN ?_ _) | (with_reducible refine Kd.C_drew ?_))); (case side2 => exact HC0_0.out); (case side3 => repeat (first | exact (Kd.C_below HR1_0.out HB.out) | (with_reducible refine Kd.C_alloc ?_ _) | (with_reducible refine Kd.C_drewN ?_ _) | (with_reducible refine Kd.C_drew ?_))); (case side4 => exact HC1_0.out); rintro e w' ⟨rfl, ⟨nd, rfl⟩⟩; refine ⟨_, rfl, ?_⟩))
  go_ret
  exact ⟨by first | rfl | (simp [errW_none, errW_some] <;> rfl) | (simp [*, errW_none, errW_some] <;> rfl) | (simp [bt, *]; done) | (unfold bt; simp [*]; done), by repeat (first | (with_reducible first | exact HB.out | apply below_alloc | apply pw_below_drewN | apply below_drew1 | refine below_set ?_ GE227.out | refine below_set ?_ GE228.out) | exact HB.out)⟩
 rw [if_pos c7] at H
 have c7b0 : (a0_3 == a1_3) = true := beq_iff_eq.mpr c7
 have c7b1 : (a0_3 != a1_3) = false := bne_eq_false_iff_eq.mpr c7
 clear c7
 obtain rfl := Option.some.inj H
 go_enter Tryd.func17, Tryd.ntmps17
 go_wp2_with (first | ((with_reducible refine gate_dst (N := 2) rfl ?_); refine box_event ?hg (N := 2) ?hd (cs := #[.slice A0_0 l0_0.length c0_0, .int .i64 a0_1, .string a0_2, .int .u32 a0_3, .bool a0_4]) (t := 27) ?hr ?_; (case hd => rfl); (case hg => rfl); (case hr => first | (go_simp; done) | (go_simp; rfl)); intro gb227 hg w8 hbox hb; have n0_ := Aside0.mk (below_step (hb_ HB) hb); have n1_ := Aside0.mk (hbox); have n2_ := Aside0.mk ((by rw [hg]; exact (below_size (hb_ HB)) : w.heap.size ≤ gb227)); have n3_ := Aside0.mk ((by rw [hg]; exact (below_size (hb_ HB)) : w.heap.size ≤ gb227)); clear HB; have HB := n0_; have BK227 := n1_; have GW227 := n2_; have GE227 := n3_; clear n0_ n1_ n2_ n3_; clear hb hbox hg) | ((with_reducible refine gate_dst (N := 3) rfl ?_); refine box_event ?hg (N := 3) ?hd (cs := #[.slice A1_0 l1_0.length c1_0, .int .i64 a1_1, .string a1_2, .int .u32 a1_3, .bool a1_4]) (t := 27) ?hr ?_; (case hd => rfl); (case hg => rfl); (case hr => first | (go_simp; done) | (go_simp; rfl)); intro gb228 hg w9 hbox hb; have n0_ := Aside0.mk (blk_below (bk_ BK227) hb); have n1_ := Aside0.mk (below_step (hb_ HB) hb); have n2_ := Aside0.mk (hbox); have n3_ := Aside0.mk ((by rw [hg]; exact (below_size (hb_ HB)) : w.heap.size ≤ gb228)); have n4_ := Aside0.mk ((by rw [hg]; exact (below_size (hb_ HB)) : w.heap.size ≤ gb228)); have n5_ := Aside0.mk ((by rw [hg]; exact Nat.ne_of_lt (blk_lt (g := gb227) (o := .cells #[.slice A0_0 l0_0.length c0_0, .int .i64 a0_1, .string a0_2, .int .u32 a0_3, .bool a0_4] 27 (0, 0)) (bk_ BK227)) : gb227 ≠ gb228)); have n6_ := Aside0.mk ((by rw [hg]; exact Nat.ne_of_gt (blk_lt (g := gb227) (o := .cells #[.slice A0_0 l0_0.length c0_0, .int .i64 a0_1, .string a0_2, .int .u32 a0_3, .bool a0_4] 27 (0, 0)) (bk_ BK227)) : gb228 ≠ gb227)); clear BK227; clear HB; have BK227 := n0_; have HB := n1_; have BK228 := n2_; have GW228 := n3_; have GE228 := n4_; have NB227_228 := n5_; have NB228_227 := n6_; clear n0_ n1_ n2_ n3_ n4_ n5_ n6_; clear hb hbox hg; have hnb10 := NB227_228.out; have hnc10 := NB228_227.out; have hcz11_0 : w9.cell? ⟨gb227, 0, none⟩ = some (.slice A0_0 l0_0.length c0_0) := (blk_cell BK227.out 0).trans rfl; have hcz11_1 : w9.cell? ⟨gb227, 1, none⟩ = some (.int .i64 a0_1) := (blk_cell BK227.out 1).trans rfl; have hcz11_2 : w9.cell? ⟨gb227, 2, none⟩ = some (.string a0_2) := (blk_cell BK227.out 2).trans rfl; have hcz11_3 : w9.cell? ⟨gb227, 3, none⟩ = some (.int .u32 a0_3) := (blk_cell BK227.out 3).trans rfl; have hcz11_4 : w9.cell? ⟨gb227, 4, none⟩ = some (.bool a0_4) := (blk_cell BK227.out 4).trans rfl; have hfz11_0 := blk_frozen BK227.out 0; have hfz11_1 := blk_frozen BK227.out 1; have hfz11_2 := blk_frozen BK227.out 2; have hfz11_3 := blk_frozen BK227.out 3; have hfz11_4 := blk_frozen BK227.out 4; have hcz12_0 : w9.cell? ⟨gb228, 0, none⟩ = some (.slice A1_0 l1_0.length c1_0) := (blk_cell BK228.out 0).trans rfl; have hcz12_1 : w9.cell? ⟨gb228, 1, none⟩ = some (.int .i64 a1_1) := (blk_cell BK228.out 1).trans rfl; have hcz12_2 : w9.cell? ⟨gb228, 2, none⟩ = some (.string a1_2) := (blk_cell BK228.out 2).trans rfl; have hcz12_3 : w9.cell? ⟨gb228, 3, none⟩ = some (.int .u32 a1_3) := (blk_cell BK228.out 3).trans rfl; have hcz12_4 : w9.cell? ⟨gb228, 4, none⟩ = some (.bool a1_4) := (blk_cell BK228.out 4).trans rfl; have hfz12_0 := blk_frozen BK228.out 0; have hfz12_1 := blk_frozen BK228.out 1; have hfz12_2 := blk_frozen BK228.out 2; have hfz12_3 := blk_frozen BK228.out 3; have hfz12_4 := blk_frozen BK228.out 4) | ((with_reducible refine gate_callee (f := 23) rfl ?_); refine goesL_ (some 9) rfl rfl Tryd.func23 (by kernel_rfl) rfl #[.slice A0_0 l0_0.length c0_0, .slice A1_0 l1_0.length c1_0] rfl (by (try simp only [List.map_toArray, List.map_cons, List.map_nil]); first | done | rfl | (simp only [List.length_drop, List.length_take]; rfl)) ?_; (with_reducible refine (headgatekeep_Regs.calls k _ _ l0_0 _ _ l1_0 true _ ?side1 ?side2 ?side3 ?side4 A3.out).mono ?_); (case side1 => repeat (first | exact (Kd.C_below HR0_0.out HB.out) | (with_reducible refine Kd.C_alloc ?_ _) | (with_reducible refine Kd.C_drewN ?_ _) | (with_reducible refine Kd.C_drew ?_))); (case side2 => exact HC0_0.out); (case side3 => repeat (first | exact (Kd.C_below HR1_0.out HB.out) | (with_reducible refine Kd.C_alloc ?_ _) | (with_reducible refine Kd.C_drewN ?_ _) | (with_reducible refine Kd.C_drew ?_))); (case side4 => exact HC1_0.out); rintro e w' ⟨rfl, ⟨nd, rfl⟩⟩; refine ⟨_, rfl, ?_⟩))
 go_ret
 exact ⟨by first | rfl | (simp [errW_none, errW_some] <;> rfl) | (simp [*, errW_none, errW_some] <;> rfl) | (simp [bt, *]; done) | (unfold bt; simp [*]; done), by repeat (first | (with_reducible first | exact HB.out | apply below_alloc | apply pw_below_drewN | apply below_drew1 | refine below_set ?_ GE227.out | refine below_set ?_ GE228.out) | exact HB.out)⟩
end Go.Proofs.YtjogkfcjlljjcaaDoor.P
namespace Go.Proofs.YtjogkfcjlljjcaaDoor.Pure
open Go.RowKit Go.Proofs.YtjogkfcjlljjcaaDoor.P Go.Proofs.YtjogkfcjlljjcaaDoorW.PrintWords Go.Proofs.YtjogkfcjlljjcaaDoorW.PrintLast Go.Proofs.YtjogkfcjlljjcaaDoorW.PrintMore Go.Proofs.YtjogkfcjlljjcaaDoor.Num
set_option linter.unusedVariables false
set_option linter.unusedSimpArgs false
def holds (l : List S53) (t : Int) (o h : ByteArray) : Bool :=
  if typed t then (if t = 5 ∨ t = 6 then reg l h else decide (h.toList = o.toList)) else false
theorem registered_l0 (h : ByteArray) (l : List S53) (hl : l.length ≤ 1000) : ∀ (n k i : Nat), i + n = l.length → n + 1 ≤ k → access_registered.l0 k h l (l.length : Int) (i : Int) = some ((l.drop i).any fun r => decide (r.f0.toList = h.toList))
  | 0, k + 1, i, hi, hk => by
    show (if (i : Int) < (l.length : Int) then _ else some false) = _
    rw [if_neg (by omega), List.drop_eq_nil_of_le (by omega)]
    rfl
  | n + 1, k + 1, i, hi, hk => by
    have hlt : i < l.length := by omega
    show (if (i : Int) < (l.length : Int) then (if 0 ≤ (i : Int) then (if (i : Int) < (l.length : Int) then (if ((rd_T53 l i).f0).toList = h.toList then (some true) else (access_registered.l0 k h l (l.length : Int) (wrap64 ((i : Int) + 1)))) else none) else none) else some false) = _
    rw [if_pos (by omega), if_pos (by omega), if_pos (by omega), rd_at l i hlt, List.drop_eq_getElem_cons hlt, List.any_cons]
    by_cases hc : (l[i]).f0.toList = h.toList
    · rw [if_pos hc, decide_eq_true hc]
      rfl
    · rw [if_neg hc, decide_eq_false hc, w64 (by omega) (by omega)]
      exact registered_l0 h l hl n k (i + 1) (by omega) (by omega)
theorem registered_spec (k : Nat) (l : List S53) (t : Int) (o : ByteArray) (g : Int) (b : Bool) (h : ByteArray) (hl : l.length ≤ 201) (hk : 210 ≤ k) : access_registered.f k l t o g b h = some (reg l h) :=
  registered_l0 h l (by omega) l.length k 0 (by omega) (by omega)
theorem typed_cases {t : Int} (h : typed t = true) : t = 1 ∨ t = 2 ∨ t = 3 ∨ t = 4 ∨ t = 5 ∨ t = 6 := by
  have := of_decide_eq_true h
  omega
theorem beq_dec (a b : List UInt8) : (a == b) = decide (a = b) := by
  by_cases h : a = b
  · rw [h]
    simp
  · rw [decide_eq_false h]
    exact beq_eq_false_iff_ne.mpr h
theorem Holds_spec (k : Nat) (l : List S53) (t : Int) (o : ByteArray) (g : Int) (b : Bool) (h : ByteArray) (hl : l.length ≤ 201) (hk : 210 ≤ k) : access_Holds.f k l t o g b h = some (holds l t o h) := by
  unfold access_Holds.f
  rw [Type_spec, Option.bind_some]
  unfold holds
  cases ht : typed t with
  | false => rfl
  | true =>
    rw [if_pos rfl, if_pos rfl, registered_spec k l t o g b h hl hk]
    rcases typed_cases ht with rfl | rfl | rfl | rfl | rfl | rfl
    all_goals first
      | (rw [if_pos (by decide), if_pos (by decide), if_pos (by decide +kernel), if_neg (by decide), beq_dec])
      | (rw [if_pos (by decide), if_pos (by decide), if_neg (by decide +kernel), if_pos (by decide)]; rfl)
end Go.Proofs.YtjogkfcjlljjcaaDoor.Pure
namespace Go.Proofs.YtjogkfcjlljjcaaDoor.Pure
open Go.RowKit Go.Proofs.YtjogkfcjlljjcaaDoor.P Go.Proofs.YtjogkfcjlljjcaaDoorW.PrintWords Go.Proofs.YtjogkfcjlljjcaaDoorW.PrintLast Go.Proofs.YtjogkfcjlljjcaaDoorW.PrintMore Go.Proofs.YtjogkfcjlljjcaaDoor.Num
set_option linter.unusedVariables false
set_option linter.unusedSimpArgs false
theorem tl_beq (a b : ByteArray) : (a.toList == b.toList) = decide (a = b) := by rw [beq_dec]; exact decide_eq_decide.mpr tl_inj
theorem keyL_none {l : List S53} {h : ByteArray} (hr : reg l h = false) : keyL l h = 0 := by
  unfold keyL
  rw [List.find?_eq_none.mpr]
  intro x hx
  have := (Bool.eq_false_iff.mp hr)
  intro z
  exact this ((reg_iff l h).mpr ⟨x, hx, tl_inj.mp (of_decide_eq_true z)⟩)
theorem keyL_some {l : List S53} {h : ByteArray} (hr : reg l h = true) : ∃ x ∈ l, x.f0 = h ∧ keyL l h = x.f1 := by
  unfold keyL
  cases hf : l.find? (fun r => decide (r.f0.toList = h.toList)) with
  | none =>
    obtain ⟨x, hx, he⟩ := (reg_iff l h).mp hr
    have := List.find?_eq_none.mp hf x hx
    exact absurd (decide_eq_true (by rw [he])) this
  | some x => exact (by
      have z := List.find?_some hf
      exact ⟨x, List.mem_of_find?_eq_some hf, tl_inj.mp (of_decide_eq_true z), rfl⟩)
theorem keyL_zero {l : List S53} (ho : okL l) (h : ByteArray) : keyL l h = 0 ↔ reg l h = false := by
  constructor
  · intro z
    cases hr : reg l h with
    | false => rfl
    | true =>
      obtain ⟨x, hx, _, hk⟩ := keyL_some hr
      rw [hk] at z
      exact absurd z (ho.2 x hx).2
  · exact keyL_none
theorem me_none {l : List S53} {c : S31} (hr : reg l c.f2 = false) : l.findIdx? (fun x => meP c x.f0 x.f1) = none := by
  rw [List.findIdx?_eq_none_iff]
  intro x hx
  unfold meP
  rw [tl_beq]
  refine decide_eq_false (fun z => ?_)
  exact (Bool.eq_false_iff.mp hr) ((reg_iff l c.f2).mpr ⟨x, hx, z⟩)
theorem me_new {l : List S53} {c : S31} (hr : reg l c.f2 = false) : idxP (meP c) (l ++ [(⟨c.f2, 0⟩ : S53)]) = l.length := by
  unfold idxP
  rw [List.findIdx?_append, me_none hr]
  have : ([(⟨c.f2, 0⟩ : S53)] : List S53).findIdx? (fun x => meP c x.f0 x.f1) = some 0 := by
    rw [List.findIdx?_cons]
    unfold meP
    simp
  rw [this]
  simp
theorem keyed_new (l : List S53) (h : ByteArray) (ky : Int) : keyed (l ++ [(⟨h, 0⟩ : S53)]) l.length ky = l ++ [(⟨h, ky⟩ : S53)] := by
  unfold keyed
  rw [rd_lt _ l.length (by simp)]
  simp
theorem me_put {l : List S53} {c : S31} (hr : reg l c.f2 = true) : ∃ i : Nat, ∃ hi : i < l.length, idxP (meP c) l = (i : Int) ∧ (l[i]).f0 = c.f2 := by
  unfold idxP
  cases hf : l.findIdx? (fun x => meP c x.f0 x.f1) with
  | none =>
    obtain ⟨x, hx, he⟩ := (reg_iff l c.f2).mp hr
    have := List.findIdx?_eq_none_iff.mp hf x hx
    unfold meP at this
    rw [tl_beq] at this
    exact absurd he (of_decide_eq_false this)
  | some i =>
    obtain ⟨hi, hp, _⟩ := List.findIdx?_eq_some_iff_getElem.mp hf
    refine ⟨i, hi, rfl, ?_⟩
    unfold meP at hp
    rw [tl_beq] at hp
    exact of_decide_eq_true hp
def rekey (l : List S53) (h : ByteArray) (ky : Int) : List S53 := l.map fun x => if x.f0 = h then ⟨x.f0, ky⟩ else x
theorem keyed_put {l : List S53} (ho : okL l) {i : Nat} (hi : i < l.length) {h : ByteArray} (he : (l[i]).f0 = h) (ky : Int) : keyed l i ky = rekey l h ky := by
  unfold keyed rekey
  rw [rd_lt l i hi]
  apply List.ext_getElem
  · rw [List.length_set, List.length_map]
  · intro j h1 h2
    rw [List.length_set] at h1
    rw [List.getElem_set, List.getElem_map]
    by_cases hij : i = j
    · subst hij
      rw [if_pos rfl, if_pos he]
    · rw [if_neg hij, if_neg]
      intro z
      have hp := List.pairwise_iff_getElem.mp ho.1
      rcases Nat.lt_or_gt_of_ne hij with q | q
      · exact hp i j hi h1 q (he.trans z.symm)
      · exact hp j i h1 hi q (z.trans he.symm)
end Go.Proofs.YtjogkfcjlljjcaaDoor.Pure
namespace Go.Proofs.YtjogkfcjlljjcaaDoor.Pure
open Go.RowKit Go.Proofs.YtjogkfcjlljjcaaDoor.P Go.Proofs.YtjogkfcjlljjcaaDoorW.PrintWords Go.Proofs.YtjogkfcjlljjcaaDoorW.PrintLast Go.Proofs.YtjogkfcjlljjcaaDoorW.PrintMore Go.Proofs.YtjogkfcjlljjcaaDoor.Num
set_option linter.unusedVariables false
set_option linter.unusedSimpArgs false
theorem do_bad (k : Nat) (l : List S53) (typ : Int) (host : ByteArray) (gen : Int) (apt : Bool) (c : S31) (hh : host.size ≤ 5000) (hl : ∀ x ∈ l, x.f0.size ≤ 5000) (hw : (Lit.int .i64 c.f0).wf = true) (h : ¬(8 ≤ c.f0 ∧ c.f0 ≤ 12) ∨ goodB l typ host = false ∨ nameB c.f2 = false) : do_f k l typ host gen apt c = do_same l typ host gen apt 5 := by
  unfold do_f
  rw [if_pos hw]
  by_cases ho : 8 ≤ c.f0 ∧ c.f0 ≤ 12
  · rw [if_neg (by rw [decide_eq_true ho]; decide), Good_spec l typ host gen apt hh hl, Option.bind_some]
    cases hg : goodB l typ host with
    | false => rw [if_pos rfl]
    | true =>
      rw [if_neg (by decide), show names_Name.f c.f2 = some (nameB c.f2) from rfl, Option.bind_some]
      cases hn : nameB c.f2 with
      | false => rw [if_pos rfl]
      | true =>
        rcases h with h | h | h
        · exact absurd ho h
        · rw [hg] at h; cases h
        · rw [hn] at h; cases h
  · rw [if_pos (by rw [decide_eq_false ho])]
theorem rsv_eq (k : Nat) (l : List S53) (typ : Int) (host : ByteArray) (gen : Int) (apt : Bool) (c : S31) (kk : Int) (hk : 210 ≤ k) (hl : l.length ≤ 201) :
    do_rsv k l typ host gen apt c kk = if typed c.f11 = false then do_same l typ host gen apt 5 else if asksP kk c = false then do_same l typ host gen apt 2 else if typ = 0 then some (l, c.f11, takenBy c, gen, apt, [], 1) else if (holds l typ host c.f2 && typ == c.f11) = true then do_same l typ host gen apt 1 else do_same l typ host gen apt 2 := by
  unfold do_rsv
  rw [Type_spec, Option.bind_some, Holds_spec k l typ host gen apt c.f2 hl hk, Option.bind_some]
theorem rel_eq (k : Nat) (l : List S53) (typ : Int) (host : ByteArray) (gen : Int) (apt : Bool) (c : S31) (kk : Int) (hk : 210 ≤ k) (hl : l.length ≤ 201) :
    do_rel k l typ host gen apt c kk = if asksP kk c = false then do_same l typ host gen apt 2 else if holds l typ host c.f2 = false then do_same l typ host gen apt 1 else if (typ != c.f11) = true then do_same l typ host gen apt 5 else some (l, 0, (⟨#[]⟩ : ByteArray), gen, apt, (if silent typ = true then [] else told c (fun _ _ => true) 3 l l.length), 1) := by
  unfold do_rel
  rw [Holds_spec k l typ host gen apt c.f2 hl hk, Option.bind_some]
theorem reg_eq (l : List S53) (typ : Int) (host : ByteArray) (gen : Int) (apt : Bool) (c : S31) (eb : Bool) (hg : okL l) :
    do_reg l typ host gen apt c (keyL l c.f2) eb = if (!c.f12 && c.f8 != keyL l c.f2) = true then do_same l typ host gen apt 2
      else if c.f9 = 0 then
        (if keyL l c.f2 = 0 then some (l, typ, host, gen, aptP c apt, [], 1)
         else if (decide (host = c.f2) || eb && ((l.filter fun x => !decide (x.f0 = c.f2)).length == 0)) = true then some (l.filter fun x => !decide (x.f0 = c.f2), 0, (⟨#[]⟩ : ByteArray), (gen + 1) % 4294967296, aptP c apt, freed c typ (l.filter fun x => !decide (x.f0 = c.f2)), 1)
         else some (l.filter fun x => !decide (x.f0 = c.f2), typ, host, (gen + 1) % 4294967296, aptP c apt, [], 1))
      else if keyL l c.f2 = 0 then
        (if l.length = 16 then do_same l typ host gen apt 8 else some (l ++ [(⟨c.f2, c.f9⟩ : S53)], typ, host, (gen + 1) % 4294967296, aptP c apt, [], 1))
      else some (rekey l c.f2 c.f9, typ, host, (gen + 1) % 4294967296, aptP c apt, [], 1) := by
  unfold do_reg
  simp only [tl_beq]
  by_cases h1 : (!c.f12 && c.f8 != keyL l c.f2) = true
  · rw [if_pos h1, if_pos h1]
  rw [if_neg h1, if_neg h1]
  by_cases h9 : c.f9 = 0
  · rw [if_pos h9, if_pos h9]
  rw [if_neg h9, if_neg h9]
  by_cases h0 : keyL l c.f2 = 0
  · rw [if_pos h0, if_pos h0, if_pos (me_new ((keyL_zero hg c.f2).mp h0)), keyed_new]
  · rw [if_neg h0, if_neg h0]
    obtain ⟨i, hi, e1, e2⟩ := me_put (c := c) (by
      cases hr : reg l c.f2 with
      | true => rfl
      | false => exact absurd (keyL_none hr) h0)
    rw [e1, if_pos (Int.natCast_nonneg i), Int.toNat_natCast, keyed_put hg hi e2]
end Go.Proofs.YtjogkfcjlljjcaaDoor.Pure
namespace Go.Proofs.YtjogkfcjlljjcaaDoor.P
open Go.RowKit Go.Proofs.YtjogkfcjlljjcaaDoorW.PrintWords
def Q100 (x : S100) : Prop := (Lit.int .i64 x.f0).wf = true ∧ (Lit.int .i64 x.f1).wf = true
theorem o100 : Rk.Opens Tryd.prog 100 k100 Q100 :=
  Rk.opens_iso (fun p => ⟨p.1, p.2⟩) (fun _ => rfl) (Rk.opens_struct Tryd.underlying100 (l := [(3, 0), (3, 1)]) (by kernel_rfl) (by kernel_rfl) (Rk.fits_cons (Rk.opens_int Tryd.underlying3) (by kernel_rfl) (Rk.fits_one (Rk.opens_int Tryd.underlying3) (by kernel_rfl))))
def Q31 (x : S31) : Prop := (Lit.int .i64 x.f0).wf = true ∧ (Lit.int .i64 x.f1).wf = true ∧ x.f2.size ≤ 9223372036854775807 ∧ (Lit.int .i64 x.f3).wf = true ∧ (Lit.int .i64 x.f4).wf = true ∧ x.f5.size ≤ 9223372036854775807 ∧ True ∧ (x.f7.length ≤ 9223372036854775807 ∧ ∀ y0 ∈ x.f7, Q100 y0) ∧ (Lit.int .u64 x.f8).wf = true ∧ (Lit.int .u64 x.f9).wf = true ∧ (Lit.int .u64 x.f10).wf = true ∧ (Lit.int .i64 x.f11).wf = true ∧ True ∧ (Lit.int .i64 x.f13).wf = true
theorem o31 : Rk.Opens Tryd.prog 31 k31 Q31 :=
  Rk.opens_iso (fun p => ⟨p.1, p.2.1, p.2.2.1, p.2.2.2.1, p.2.2.2.2.1, p.2.2.2.2.2.1, p.2.2.2.2.2.2.1, p.2.2.2.2.2.2.2.1, p.2.2.2.2.2.2.2.2.1, p.2.2.2.2.2.2.2.2.2.1, p.2.2.2.2.2.2.2.2.2.2.1, p.2.2.2.2.2.2.2.2.2.2.2.1, p.2.2.2.2.2.2.2.2.2.2.2.2.1, p.2.2.2.2.2.2.2.2.2.2.2.2.2⟩) (fun _ => rfl) (Rk.opens_struct Tryd.underlying31 (l := [(3, 0), (3, 1), (9, 2), (3, 3), (3, 4), (9, 5), (4, 6), (28, 7), (29, 8), (29, 9), (29, 10), (3, 11), (4, 12), (3, 13)]) (by kernel_rfl) (by kernel_rfl) (Rk.fits_cons (Rk.opens_int Tryd.underlying3) (by kernel_rfl) (Rk.fits_cons (Rk.opens_int Tryd.underlying3) (by kernel_rfl) (Rk.fits_cons (Rk.opens_string Tryd.underlying9) (by kernel_rfl) (Rk.fits_cons (Rk.opens_int Tryd.underlying3) (by kernel_rfl) (Rk.fits_cons (Rk.opens_int Tryd.underlying3) (by kernel_rfl) (Rk.fits_cons (Rk.opens_string Tryd.underlying9) (by kernel_rfl) (Rk.fits_cons (Rk.opens_bool Tryd.underlying4) (by kernel_rfl) (Rk.fits_cons (Rk.opens_slice Tryd.underlying28 (by kernel_rfl) o100) (by kernel_rfl) (Rk.fits_cons (Rk.opens_int Tryd.underlying29) (by kernel_rfl) (Rk.fits_cons (Rk.opens_int Tryd.underlying29) (by kernel_rfl) (Rk.fits_cons (Rk.opens_int Tryd.underlying29) (by kernel_rfl) (Rk.fits_cons (Rk.opens_int Tryd.underlying3) (by kernel_rfl) (Rk.fits_cons (Rk.opens_bool Tryd.underlying4) (by kernel_rfl) (Rk.fits_one (Rk.opens_int Tryd.underlying3) (by kernel_rfl))))))))))))))))
end Go.Proofs.YtjogkfcjlljjcaaDoor.P
namespace Go.Proofs.YtjogkfcjlljjcaaDoor.Pure
open Go.RowKit Go.Proofs.YtjogkfcjlljjcaaDoor.P Go.Proofs.YtjogkfcjlljjcaaDoorW.PrintWords Go.Proofs.YtjogkfcjlljjcaaDoorW.PrintLast Go.Proofs.YtjogkfcjlljjcaaDoorW.PrintMore Go.Proofs.YtjogkfcjlljjcaaDoor.Num
set_option linter.unusedVariables false
set_option linter.unusedSimpArgs false
theorem ok_filter {l : List S53} (h : okL l) (p : S53 → Bool) : okL (l.filter p) :=
  ⟨h.1.sublist List.filter_sublist, fun x hx => h.2 x ((List.mem_filter.mp hx).1)⟩
theorem ok_new {l : List S53} (h : okL l) {c : ByteArray} (hr : reg l c = false) (hn : nameB c = true) {ky : Int} (hk : ky ≠ 0) : okL (l ++ [(⟨c, ky⟩ : S53)]) := by
  refine ⟨?_, ?_⟩
  · rw [List.pairwise_append]
    refine ⟨h.1, List.pairwise_singleton _ _, ?_⟩
    intro a ha b hb
    rw [List.mem_singleton.mp hb]
    intro e
    exact (Bool.eq_false_iff.mp hr) ((reg_iff l c).mpr ⟨a, ha, e⟩)
  · intro x hx
    rcases List.mem_append.mp hx with hx | hx
    · exact h.2 x hx
    · rw [List.mem_singleton.mp hx]
      exact ⟨hn, hk⟩
theorem rekey_f0 (c : ByteArray) (ky : Int) (x : S53) : (if x.f0 = c then (⟨x.f0, ky⟩ : S53) else x).f0 = x.f0 := by split <;> rfl
theorem ok_rekey {l : List S53} (h : okL l) (c : ByteArray) {ky : Int} (hk : ky ≠ 0) : okL (rekey l c ky) := by
  unfold rekey
  refine ⟨?_, ?_⟩
  · rw [List.pairwise_map]
    exact h.1.imp (fun hab => by rw [rekey_f0, rekey_f0]; exact hab)
  · intro x hx
    obtain ⟨y, hy, rfl⟩ := List.mem_map.mp hx
    have := h.2 y hy
    rw [rekey_f0]
    refine ⟨this.1, ?_⟩
    split
    · exact hk
    · exact this.2
theorem reg_rekey (l : List S53) (c h : ByteArray) (ky : Int) (hr : reg l h = true) : reg (rekey l c ky) h = true := by
  obtain ⟨x, hx, rfl⟩ := (reg_iff l h).mp hr
  exact (reg_iff _ _).mpr ⟨_, List.mem_map.mpr ⟨x, hx, rfl⟩, rekey_f0 c ky x⟩
theorem reg_app (l m : List S53) (h : ByteArray) (hr : reg l h = true) : reg (l ++ m) h = true := by
  obtain ⟨x, hx, rfl⟩ := (reg_iff l h).mp hr
  exact (reg_iff _ _).mpr ⟨x, List.mem_append_left _ hx, rfl⟩
theorem reg_pos {l : List S53} {h : ByteArray} (hr : reg l h = true) : 0 < l.length := by
  obtain ⟨x, hx, _⟩ := (reg_iff l h).mp hr
  exact List.length_pos_of_mem hx
theorem mem_told {c : S31} {pred : ByteArray → Int → Bool} {why : Int} {l : List S53} {n : Nat} {y : S46} (h : y ∈ told c pred why l n) : y.f0 ≠ c.f2 ∧ reg l y.f0 = true := by
  unfold told at h
  obtain ⟨x, hx, rfl⟩ := List.mem_map.mp h
  rw [List.mem_filter, Bool.and_eq_true, tl_beq] at hx
  refine ⟨?_, (reg_iff l _).mpr ⟨x, List.mem_of_mem_take hx.1, rfl⟩⟩
  have := hx.2.1
  simpa using this
def Keeps (l : List S53) (typ : Int) (host : ByteArray) (gen : Int) (apt : Bool) (c : S31) (r : List S53 × Int × ByteArray × Int × Bool × List S46 × Int) : Prop :=
  (r.2.2.2.2.2.2 ≠ 1 → r.1 = l ∧ r.2.1 = typ ∧ r.2.2.1 = host ∧ r.2.2.2.1 = gen ∧ r.2.2.2.2.1 = apt ∧ r.2.2.2.2.2.1 = []) ∧
  (r.2.2.2.2.2.2 = 1 → goodB l typ host = true ∧ goodB r.1 r.2.1 r.2.2.1 = true ∧ (r.2.2.2.1 = gen ∨ r.2.2.2.1 = (gen + 1) % 4294967296)) ∧
  (∀ y ∈ r.2.2.2.2.2.1, y.f0 ≠ c.f2 ∧ reg l y.f0 = true) ∧ r.2.2.2.2.2.1.length ≤ 16
theorem keeps_same {l : List S53} {typ : Int} {host : ByteArray} {gen : Int} {apt : Bool} {c : S31} {n : Int} (hg : n = 1 → goodB l typ host = true) : ∃ r, do_same l typ host gen apt n = some r ∧ Keeps l typ host gen apt c r :=
  ⟨_, rfl, fun _ => ⟨rfl, rfl, rfl, rfl, rfl, rfl⟩, fun h => ⟨hg h, hg h, Or.inl rfl⟩, fun y hy => (List.not_mem_nil hy).elim, Nat.zero_le _⟩
theorem keeps_mk {l l2 : List S53} {typ typ2 : Int} {host host2 : ByteArray} {gen gen2 : Int} {apt apt2 : Bool} {c : S31} {ev : List S46} (hg : goodB l typ host = true) (hg2 : goodB l2 typ2 host2 = true) (he : gen2 = gen ∨ gen2 = (gen + 1) % 4294967296) (hy : ∀ y ∈ ev, y.f0 ≠ c.f2 ∧ reg l y.f0 = true) (hl : ev.length ≤ 16) : ∃ r, (some (l2, typ2, host2, gen2, apt2, ev, (1 : Int)) : DoR) = some r ∧ Keeps l typ host gen apt c r :=
  ⟨_, rfl, fun h => absurd rfl h, fun _ => ⟨hg, hg2, he⟩, hy, hl⟩
theorem no_ev {l : List S53} {c : S31} : ∀ y ∈ ([] : List S46), y.f0 ≠ c.f2 ∧ reg l y.f0 = true := fun y hy => (List.not_mem_nil hy).elim
theorem told_16 (c : S31) (pred : ByteArray → Int → Bool) (why : Int) {l : List S53} (h : l.length ≤ 16) : (told c pred why l l.length).length ≤ 16 := Nat.le_trans (told_le c pred why l l.length) h
theorem asks_reg {l : List S53} {c : S31} (h : asksP (keyL l c.f2) c = true) : reg l c.f2 = true ∧ keyL l c.f2 = c.f8 := by
  unfold asksP at h
  rw [Bool.and_eq_true, bne_iff_ne, beq_iff_eq] at h
  refine ⟨?_, h.2⟩
  cases hr : reg l c.f2 with
  | true => rfl
  | false => exact absurd (keyL_none hr) h.1
theorem taken_ok {l : List S53} {c : S31} (ht : typed c.f11 = true) (hr : reg l c.f2 = true) : holdOk_ l c.f11 (takenBy c) = true := by
  rw [hold_iff]
  have := of_decide_eq_true ht
  unfold takenBy
  by_cases h5 : c.f11 = 5 ∨ c.f11 = 6
  · rw [if_pos h5]
    exact Or.inr (Or.inr ⟨h5, rfl, reg_pos hr⟩)
  · rw [if_neg h5]
    exact Or.inr (Or.inl ⟨by omega, by omega, hr⟩)
theorem not_me {c : S31} {whole : Bool} {x : S53} (h : x.f0 = c.f2) : struckP c whole x.f0 x.f1 = false := by
  unfold struckP
  rw [tl_beq, decide_eq_true h]
  rfl
theorem reg_struck {l : List S53} {c : S31} (whole : Bool) (hr : reg l c.f2 = true) : reg (l.filter fun x => !struckP c whole x.f0 x.f1) c.f2 = true := by
  obtain ⟨x, hx, he⟩ := (reg_iff l c.f2).mp hr
  refine (reg_iff _ _).mpr ⟨x, List.mem_filter.mpr ⟨hx, ?_⟩, he⟩
  rw [not_me he]
  rfl
theorem filter_16 {l : List S53} (h : l.length ≤ 16) (p : S53 → Bool) : (l.filter p).length ≤ 16 := Nat.le_trans (List.length_filter_le _ _) h
theorem keyL_mem {l : List S53} (ho : okL l) {x : S53} (hx : x ∈ l) : keyL l x.f0 = x.f1 := by
  obtain ⟨y, hy, he, hk⟩ := keyL_some ((reg_iff l x.f0).mpr ⟨x, hx, rfl⟩)
  rw [hk]
  obtain ⟨i, hi, rfl⟩ := List.getElem_of_mem hx
  obtain ⟨j, hj, rfl⟩ := List.getElem_of_mem hy
  have hp := List.pairwise_iff_getElem.mp ho.1
  rcases Nat.lt_trichotomy i j with q | q | q
  · exact absurd he.symm (hp i j hi hj q)
  · subst q; rfl
  · exact absurd he (hp j i hj hi q)
theorem do_keeps (k : Nat) (l : List S53) (typ : Int) (host : ByteArray) (gen : Int) (apt : Bool) (c : S31) (hk : 210 ≤ k) (hh : host.size ≤ 5000) (hl : ∀ x ∈ l, x.f0.size ≤ 5000) (hw : (Lit.int .i64 c.f0).wf = true) :
    ∃ r, do_f k l typ host gen apt c = some r ∧ Keeps l typ host gen apt c r := by
  by_cases hb : ¬(8 ≤ c.f0 ∧ c.f0 ≤ 12) ∨ goodB l typ host = false ∨ nameB c.f2 = false
  · rw [do_bad k l typ host gen apt c hh hl hw hb]
    exact keeps_same (fun h => absurd h (by decide))
  have ho : 8 ≤ c.f0 ∧ c.f0 ≤ 12 := Classical.byContradiction fun z => hb (Or.inl z)
  have hg : goodB l typ host = true := by
    cases h : goodB l typ host with
    | true => rfl
    | false => exact absurd (Or.inr (Or.inl h)) hb
  have hn : nameB c.f2 = true := by
    cases h : nameB c.f2 with
    | true => rfl
    | false => exact absurd (Or.inr (Or.inr h)) hb
  obtain ⟨h16, hok, hhold⟩ := good_ok hg
  have hH := (hold_iff l typ host).mp hhold
  rw [do_good k l typ host gen apt c hk hg hn hw ho]
  by_cases h8 : c.f0 = 8
  · rw [if_pos h8, reg_eq l typ host gen apt c _ hok]
    by_cases q1 : (!c.f12 && c.f8 != keyL l c.f2) = true
    · rw [if_pos q1]
      exact keeps_same (fun h => absurd h (by decide))
    rw [if_neg q1]
    by_cases q9 : c.f9 = 0
    · rw [if_pos q9]
      by_cases q0 : keyL l c.f2 = 0
      · rw [if_pos q0]
        exact keeps_mk hg hg (Or.inl rfl) no_ev (Nat.zero_le _)
      · rw [if_neg q0]
        have hok2 := ok_filter hok (fun x => !decide (x.f0 = c.f2))
        have hl2 := filter_16 h16 (fun x => !decide (x.f0 = c.f2))
        cases qa : (decide (host = c.f2) || decide (typ = 5 ∨ typ = 6) && ((l.filter fun x => !decide (x.f0 = c.f2)).length == 0))
        · rw [if_neg (by decide)]
          rw [Bool.or_eq_false_iff, decide_eq_false_iff_not, Bool.and_eq_false_iff] at qa
          refine keeps_mk hg (good_mk hl2 hok2 ((hold_iff _ _ _).mpr ?_)) (Or.inr rfl) no_ev (Nat.zero_le _)
          rcases hH with z | z | z
          · exact Or.inl z
          · refine Or.inr (Or.inl ⟨z.1, z.2.1, ?_⟩)
            obtain ⟨x, hx, he⟩ := (reg_iff l host).mp z.2.2
            refine (reg_iff _ _).mpr ⟨x, List.mem_filter.mpr ⟨hx, ?_⟩, he⟩
            rw [he, decide_eq_false qa.1]
            rfl
          · refine Or.inr (Or.inr ⟨z.1, z.2.1, ?_⟩)
            rcases qa.2 with y | y
            · exact absurd z.1 (of_decide_eq_false y)
            · have := beq_eq_false_iff_ne.mp y
              omega
        · rw [if_pos rfl]
          refine keeps_mk hg (good_mk hl2 hok2 ((hold_iff _ _ _).mpr (Or.inl ⟨rfl, rfl⟩))) (Or.inr rfl) ?_ ?_
          · unfold freed
            split
            · intro y hy
              obtain ⟨h1, h2⟩ := mem_told hy
              obtain ⟨x, hx, he⟩ := (reg_iff _ _).mp h2
              exact ⟨h1, (reg_iff _ _).mpr ⟨x, (List.mem_filter.mp hx).1, he⟩⟩
            · exact no_ev
          · unfold freed
            split
            · exact told_16 _ _ _ hl2
            · exact Nat.zero_le _
    · rw [if_neg q9]
      by_cases q0 : keyL l c.f2 = 0
      · rw [if_pos q0]
        by_cases q16 : l.length = 16
        · rw [if_pos q16]
          exact keeps_same (fun h => absurd h (by decide))
        · rw [if_neg q16]
          refine keeps_mk hg (good_mk (by rw [List.length_append]; simp; omega) (ok_new hok ((keyL_zero hok c.f2).mp q0) hn q9) ((hold_iff _ _ _).mpr ?_)) (Or.inr rfl) no_ev (Nat.zero_le _)
          rcases hH with z | z | z
          · exact Or.inl z
          · exact Or.inr (Or.inl ⟨z.1, z.2.1, reg_app _ _ _ z.2.2⟩)
          · exact Or.inr (Or.inr ⟨z.1, z.2.1, by rw [List.length_append]; omega⟩)
      · rw [if_neg q0]
        refine keeps_mk hg (good_mk (by unfold rekey; rw [List.length_map]; exact h16) (ok_rekey hok c.f2 q9) ((hold_iff _ _ _).mpr ?_)) (Or.inr rfl) no_ev (Nat.zero_le _)
        rcases hH with z | z | z
        · exact Or.inl z
        · exact Or.inr (Or.inl ⟨z.1, z.2.1, reg_rekey _ _ _ _ z.2.2⟩)
        · exact Or.inr (Or.inr ⟨z.1, z.2.1, by unfold rekey; rw [List.length_map]; exact z.2.2⟩)
  rw [if_neg h8]
  by_cases h9 : c.f0 = 9
  · rw [if_pos h9, rsv_eq k l typ host gen apt c _ hk (by omega)]
    cases ht : typed c.f11
    · exact keeps_same (fun h => absurd h (by decide))
    rw [if_neg (by decide)]
    cases ha : asksP (keyL l c.f2) c
    · exact keeps_same (fun h => absurd h (by decide))
    rw [if_neg (by decide)]
    by_cases h0 : typ = 0
    · rw [if_pos h0]
      exact keeps_mk hg (good_mk h16 hok (taken_ok ht (asks_reg ha).1)) (Or.inl rfl) no_ev (Nat.zero_le _)
    · rw [if_neg h0]
      split
      · exact keeps_same (fun _ => hg)
      · exact keeps_same (fun h => absurd h (by decide))
  rw [if_neg h9]
  by_cases h10 : c.f0 = 10
  · rw [if_pos h10, rel_eq k l typ host gen apt c _ hk (by omega)]
    cases ha : asksP (keyL l c.f2) c
    · exact keeps_same (fun h => absurd h (by decide))
    rw [if_neg (by decide)]
    split
    · exact keeps_same (fun _ => hg)
    · split
      · exact keeps_same (fun h => absurd h (by decide))
      · refine keeps_mk hg (good_mk h16 hok ((hold_iff _ _ _).mpr (Or.inl ⟨rfl, rfl⟩))) (Or.inl rfl) ?_ ?_
        · split
          · exact no_ev
          · exact fun y hy => mem_told hy
        · split
          · exact Nat.zero_le _
          · exact told_16 _ _ _ h16
  rw [if_neg h10]
  by_cases h11 : c.f0 = 11
  · rw [if_pos h11]
    unfold do_clr
    cases ha : asksP (keyL l c.f2) c
    · exact keeps_same (fun h => absurd h (by decide))
    rw [if_neg (by decide)]
    exact keeps_mk hg (good_mk (Nat.zero_le _) ⟨List.Pairwise.nil, fun x hx => (List.not_mem_nil hx).elim⟩ ((hold_iff _ _ _).mpr (Or.inl ⟨rfl, rfl⟩))) (Or.inr rfl) (fun y hy => mem_told hy) (told_16 _ _ _ h16)
  rw [if_neg h11, pre_eq k l typ host gen apt c _ hk (by omega)]
  cases ht : typed c.f11
  · exact keeps_same (fun h => absurd h (by decide))
  rw [if_neg (by decide)]
  cases ha : asksP (keyL l c.f2) c
  · exact keeps_same (fun h => absurd h (by decide))
  rw [if_neg (by decide)]
  have hme := (asks_reg ha).1
  split
  · exact keeps_mk hg (good_mk (filter_16 h16 _) (ok_filter hok _) (taken_ok ht (reg_struck true hme))) (Or.inr rfl) (fun y hy => mem_told hy) (told_16 _ _ _ h16)
  split
  · exact keeps_mk hg (good_mk (filter_16 h16 _) (ok_filter hok _) (taken_ok ht (reg_struck false hme))) (Or.inr rfl) (fun y hy => mem_told hy) (told_16 _ _ _ h16)
  rename_i _ hnt
  split
  · exact keeps_same (fun h => absurd h (by decide))
  split
  · exact keeps_same (fun h => absurd h (by decide))
  refine keeps_mk hg (good_mk (filter_16 h16 _) (ok_filter hok _) ((hold_iff _ _ _).mpr ?_)) (Or.inr rfl) (fun y hy => mem_told hy) (told_16 _ _ _ h16)
  rcases hH with z | z | z
  · exact Or.inl z
  · refine Or.inr (Or.inl ⟨z.1, z.2.1, ?_⟩)
    obtain ⟨x, hx, he⟩ := (reg_iff l host).mp z.2.2
    refine (reg_iff _ _).mpr ⟨x, List.mem_filter.mpr ⟨hx, ?_⟩, he⟩
    have hne : host.toList ≠ ([] : List UInt8) := fun q => by
      have e := tl_nil.mp q
      have := (name_size (hok.2 x hx).1).1
      rw [he, e] at this
      exact absurd this (by decide)
    have hko : keyL l host ≠ c.f10 := fun q => hnt ⟨hne, q⟩
    rw [← he, keyL_mem hok hx] at hko
    unfold struckP
    rw [beq_eq_false_iff_ne.mpr hko]
    simp
  · exact Or.inr (Or.inr ⟨z.1, z.2.1, reg_pos (reg_struck false hme)⟩)
end Go.Proofs.YtjogkfcjlljjcaaDoor.Pure
