-- joined by this session's wip/tools/pack.py: words of the kit's print, cut to what the claim names; functions printed by a patched copy of the printer; walks and lemmas of this session; Lean checks it
import Derived.Test.YtjogkfcjlljjcaaDoorBa7
import Derived.Maps.Own
import Derived.Maps.OwnOps
import Derived.Maps.Views
import Derived.Carry
import Derived.Lib.SliceRun
namespace Go.Proofs.YtjogkfcjlljjcaaDoor.P
open Go.RowKit Go.Proofs.YtjogkfcjlljjcaaDoorW.PrintWords Go.Proofs.YtjogkfcjlljjcaaDoorW.PrintLast Go.Proofs.YtjogkfcjlljjcaaDoorW.PrintMore
attribute [local go_sem] max2_int min2_int max_two min_two max_three min_three max_four min_four   -- for this text's walks alone
set_option linter.unusedVariables false
set_option linter.unusedSimpArgs false
set_option linter.unnecessarySimpa false
def headgatekeep_Mod.f (a0 : Int) (a1 : Int) : Option (Int) := if a1 < 1 then (some 0) else (if a1 = 0 then (none) else (some (Int.tmod (wrap64 ((Int.tmod a0 a1) + a1)) a1)))
set_option maxHeartbeats 8000000 in
set_option maxRecDepth 100000 in
theorem headgatekeep_Mod.calls (a0 : Int) (a1 : Int) (r : Int) (w : World) (h : headgatekeep_Mod.f a0 a1 = some r) :
    Calls Tryd.prog 22 #[.int .i64 a0, .int .i64 a1] w fun e w' => e = .returned (.int .i64 r) ∧ Drawn0 w w' := by
  have H : (if a1 < 1 then (some 0) else (if a1 = 0 then (none) else (some (Int.tmod (wrap64 ((Int.tmod a0 a1) + a1)) a1)))) = some r := h
  clear h
  by_cases c3 : a1 < 1
  · rw [if_pos c3] at H
    have c3b0 : decide (a1 < 1) = true := decide_eq_true c3
    clear c3
    obtain rfl := Option.some.inj H
    go_enter Tryd.func22, Tryd.ntmps22
    go_wp2
    go_ret
    exact ⟨by first | rfl | (simp; done) | (simp [*]; done), by repeat (first | exact Drawn0.refl _ | apply Drawn0.step)⟩
  · rw [if_neg c3] at H
    have c3b0 : decide (a1 < 1) = false := decide_eq_false c3
    clear c3
    by_cases c4 : a1 = 0
    · rw [if_pos c4] at H
      exact absurd H (by simp)
    · rw [if_neg c4] at H
      have c4b0 : (a1 == 0) = false := beq_eq_false_iff_ne.mpr c4
      have c4b1 : (a1 != 0) = true := bne_iff_ne.mpr c4
      obtain rfl := Option.some.inj H
      go_enter Tryd.func22, Tryd.ntmps22
      go_wp2
      go_ret
      exact ⟨by first | rfl | (simp; done) | (simp [*]; done), by repeat (first | exact Drawn0.refl _ | apply Drawn0.step)⟩
end Go.Proofs.YtjogkfcjlljjcaaDoor.P
namespace Go.Proofs.YtjogkfcjlljjcaaDoor.P
open Go.RowKit Go.Proofs.YtjogkfcjlljjcaaDoorW.PrintWords Go.Proofs.YtjogkfcjlljjcaaDoorW.PrintLast Go.Proofs.YtjogkfcjlljjcaaDoorW.PrintMore
attribute [local go_sem] max2_int min2_int max_two min_two max_three min_three max_four min_four   -- for this text's walks alone
set_option linter.unusedVariables false
set_option linter.unusedSimpArgs false
set_option linter.unnecessarySimpa false
def access_Reads.f (a0 : Int) : Option (Bool) := some (a0 == 2)
set_option maxHeartbeats 8000000 in
set_option maxRecDepth 100000 in
theorem access_Reads.calls (a0 : Int) (r : Bool) (w : World) (h : access_Reads.f a0 = some r) :
    Calls Tryd.prog 49 #[.int .i64 a0] w fun e w' => e = .returned (.bool r) ∧ Drawn0 w w' := by
  have H : (some (a0 == 2)) = some r := h
  clear h
  obtain rfl := Option.some.inj H
  go_enter Tryd.func49, Tryd.ntmps49
  go_wp2
  go_ret
  exact ⟨by first | rfl | (simp; done) | (simp [*]; done), by repeat (first | exact Drawn0.refl _ | apply Drawn0.step)⟩
def access_Changes.f (a0 : Int) : Option (Bool) := if a0 = 3 then (some true) else (if a0 = 5 then (some true) else (if a0 = 6 then (some true) else (if a0 = 7 then (some true) else (if a0 = 4 then (some true) else (some false)))))
set_option maxHeartbeats 8000000 in
set_option maxRecDepth 100000 in
theorem access_Changes.calls (a0 : Int) (r : Bool) (w : World) (h : access_Changes.f a0 = some r) :
    Calls Tryd.prog 50 #[.int .i64 a0] w fun e w' => e = .returned (.bool r) ∧ Drawn0 w w' := by
  have H : (if a0 = 3 then (some true) else (if a0 = 5 then (some true) else (if a0 = 6 then (some true) else (if a0 = 7 then (some true) else (if a0 = 4 then (some true) else (some false)))))) = some r := h
  clear h
  by_cases c2 : a0 = 3
  · rw [if_pos c2] at H
    have c2b0 : (a0 == 3) = true := beq_iff_eq.mpr c2
    have c2b1 : (a0 != 3) = false := bne_eq_false_iff_eq.mpr c2
    clear c2
    obtain rfl := Option.some.inj H
    go_enter Tryd.func50, Tryd.ntmps50
    go_wp2
    go_ret
    exact ⟨by first | rfl | (simp; done) | (simp [*]; done), by repeat (first | exact Drawn0.refl _ | apply Drawn0.step)⟩
  · rw [if_neg c2] at H
    have c2b0 : (a0 == 3) = false := beq_eq_false_iff_ne.mpr c2
    have c2b1 : (a0 != 3) = true := bne_iff_ne.mpr c2
    by_cases c3 : a0 = 5
    · rw [if_pos c3] at H
      have c3b0 : (a0 == 5) = true := beq_iff_eq.mpr c3
      have c3b1 : (a0 != 5) = false := bne_eq_false_iff_eq.mpr c3
      clear c3
      obtain rfl := Option.some.inj H
      go_enter Tryd.func50, Tryd.ntmps50
      go_wp2
      go_ret
      exact ⟨by first | rfl | (simp; done) | (simp [*]; done), by repeat (first | exact Drawn0.refl _ | apply Drawn0.step)⟩
    · rw [if_neg c3] at H
      have c3b0 : (a0 == 5) = false := beq_eq_false_iff_ne.mpr c3
      have c3b1 : (a0 != 5) = true := bne_iff_ne.mpr c3
      by_cases c4 : a0 = 6
      · rw [if_pos c4] at H
        have c4b0 : (a0 == 6) = true := beq_iff_eq.mpr c4
        have c4b1 : (a0 != 6) = false := bne_eq_false_iff_eq.mpr c4
        clear c4
        obtain rfl := Option.some.inj H
        go_enter Tryd.func50, Tryd.ntmps50
        go_wp2
        go_ret
        exact ⟨by first | rfl | (simp; done) | (simp [*]; done), by repeat (first | exact Drawn0.refl _ | apply Drawn0.step)⟩
      · rw [if_neg c4] at H
        have c4b0 : (a0 == 6) = false := beq_eq_false_iff_ne.mpr c4
        have c4b1 : (a0 != 6) = true := bne_iff_ne.mpr c4
        by_cases c5 : a0 = 7
        · rw [if_pos c5] at H
          have c5b0 : (a0 == 7) = true := beq_iff_eq.mpr c5
          have c5b1 : (a0 != 7) = false := bne_eq_false_iff_eq.mpr c5
          clear c5
          obtain rfl := Option.some.inj H
          go_enter Tryd.func50, Tryd.ntmps50
          go_wp2
          go_ret
          exact ⟨by first | rfl | (simp; done) | (simp [*]; done), by repeat (first | exact Drawn0.refl _ | apply Drawn0.step)⟩
        · rw [if_neg c5] at H
          have c5b0 : (a0 == 7) = false := beq_eq_false_iff_ne.mpr c5
          have c5b1 : (a0 != 7) = true := bne_iff_ne.mpr c5
          by_cases c6 : a0 = 4
          · rw [if_pos c6] at H
            have c6b0 : (a0 == 4) = true := beq_iff_eq.mpr c6
            have c6b1 : (a0 != 4) = false := bne_eq_false_iff_eq.mpr c6
            clear c6
            obtain rfl := Option.some.inj H
            go_enter Tryd.func50, Tryd.ntmps50
            go_wp2
            go_ret
            exact ⟨by first | rfl | (simp; done) | (simp [*]; done), by repeat (first | exact Drawn0.refl _ | apply Drawn0.step)⟩
          · rw [if_neg c6] at H
            have c6b0 : (a0 == 4) = false := beq_eq_false_iff_ne.mpr c6
            have c6b1 : (a0 != 4) = true := bne_iff_ne.mpr c6
            obtain rfl := Option.some.inj H
            go_enter Tryd.func50, Tryd.ntmps50
            go_wp2
            go_ret
            exact ⟨by first | rfl | (simp; done) | (simp [*]; done), by repeat (first | exact Drawn0.refl _ | apply Drawn0.step)⟩
def access_May.j0 : Nat → ByteArray → Int → Bool → List (S53) → Int → ByteArray → Int → Bool → Option (Bool)
 | 0, _, _, _, _, _, _, _, _ => none
 | k + 1, x1, x2, x27, x282000, x282001, x282002, x282003, x282004 => if x27 = true then (some true) else (if 0 ≤ x282001 then (if x282001 < 7 then ((access_Changes.f x2).bind fun t288 => (if t288 = true then (if (Go.bits .and .i64 (rd G_access_lets.tab x282001) 4) = 0 then (some false) else ((access_registered.f k x282000 x282001 x282002 x282003 x282004 x1).bind fun t289 => (some t289))) else (if (Go.bits .and .i64 (rd G_access_lets.tab x282001) 1) = 0 then (if (Go.bits .and .i64 (rd G_access_lets.tab x282001) 2) = 0 then (some false) else ((access_registered.f k x282000 x282001 x282002 x282003 x282004 x1).bind fun t290 => (some t290))) else (some true)))) else (none)) else (none))
def access_May.f (k : Nat) (l0_0 : List (S53)) (a0_1 : Int) (a0_2 : ByteArray) (a0_3 : Int) (a0_4 : Bool) (a1 : ByteArray) (a2 : Int) : Option (Bool) := (access_Type.f a0_1).bind fun t282 => (if t282 = true then ((access_Reads.f a2).bind fun t283 => (if t283 = true then ((access_Holds.f k l0_0 a0_1 a0_2 a0_3 a0_4 a1).bind fun t284 => (access_May.j0 k a1 a2 t284 l0_0 a0_1 a0_2 a0_3 a0_4)) else ((access_Changes.f a2).bind fun t285 => (if t285 = true then ((access_Holds.f k l0_0 a0_1 a0_2 a0_3 a0_4 a1).bind fun t286 => (access_May.j0 k a1 a2 t286 l0_0 a0_1 a0_2 a0_3 a0_4)) else (access_May.j0 k a1 a2 true l0_0 a0_1 a0_2 a0_3 a0_4))))) else (access_May.j0 k a1 a2 true l0_0 a0_1 a0_2 a0_3 a0_4))
theorem access_May.mono_l : ∀ k, (∀ y0 y1 y2 y3 y4 y5 y6 y7, LeO (access_May.j0 k y0 y1 y2 y3 y4 y5 y6 y7) (access_May.j0 (k + 1) y0 y1 y2 y3 y4 y5 y6 y7))
 | 0 => fun _ _ _ _ _ _ _ _ r h => by simp [access_May.j0] at h
 | k + 1 => by
  have ih0 := access_May.mono_l k
  ·intro y0 y1 y2 y3 y4 y5 y6 y7
   unfold access_May.j0
   repeat' first
   | (with_reducible exact ih0 _ _ _ _ _ _ _ _)
   | (with_reducible exact access_Holds.mono _ _ _ _ _ _ _)
   | (with_reducible exact access_registered.mono _ _ _ _ _ _ _)
   | (with_reducible exact LeO.refl _)
   | (with_reducible exact LeO.none _)
   | (with_reducible refine LeO.ite ?_ ?_)
   | (with_reducible refine LeO.bind ?_ (fun _ => ?_))
   | exact ih0 _ _ _ _ _ _ _ _
   | exact access_Holds.mono _ _ _ _ _ _ _
   | exact access_registered.mono _ _ _ _ _ _ _
   | exact LeO.none _
   | refine LeO.ite ?_ ?_
   | refine LeO.bind ?_ (fun _ => ?_)
theorem access_May.mono : ∀ a0 a1 a2 a3 a4 a5 a6 k, LeO (access_May.f k a0 a1 a2 a3 a4 a5 a6) (access_May.f (k + 1) a0 a1 a2 a3 a4 a5 a6) := by
 intro a0 a1 a2 a3 a4 a5 a6 k
 have ih0 := access_May.mono_l k
 unfold access_May.f
 repeat' first
   | (with_reducible exact ih0 _ _ _ _ _ _ _ _)
   | (with_reducible exact access_Holds.mono _ _ _ _ _ _ _)
   | (with_reducible exact access_registered.mono _ _ _ _ _ _ _)
   | (with_reducible exact LeO.refl _)
   | (with_reducible exact LeO.none _)
   | (with_reducible refine LeO.ite ?_ ?_)
   | (with_reducible refine LeO.bind ?_ (fun _ => ?_))
   | exact ih0 _ _ _ _ _ _ _ _
   | exact access_Holds.mono _ _ _ _ _ _ _
   | exact access_registered.mono _ _ _ _ _ _ _
   | exact LeO.none _
   | refine LeO.ite ?_ ?_
   | refine LeO.bind ?_ (fun _ => ?_)
set_option maxHeartbeats 8000000 in
set_option maxRecDepth 100000 in
theorem access_May.calls (k : Nat) (A0_0 : Option Addr) (c0_0 : Nat) (l0_0 : List (S53)) (a0_1 : Int) (a0_2 : ByteArray) (a0_3 : Int) (a0_4 : Bool) (a1 : ByteArray) (a2 : Int) (r : Bool) (w : World) (hr0_0 : Kd.C k53 w A0_0 l0_0.length l0_0) (hc0_0 : l0_0.length ≤ c0_0) (hG : Glob w) (h : access_May.f k l0_0 a0_1 a0_2 a0_3 a0_4 a1 a2 = some r) :
  Calls Tryd.prog 28 #[.agg #[.slice A0_0 l0_0.length c0_0, .int .i64 a0_1, .string a0_2, .int .u32 a0_3, .bool a0_4], .string a1, .int .i64 a2] w fun e w' => e = .returned (.bool r) ∧ Below w.heap.size w w' := by
 have hu27 := Tryd.underlying27
 have HRgl0 := Aside0.mk (G_access_lets.reads (Glob.access_lets hG))
 have HG := Aside0.mk hG
 clear hG
 have HR0_0 := Aside0.mk hr0_0
 have HC0_0 := Aside0.mk hc0_0
 clear hr0_0 hc0_0
 have HB := Aside0.mk (Below.refl w.heap.size w)
 have H : ((access_Type.f a0_1).bind fun t282 => (if t282 = true then ((access_Reads.f a2).bind fun t283 => (if t283 = true then ((access_Holds.f k l0_0 a0_1 a0_2 a0_3 a0_4 a1).bind fun t284 => (access_May.j0 k a1 a2 t284 l0_0 a0_1 a0_2 a0_3 a0_4)) else ((access_Changes.f a2).bind fun t285 => (if t285 = true then ((access_Holds.f k l0_0 a0_1 a0_2 a0_3 a0_4 a1).bind fun t286 => (access_May.j0 k a1 a2 t286 l0_0 a0_1 a0_2 a0_3 a0_4)) else (access_May.j0 k a1 a2 true l0_0 a0_1 a0_2 a0_3 a0_4))))) else (access_May.j0 k a1 a2 true l0_0 a0_1 a0_2 a0_3 a0_4))) = some r := h
 clear h
 have HC4 := Aside0.mk H
 clear H
 go_enter Tryd.func28, Tryd.ntmps28
 go_upto_region 1 with (first | ((with_reducible refine gate_dst (N := 3) rfl ?_); refine box_event ?hg (N := 3) ?hd (cs := #[.slice A0_0 l0_0.length c0_0, .int .i64 a0_1, .string a0_2, .int .u32 a0_3, .bool a0_4]) (t := 27) ?hr ?_; (case hd => rfl); (case hg => rfl); (case hr => first | (go_simp; done) | (go_simp; rfl)); intro gb281 hg w5 hbox hb; have n0_ := Aside0.mk (below_step (hb_ HB) hb); have n1_ := Aside0.mk (hbox); have n2_ := Aside0.mk ((by rw [hg]; exact (below_size (hb_ HB)) : w.heap.size ≤ gb281)); have n3_ := Aside0.mk ((by rw [hg]; exact (below_size (hb_ HB)) : w.heap.size ≤ gb281)); clear HB; have HB := n0_; have BK281 := n1_; have GW281 := n2_; have GE281 := n3_; clear n0_ n1_ n2_ n3_; clear hb hbox hg))
 (try simp only [Act.put, la_, lb_, lc_])
 go_cut [27] (fun v27 wc => ∃ (kq : Nat) (x27_3 : Bool), v27 = .bool x27_3 ∧ Aside0 (access_May.j0 kq a1 a2 x27_3 l0_0 a0_1 a0_2 a0_3 a0_4 = some r) ∧ Aside0 (kq ≤ k) ∧ Aside0 (wc.heap[gb281]? = some (.cells #[(.slice A0_0 l0_0.length c0_0), .int .i64 a0_1, .string a0_2, .int .u32 a0_3, .bool a0_4] 27 (0, 0))) ∧ Aside0 (Below w.heap.size w wc))
 case first =>
  have H := HC4.out
  clear HC4
  replace H := Option.bind_eq_some_iff.mp H
  obtain ⟨t282, A60, H⟩ := H
  try dsimp only at H
  have A6 := Aside0.mk A60
  clear A60
  refine neg_first (p := (t282 = true)) (fun c7 => ?_) (fun c7 => ?_)
  ·replace c7 := Bool.eq_false_iff.mpr c7
   subst c7
   have H1 := H
   rw [if_neg (show ¬ (false = true) by decide)] at H1
   clear H
   have H := H1
   clear H1
   have H' := Aside0.mk H
   clear H
   have hcz19_0 : w5.cell? ⟨gb281, 0, none⟩ = some (.slice A0_0 l0_0.length c0_0) := (blk_cell BK281.out 0).trans rfl
   have hcz19_1 : w5.cell? ⟨gb281, 1, none⟩ = some (.int .i64 a0_1) := (blk_cell BK281.out 1).trans rfl
   have hcz19_2 : w5.cell? ⟨gb281, 2, none⟩ = some (.string a0_2) := (blk_cell BK281.out 2).trans rfl
   have hcz19_3 : w5.cell? ⟨gb281, 3, none⟩ = some (.int .u32 a0_3) := (blk_cell BK281.out 3).trans rfl
   have hcz19_4 : w5.cell? ⟨gb281, 4, none⟩ = some (.bool a0_4) := (blk_cell BK281.out 4).trans rfl
   have hfz19_0 := blk_frozen BK281.out 0
   have hfz19_1 := blk_frozen BK281.out 1
   have hfz19_2 := blk_frozen BK281.out 2
   have hfz19_3 := blk_frozen BK281.out 3
   have hfz19_4 := blk_frozen BK281.out 4
   go_wp2_with (first | ((with_reducible refine gate_callee (f := 45) rfl ?_); refine goesL_ (some 11) rfl rfl Tryd.func45 (by kernel_rfl) rfl #[.int .i64 a0_1] rfl (by (try simp only [List.map_toArray, List.map_cons, List.map_nil]); first | done | rfl | (simp only [List.length_drop, List.length_take]; rfl)) ?_; (with_reducible refine (access_Type.calls a0_1 false _ A6.out).mono ?_); rintro e w' ⟨rfl, ⟨nd, rfl⟩⟩; refine ⟨_, rfl, ?_⟩))
   go_meet
   case rel => exact ⟨_, (true), (by first | rfl | (simp; done) | (simp [*]; done)), H', ⟨by first | omega | exact Nat.le_refl _⟩, ⟨bk_ BK281⟩, ⟨hb_ HB⟩⟩
  subst c7
  have H1 := H
  rw [if_pos rfl] at H1
  clear H
  have H := H1
  clear H1
  replace H := Option.bind_eq_some_iff.mp H
  obtain ⟨t283, A80, H⟩ := H
  try dsimp only at H
  have A8 := Aside0.mk A80
  clear A80
  by_cases c9 : t283 = true
  ·subst c9
   have H1 := H
   rw [if_pos rfl] at H1
   clear H
   have H := H1
   clear H1
   replace H := Option.bind_eq_some_iff.mp H
   obtain ⟨t284, A100, H⟩ := H
   try dsimp only at H
   have A10 := Aside0.mk A100
   clear A100
   have H' := Aside0.mk H
   clear H
   have hcz11_0 : w5.cell? ⟨gb281, 0, none⟩ = some (.slice A0_0 l0_0.length c0_0) := (blk_cell BK281.out 0).trans rfl
   have hcz11_1 : w5.cell? ⟨gb281, 1, none⟩ = some (.int .i64 a0_1) := (blk_cell BK281.out 1).trans rfl
   have hcz11_2 : w5.cell? ⟨gb281, 2, none⟩ = some (.string a0_2) := (blk_cell BK281.out 2).trans rfl
   have hcz11_3 : w5.cell? ⟨gb281, 3, none⟩ = some (.int .u32 a0_3) := (blk_cell BK281.out 3).trans rfl
   have hcz11_4 : w5.cell? ⟨gb281, 4, none⟩ = some (.bool a0_4) := (blk_cell BK281.out 4).trans rfl
   have hfz11_0 := blk_frozen BK281.out 0
   have hfz11_1 := blk_frozen BK281.out 1
   have hfz11_2 := blk_frozen BK281.out 2
   have hfz11_3 := blk_frozen BK281.out 3
   have hfz11_4 := blk_frozen BK281.out 4
   go_wp2_with (first | ((with_reducible refine gate_callee (f := 45) rfl ?_); refine goesL_ (some 11) rfl rfl Tryd.func45 (by kernel_rfl) rfl #[.int .i64 a0_1] rfl (by (try simp only [List.map_toArray, List.map_cons, List.map_nil]); first | done | rfl | (simp only [List.length_drop, List.length_take]; rfl)) ?_; (with_reducible refine (access_Type.calls a0_1 true _ A6.out).mono ?_); rintro e w' ⟨rfl, ⟨nd, rfl⟩⟩; refine ⟨_, rfl, ?_⟩) | (go_at_call 49; (with_reducible refine (access_Reads.calls a2 true _ A8.out).mono ?_); rintro e w' ⟨rfl, ⟨nd, rfl⟩⟩) | (go_at_call 29; (with_reducible refine (access_Holds.calls k _ _ l0_0 a0_1 a0_2 a0_3 a0_4 a1 t284 _ ?side1 ?side2 ?side3 A10.out).mono ?_); (case side1 => repeat (first | exact (Kd.C_below HR0_0.out (hb_ HB)) | (with_reducible refine Kd.C_alloc ?_ _) | (with_reducible refine Kd.C_drewN ?_ _) | (with_reducible refine Kd.C_drew ?_))); (case side2 => exact HC0_0.out); (case side3 => first | ((refine Glob.keep HG.out ?_); (repeat (first | (with_reducible first | exact HB.out | apply below_alloc | apply pw_below_drewN | apply below_drew1 | refine below_set ?_ GE281.out) | exact HB.out)); done) | exact HG.out); rintro e w12 ⟨rfl, hb⟩; have n0_ := Aside0.mk (blk_below (bk_ BK281) hb); have n1_ := Aside0.mk (below_step (hb_ HB) hb); clear BK281; clear HB; have BK281 := n0_; have HB := n1_; clear n0_ n1_; (try clear hb); (try clear hb2); (try clear hk); (try clear hi)))
   go_meet
   case rel => exact ⟨_, (t284), (by first | rfl | (simp; done) | (simp [*]; done)), H', ⟨by first | omega | exact Nat.le_refl _⟩, ⟨bk_ BK281⟩, ⟨hb_ HB⟩⟩
  replace c9 := Bool.eq_false_iff.mpr c9
  subst c9
  have H1 := H
  rw [if_neg (show ¬ (false = true) by decide)] at H1
  clear H
  have H := H1
  clear H1
  replace H := Option.bind_eq_some_iff.mp H
  obtain ⟨t285, A130, H⟩ := H
  try dsimp only at H
  have A13 := Aside0.mk A130
  clear A130
  refine neg_first (p := (t285 = true)) (fun c14 => ?_) (fun c14 => ?_)
  ·replace c14 := Bool.eq_false_iff.mpr c14
   subst c14
   have H1 := H
   rw [if_neg (show ¬ (false = true) by decide)] at H1
   clear H
   have H := H1
   clear H1
   have H' := Aside0.mk H
   clear H
   have hcz18_0 : w5.cell? ⟨gb281, 0, none⟩ = some (.slice A0_0 l0_0.length c0_0) := (blk_cell BK281.out 0).trans rfl
   have hcz18_1 : w5.cell? ⟨gb281, 1, none⟩ = some (.int .i64 a0_1) := (blk_cell BK281.out 1).trans rfl
   have hcz18_2 : w5.cell? ⟨gb281, 2, none⟩ = some (.string a0_2) := (blk_cell BK281.out 2).trans rfl
   have hcz18_3 : w5.cell? ⟨gb281, 3, none⟩ = some (.int .u32 a0_3) := (blk_cell BK281.out 3).trans rfl
   have hcz18_4 : w5.cell? ⟨gb281, 4, none⟩ = some (.bool a0_4) := (blk_cell BK281.out 4).trans rfl
   have hfz18_0 := blk_frozen BK281.out 0
   have hfz18_1 := blk_frozen BK281.out 1
   have hfz18_2 := blk_frozen BK281.out 2
   have hfz18_3 := blk_frozen BK281.out 3
   have hfz18_4 := blk_frozen BK281.out 4
   go_wp2_with (first | ((with_reducible refine gate_callee (f := 45) rfl ?_); refine goesL_ (some 11) rfl rfl Tryd.func45 (by kernel_rfl) rfl #[.int .i64 a0_1] rfl (by (try simp only [List.map_toArray, List.map_cons, List.map_nil]); first | done | rfl | (simp only [List.length_drop, List.length_take]; rfl)) ?_; (with_reducible refine (access_Type.calls a0_1 true _ A6.out).mono ?_); rintro e w' ⟨rfl, ⟨nd, rfl⟩⟩; refine ⟨_, rfl, ?_⟩) | (go_at_call 49; (with_reducible refine (access_Reads.calls a2 false _ A8.out).mono ?_); rintro e w' ⟨rfl, ⟨nd, rfl⟩⟩) | (go_at_call 50; (with_reducible refine (access_Changes.calls a2 false _ A13.out).mono ?_); rintro e w' ⟨rfl, ⟨nd, rfl⟩⟩))
   go_meet
   case rel => exact ⟨_, (true), (by first | rfl | (simp; done) | (simp [*]; done)), H', ⟨by first | omega | exact Nat.le_refl _⟩, ⟨bk_ BK281⟩, ⟨hb_ HB⟩⟩
  subst c14
  have H1 := H
  rw [if_pos rfl] at H1
  clear H
  have H := H1
  clear H1
  replace H := Option.bind_eq_some_iff.mp H
  obtain ⟨t286, A150, H⟩ := H
  try dsimp only at H
  have A15 := Aside0.mk A150
  clear A150
  have H' := Aside0.mk H
  clear H
  have hcz16_0 : w5.cell? ⟨gb281, 0, none⟩ = some (.slice A0_0 l0_0.length c0_0) := (blk_cell BK281.out 0).trans rfl
  have hcz16_1 : w5.cell? ⟨gb281, 1, none⟩ = some (.int .i64 a0_1) := (blk_cell BK281.out 1).trans rfl
  have hcz16_2 : w5.cell? ⟨gb281, 2, none⟩ = some (.string a0_2) := (blk_cell BK281.out 2).trans rfl
  have hcz16_3 : w5.cell? ⟨gb281, 3, none⟩ = some (.int .u32 a0_3) := (blk_cell BK281.out 3).trans rfl
  have hcz16_4 : w5.cell? ⟨gb281, 4, none⟩ = some (.bool a0_4) := (blk_cell BK281.out 4).trans rfl
  have hfz16_0 := blk_frozen BK281.out 0
  have hfz16_1 := blk_frozen BK281.out 1
  have hfz16_2 := blk_frozen BK281.out 2
  have hfz16_3 := blk_frozen BK281.out 3
  have hfz16_4 := blk_frozen BK281.out 4
  go_wp2_with (first | ((with_reducible refine gate_callee (f := 45) rfl ?_); refine goesL_ (some 11) rfl rfl Tryd.func45 (by kernel_rfl) rfl #[.int .i64 a0_1] rfl (by (try simp only [List.map_toArray, List.map_cons, List.map_nil]); first | done | rfl | (simp only [List.length_drop, List.length_take]; rfl)) ?_; (with_reducible refine (access_Type.calls a0_1 true _ A6.out).mono ?_); rintro e w' ⟨rfl, ⟨nd, rfl⟩⟩; refine ⟨_, rfl, ?_⟩) | (go_at_call 49; (with_reducible refine (access_Reads.calls a2 false _ A8.out).mono ?_); rintro e w' ⟨rfl, ⟨nd, rfl⟩⟩) | (go_at_call 50; (with_reducible refine (access_Changes.calls a2 true _ A13.out).mono ?_); rintro e w' ⟨rfl, ⟨nd, rfl⟩⟩) | (go_at_call 29; (with_reducible refine (access_Holds.calls k _ _ l0_0 a0_1 a0_2 a0_3 a0_4 a1 t286 _ ?side1 ?side2 ?side3 A15.out).mono ?_); (case side1 => repeat (first | exact (Kd.C_below HR0_0.out (hb_ HB)) | (with_reducible refine Kd.C_alloc ?_ _) | (with_reducible refine Kd.C_drewN ?_ _) | (with_reducible refine Kd.C_drew ?_))); (case side2 => exact HC0_0.out); (case side3 => first | ((refine Glob.keep HG.out ?_); (repeat (first | (with_reducible first | exact HB.out | apply below_alloc | apply pw_below_drewN | apply below_drew1 | refine below_set ?_ GE281.out) | exact HB.out)); done) | exact HG.out); rintro e w17 ⟨rfl, hb⟩; have n0_ := Aside0.mk (blk_below (bk_ BK281) hb); have n1_ := Aside0.mk (below_step (hb_ HB) hb); clear BK281; clear HB; have BK281 := n0_; have HB := n1_; clear n0_ n1_; (try clear hb); (try clear hb2); (try clear hk); (try clear hi)))
  go_meet
  case rel => exact ⟨_, (t286), (by first | rfl | (simp; done) | (simp [*]; done)), H', ⟨by first | omega | exact Nat.le_refl _⟩, ⟨bk_ BK281⟩, ⟨hb_ HB⟩⟩
 case rest =>
  clear HC4
  try clear c1
  try clear c2
  try clear p2
  try clear c4
  try clear c7
  try clear c9
  try clear c14
  try clear hcz11_0
  try clear hcz11_1
  try clear hcz11_2
  try clear hcz11_3
  try clear hcz11_4
  try clear hcz16_0
  try clear hcz16_1
  try clear hcz16_2
  try clear hcz16_3
  try clear hcz16_4
  try clear hcz18_0
  try clear hcz18_1
  try clear hcz18_2
  try clear hcz18_3
  try clear hcz18_4
  try clear hcz19_0
  try clear hcz19_1
  try clear hcz19_2
  try clear hcz19_3
  try clear hcz19_4
  try clear hfz11_0
  try clear hfz11_1
  try clear hfz11_2
  try clear hfz11_3
  try clear hfz11_4
  try clear hfz16_0
  try clear hfz16_1
  try clear hfz16_2
  try clear hfz16_3
  try clear hfz16_4
  try clear hfz18_0
  try clear hfz18_1
  try clear hfz18_2
  try clear hfz18_3
  try clear hfz18_4
  try clear hfz19_0
  try clear hfz19_1
  try clear hfz19_2
  try clear hfz19_3
  try clear hfz19_4
  obtain ⟨kq, x27_3, rfl, HA, HJ3, BK281, HB⟩ := hcut
  cases kq with
  | zero => exact absurd HA.out (by simp [access_May.j0])
  | succ kj3 =>
   have H := HA.out
   clear HA
   simp only [access_May.j0] at H
   by_cases c20 : x27_3 = true
   ·subst c20
    have H1 := H
    rw [if_pos rfl] at H1
    clear H
    have H := H1
    clear H1
    obtain rfl := Option.some.inj H
    go_wp2
    go_ret
    exact ⟨by first | rfl | (simp [errW_none, errW_some] <;> rfl) | (simp [*, errW_none, errW_some] <;> rfl) | (simp [bt, *]; done) | (unfold bt; simp [*]; done), by repeat (first | (with_reducible first | exact HB.out | apply below_alloc | apply pw_below_drewN | apply below_drew1 | refine below_set ?_ GE281.out) | exact HB.out)⟩
   replace c20 := Bool.eq_false_iff.mpr c20
   subst c20
   have H1 := H
   rw [if_neg (show ¬ (false = true) by decide)] at H1
   clear H
   have H := H1
   clear H1
   refine neg_first (p := (0 ≤ a0_1)) (fun c21 => ?_) (fun c21 => ?_)
   ·rw [if_neg c21] at H
    exact absurd H (by simp)
   rw [if_pos c21] at H
   have c21b0 : decide (0 ≤ a0_1) = true := decide_eq_true c21
   clear c21
   refine neg_first (p := (a0_1 < 7)) (fun c22 => ?_) (fun c22 => ?_)
   ·rw [if_neg c22] at H
    exact absurd H (by simp)
   rw [if_pos c22] at H
   have c22b0 : decide (a0_1 < 7) = true := decide_eq_true c22
   clear c22
   replace H := Option.bind_eq_some_iff.mp H
   obtain ⟨t288, A230, H⟩ := H
   try dsimp only at H
   have A23 := Aside0.mk A230
   clear A230
   by_cases c24 : t288 = true
   ·subst c24
    have H1 := H
    rw [if_pos rfl] at H1
    clear H
    have H := H1
    clear H1
    by_cases c25 : (Go.bits .and .i64 (rd G_access_lets.tab a0_1) 4) = 0
    ·rw [if_pos c25] at H
     have c25b0 : ((Go.bits .and .i64 (rd G_access_lets.tab a0_1) 4) == 0) = true := beq_iff_eq.mpr c25
     have c25b1 : ((Go.bits .and .i64 (rd G_access_lets.tab a0_1) 4) != 0) = false := bne_eq_false_iff_eq.mpr c25
     clear c25
     obtain rfl := Option.some.inj H
     have hcz26_0 : wc.cell? ⟨gb281, 0, none⟩ = some (.slice A0_0 l0_0.length c0_0) := (blk_cell BK281.out 0).trans rfl
     have hcz26_1 : wc.cell? ⟨gb281, 1, none⟩ = some (.int .i64 a0_1) := (blk_cell BK281.out 1).trans rfl
     have hcz26_2 : wc.cell? ⟨gb281, 2, none⟩ = some (.string a0_2) := (blk_cell BK281.out 2).trans rfl
     have hcz26_3 : wc.cell? ⟨gb281, 3, none⟩ = some (.int .u32 a0_3) := (blk_cell BK281.out 3).trans rfl
     have hcz26_4 : wc.cell? ⟨gb281, 4, none⟩ = some (.bool a0_4) := (blk_cell BK281.out 4).trans rfl
     have hfz26_0 := blk_frozen BK281.out 0
     have hfz26_1 := blk_frozen BK281.out 1
     have hfz26_2 := blk_frozen BK281.out 2
     have hfz26_3 := blk_frozen BK281.out 3
     have hfz26_4 := blk_frozen BK281.out 4
     have p287 : 0 ≤ (a0_1 : Int) := of_decide_eq_true (by first | (with_reducible assumption) | assumption)
     have q287 : a0_1 < (G_access_lets.tab.length : Int) := of_decide_eq_true (by first | (with_reducible assumption) | assumption)
     have qg287 : (a0_1 < (7 : Int)) = True := eq_true q287
     obtain ⟨ad287, e287, hx287_0⟩ := Kd.at_int HRgl0.out a0_1 p287 q287
     obtain rfl : (⟨0, 0, none⟩ : Addr) = ad287 := (by injection e287)
     (first | simp only [add_plain] at hx287_0 | simp only [add_at] at hx287_0 | simp only [Addr.add, Nat.zero_add] at hx287_0 | skip)
     replace hx287_0 := (HB.out.cell (World.block_lt_of_cell? w _ hx287_0)).trans hx287_0
     replace p287 := eq_true p287
     replace q287 := eq_true q287
     go_wp2_with (first | ((with_reducible refine gate_callee (f := 50) rfl ?_); refine goesL_ (some 34) rfl rfl Tryd.func50 (by kernel_rfl) rfl #[.int .i64 a2] rfl (by (try simp only [List.map_toArray, List.map_cons, List.map_nil]); first | done | rfl | (simp only [List.length_drop, List.length_take]; rfl)) ?_; (with_reducible refine (access_Changes.calls a2 true _ A23.out).mono ?_); rintro e w' ⟨rfl, ⟨nd, rfl⟩⟩; refine ⟨_, rfl, ?_⟩))
     go_ret
     exact ⟨by first | rfl | (simp [errW_none, errW_some] <;> rfl) | (simp [*, errW_none, errW_some] <;> rfl) | (simp [bt, *]; done) | (unfold bt; simp [*]; done), by repeat (first | (with_reducible first | exact HB.out | apply below_alloc | apply pw_below_drewN | apply below_drew1 | refine below_set ?_ GE281.out) | exact HB.out)⟩
    rw [if_neg c25] at H
    have c25b0 : ((Go.bits .and .i64 (rd G_access_lets.tab a0_1) 4) == 0) = false := beq_eq_false_iff_ne.mpr c25
    have c25b1 : ((Go.bits .and .i64 (rd G_access_lets.tab a0_1) 4) != 0) = true := bne_iff_ne.mpr c25
    replace H := Option.bind_eq_some_iff.mp H
    obtain ⟨t289, A270, H⟩ := H
    try dsimp only at H
    have A27 := Aside0.mk A270
    clear A270
    obtain rfl := Option.some.inj H
    have hcz28_0 : wc.cell? ⟨gb281, 0, none⟩ = some (.slice A0_0 l0_0.length c0_0) := (blk_cell BK281.out 0).trans rfl
    have hcz28_1 : wc.cell? ⟨gb281, 1, none⟩ = some (.int .i64 a0_1) := (blk_cell BK281.out 1).trans rfl
    have hcz28_2 : wc.cell? ⟨gb281, 2, none⟩ = some (.string a0_2) := (blk_cell BK281.out 2).trans rfl
    have hcz28_3 : wc.cell? ⟨gb281, 3, none⟩ = some (.int .u32 a0_3) := (blk_cell BK281.out 3).trans rfl
    have hcz28_4 : wc.cell? ⟨gb281, 4, none⟩ = some (.bool a0_4) := (blk_cell BK281.out 4).trans rfl
    have hfz28_0 := blk_frozen BK281.out 0
    have hfz28_1 := blk_frozen BK281.out 1
    have hfz28_2 := blk_frozen BK281.out 2
    have hfz28_3 := blk_frozen BK281.out 3
    have hfz28_4 := blk_frozen BK281.out 4
    have p287 : 0 ≤ (a0_1 : Int) := of_decide_eq_true (by first | (with_reducible assumption) | assumption)
    have q287 : a0_1 < (G_access_lets.tab.length : Int) := of_decide_eq_true (by first | (with_reducible assumption) | assumption)
    have qg287 : (a0_1 < (7 : Int)) = True := eq_true q287
    obtain ⟨ad287, e287, hx287_0⟩ := Kd.at_int HRgl0.out a0_1 p287 q287
    obtain rfl : (⟨0, 0, none⟩ : Addr) = ad287 := (by injection e287)
    (first | simp only [add_plain] at hx287_0 | simp only [add_at] at hx287_0 | simp only [Addr.add, Nat.zero_add] at hx287_0 | skip)
    replace hx287_0 := (HB.out.cell (World.block_lt_of_cell? w _ hx287_0)).trans hx287_0
    replace p287 := eq_true p287
    replace q287 := eq_true q287
    go_wp2_with (first | ((with_reducible refine gate_callee (f := 50) rfl ?_); refine goesL_ (some 34) rfl rfl Tryd.func50 (by kernel_rfl) rfl #[.int .i64 a2] rfl (by (try simp only [List.map_toArray, List.map_cons, List.map_nil]); first | done | rfl | (simp only [List.length_drop, List.length_take]; rfl)) ?_; (with_reducible refine (access_Changes.calls a2 true _ A23.out).mono ?_); rintro e w' ⟨rfl, ⟨nd, rfl⟩⟩; refine ⟨_, rfl, ?_⟩) | (go_at_call 51; (with_reducible refine (access_registered.calls kj3 _ _ l0_0 a0_1 a0_2 a0_3 a0_4 a1 t289 _ ?side1 ?side2 A27.out).mono ?_); (case side1 => repeat (first | exact (Kd.C_below HR0_0.out (hb_ HB)) | (with_reducible refine Kd.C_alloc ?_ _) | (with_reducible refine Kd.C_drewN ?_ _) | (with_reducible refine Kd.C_drew ?_))); (case side2 => exact HC0_0.out); rintro e w29 ⟨rfl, hb⟩; have n0_ := Aside0.mk (blk_below (bk_ BK281) hb); have n1_ := Aside0.mk (below_step (hb_ HB) hb); clear BK281; clear HB; have BK281 := n0_; have HB := n1_; clear n0_ n1_; (try clear hb); (try clear hb2); (try clear hk); (try clear hi)))
    go_ret
    exact ⟨by first | rfl | (simp [errW_none, errW_some] <;> rfl) | (simp [*, errW_none, errW_some] <;> rfl) | (simp [bt, *]; done) | (unfold bt; simp [*]; done), by repeat (first | (with_reducible first | exact HB.out | apply below_alloc | apply pw_below_drewN | apply below_drew1 | refine below_set ?_ GE281.out) | exact HB.out)⟩
   replace c24 := Bool.eq_false_iff.mpr c24
   subst c24
   have H1 := H
   rw [if_neg (show ¬ (false = true) by decide)] at H1
   clear H
   have H := H1
   clear H1
   refine neg_first (p := ((Go.bits .and .i64 (rd G_access_lets.tab a0_1) 1) = 0)) (fun c30 => ?_) (fun c30 => ?_)
   ·rw [if_neg c30] at H
    have c30b0 : ((Go.bits .and .i64 (rd G_access_lets.tab a0_1) 1) == 0) = false := beq_eq_false_iff_ne.mpr c30
    have c30b1 : ((Go.bits .and .i64 (rd G_access_lets.tab a0_1) 1) != 0) = true := bne_iff_ne.mpr c30
    obtain rfl := Option.some.inj H
    have hcz36_0 : wc.cell? ⟨gb281, 0, none⟩ = some (.slice A0_0 l0_0.length c0_0) := (blk_cell BK281.out 0).trans rfl
    have hcz36_1 : wc.cell? ⟨gb281, 1, none⟩ = some (.int .i64 a0_1) := (blk_cell BK281.out 1).trans rfl
    have hcz36_2 : wc.cell? ⟨gb281, 2, none⟩ = some (.string a0_2) := (blk_cell BK281.out 2).trans rfl
    have hcz36_3 : wc.cell? ⟨gb281, 3, none⟩ = some (.int .u32 a0_3) := (blk_cell BK281.out 3).trans rfl
    have hcz36_4 : wc.cell? ⟨gb281, 4, none⟩ = some (.bool a0_4) := (blk_cell BK281.out 4).trans rfl
    have hfz36_0 := blk_frozen BK281.out 0
    have hfz36_1 := blk_frozen BK281.out 1
    have hfz36_2 := blk_frozen BK281.out 2
    have hfz36_3 := blk_frozen BK281.out 3
    have hfz36_4 := blk_frozen BK281.out 4
    have p287 : 0 ≤ (a0_1 : Int) := of_decide_eq_true (by first | (with_reducible assumption) | assumption)
    have q287 : a0_1 < (G_access_lets.tab.length : Int) := of_decide_eq_true (by first | (with_reducible assumption) | assumption)
    have qg287 : (a0_1 < (7 : Int)) = True := eq_true q287
    obtain ⟨ad287, e287, hx287_0⟩ := Kd.at_int HRgl0.out a0_1 p287 q287
    obtain rfl : (⟨0, 0, none⟩ : Addr) = ad287 := (by injection e287)
    (first | simp only [add_plain] at hx287_0 | simp only [add_at] at hx287_0 | simp only [Addr.add, Nat.zero_add] at hx287_0 | skip)
    replace hx287_0 := (HB.out.cell (World.block_lt_of_cell? w _ hx287_0)).trans hx287_0
    replace p287 := eq_true p287
    replace q287 := eq_true q287
    go_wp2_with (first | ((with_reducible refine gate_callee (f := 50) rfl ?_); refine goesL_ (some 34) rfl rfl Tryd.func50 (by kernel_rfl) rfl #[.int .i64 a2] rfl (by (try simp only [List.map_toArray, List.map_cons, List.map_nil]); first | done | rfl | (simp only [List.length_drop, List.length_take]; rfl)) ?_; (with_reducible refine (access_Changes.calls a2 false _ A23.out).mono ?_); rintro e w' ⟨rfl, ⟨nd, rfl⟩⟩; refine ⟨_, rfl, ?_⟩))
    go_ret
    exact ⟨by first | rfl | (simp [errW_none, errW_some] <;> rfl) | (simp [*, errW_none, errW_some] <;> rfl) | (simp [bt, *]; done) | (unfold bt; simp [*]; done), by repeat (first | (with_reducible first | exact HB.out | apply below_alloc | apply pw_below_drewN | apply below_drew1 | refine below_set ?_ GE281.out) | exact HB.out)⟩
   rw [if_pos c30] at H
   have c30b0 : ((Go.bits .and .i64 (rd G_access_lets.tab a0_1) 1) == 0) = true := beq_iff_eq.mpr c30
   have c30b1 : ((Go.bits .and .i64 (rd G_access_lets.tab a0_1) 1) != 0) = false := bne_eq_false_iff_eq.mpr c30
   clear c30
   by_cases c31 : (Go.bits .and .i64 (rd G_access_lets.tab a0_1) 2) = 0
   ·rw [if_pos c31] at H
    have c31b0 : ((Go.bits .and .i64 (rd G_access_lets.tab a0_1) 2) == 0) = true := beq_iff_eq.mpr c31
    have c31b1 : ((Go.bits .and .i64 (rd G_access_lets.tab a0_1) 2) != 0) = false := bne_eq_false_iff_eq.mpr c31
    clear c31
    obtain rfl := Option.some.inj H
    have hcz32_0 : wc.cell? ⟨gb281, 0, none⟩ = some (.slice A0_0 l0_0.length c0_0) := (blk_cell BK281.out 0).trans rfl
    have hcz32_1 : wc.cell? ⟨gb281, 1, none⟩ = some (.int .i64 a0_1) := (blk_cell BK281.out 1).trans rfl
    have hcz32_2 : wc.cell? ⟨gb281, 2, none⟩ = some (.string a0_2) := (blk_cell BK281.out 2).trans rfl
    have hcz32_3 : wc.cell? ⟨gb281, 3, none⟩ = some (.int .u32 a0_3) := (blk_cell BK281.out 3).trans rfl
    have hcz32_4 : wc.cell? ⟨gb281, 4, none⟩ = some (.bool a0_4) := (blk_cell BK281.out 4).trans rfl
    have hfz32_0 := blk_frozen BK281.out 0
    have hfz32_1 := blk_frozen BK281.out 1
    have hfz32_2 := blk_frozen BK281.out 2
    have hfz32_3 := blk_frozen BK281.out 3
    have hfz32_4 := blk_frozen BK281.out 4
    have p287 : 0 ≤ (a0_1 : Int) := of_decide_eq_true (by first | (with_reducible assumption) | assumption)
    have q287 : a0_1 < (G_access_lets.tab.length : Int) := of_decide_eq_true (by first | (with_reducible assumption) | assumption)
    have qg287 : (a0_1 < (7 : Int)) = True := eq_true q287
    obtain ⟨ad287, e287, hx287_0⟩ := Kd.at_int HRgl0.out a0_1 p287 q287
    obtain rfl : (⟨0, 0, none⟩ : Addr) = ad287 := (by injection e287)
    (first | simp only [add_plain] at hx287_0 | simp only [add_at] at hx287_0 | simp only [Addr.add, Nat.zero_add] at hx287_0 | skip)
    replace hx287_0 := (HB.out.cell (World.block_lt_of_cell? w _ hx287_0)).trans hx287_0
    replace p287 := eq_true p287
    replace q287 := eq_true q287
    go_wp2_with (first | ((with_reducible refine gate_callee (f := 50) rfl ?_); refine goesL_ (some 34) rfl rfl Tryd.func50 (by kernel_rfl) rfl #[.int .i64 a2] rfl (by (try simp only [List.map_toArray, List.map_cons, List.map_nil]); first | done | rfl | (simp only [List.length_drop, List.length_take]; rfl)) ?_; (with_reducible refine (access_Changes.calls a2 false _ A23.out).mono ?_); rintro e w' ⟨rfl, ⟨nd, rfl⟩⟩; refine ⟨_, rfl, ?_⟩))
    go_ret
    exact ⟨by first | rfl | (simp [errW_none, errW_some] <;> rfl) | (simp [*, errW_none, errW_some] <;> rfl) | (simp [bt, *]; done) | (unfold bt; simp [*]; done), by repeat (first | (with_reducible first | exact HB.out | apply below_alloc | apply pw_below_drewN | apply below_drew1 | refine below_set ?_ GE281.out) | exact HB.out)⟩
   rw [if_neg c31] at H
   have c31b0 : ((Go.bits .and .i64 (rd G_access_lets.tab a0_1) 2) == 0) = false := beq_eq_false_iff_ne.mpr c31
   have c31b1 : ((Go.bits .and .i64 (rd G_access_lets.tab a0_1) 2) != 0) = true := bne_iff_ne.mpr c31
   replace H := Option.bind_eq_some_iff.mp H
   obtain ⟨t290, A330, H⟩ := H
   try dsimp only at H
   have A33 := Aside0.mk A330
   clear A330
   obtain rfl := Option.some.inj H
   have hcz34_0 : wc.cell? ⟨gb281, 0, none⟩ = some (.slice A0_0 l0_0.length c0_0) := (blk_cell BK281.out 0).trans rfl
   have hcz34_1 : wc.cell? ⟨gb281, 1, none⟩ = some (.int .i64 a0_1) := (blk_cell BK281.out 1).trans rfl
   have hcz34_2 : wc.cell? ⟨gb281, 2, none⟩ = some (.string a0_2) := (blk_cell BK281.out 2).trans rfl
   have hcz34_3 : wc.cell? ⟨gb281, 3, none⟩ = some (.int .u32 a0_3) := (blk_cell BK281.out 3).trans rfl
   have hcz34_4 : wc.cell? ⟨gb281, 4, none⟩ = some (.bool a0_4) := (blk_cell BK281.out 4).trans rfl
   have hfz34_0 := blk_frozen BK281.out 0
   have hfz34_1 := blk_frozen BK281.out 1
   have hfz34_2 := blk_frozen BK281.out 2
   have hfz34_3 := blk_frozen BK281.out 3
   have hfz34_4 := blk_frozen BK281.out 4
   have p287 : 0 ≤ (a0_1 : Int) := of_decide_eq_true (by first | (with_reducible assumption) | assumption)
   have q287 : a0_1 < (G_access_lets.tab.length : Int) := of_decide_eq_true (by first | (with_reducible assumption) | assumption)
   have qg287 : (a0_1 < (7 : Int)) = True := eq_true q287
   obtain ⟨ad287, e287, hx287_0⟩ := Kd.at_int HRgl0.out a0_1 p287 q287
   obtain rfl : (⟨0, 0, none⟩ : Addr) = ad287 := (by injection e287)
   (first | simp only [add_plain] at hx287_0 | simp only [add_at] at hx287_0 | simp only [Addr.add, Nat.zero_add] at hx287_0 | skip)
   replace hx287_0 := (HB.out.cell (World.block_lt_of_cell? w _ hx287_0)).trans hx287_0
   replace p287 := eq_true p287
   replace q287 := eq_true q287
   go_wp2_with (first | ((with_reducible refine gate_callee (f := 50) rfl ?_); refine goesL_ (some 34) rfl rfl Tryd.func50 (by kernel_rfl) rfl #[.int .i64 a2] rfl (by (try simp only [List.map_toArray, List.map_cons, List.map_nil]); first | done | rfl | (simp only [List.length_drop, List.length_take]; rfl)) ?_; (with_reducible refine (access_Changes.calls a2 false _ A23.out).mono ?_); rintro e w' ⟨rfl, ⟨nd, rfl⟩⟩; refine ⟨_, rfl, ?_⟩) | (go_at_call 51; (with_reducible refine (access_registered.calls kj3 _ _ l0_0 a0_1 a0_2 a0_3 a0_4 a1 t290 _ ?side1 ?side2 A33.out).mono ?_); (case side1 => repeat (first | exact (Kd.C_below HR0_0.out (hb_ HB)) | (with_reducible refine Kd.C_alloc ?_ _) | (with_reducible refine Kd.C_drewN ?_ _) | (with_reducible refine Kd.C_drew ?_))); (case side2 => exact HC0_0.out); rintro e w35 ⟨rfl, hb⟩; have n0_ := Aside0.mk (blk_below (bk_ BK281) hb); have n1_ := Aside0.mk (below_step (hb_ HB) hb); clear BK281; clear HB; have BK281 := n0_; have HB := n1_; clear n0_ n1_; (try clear hb); (try clear hb2); (try clear hk); (try clear hi)))
   go_ret
   exact ⟨by first | rfl | (simp [errW_none, errW_some] <;> rfl) | (simp [*, errW_none, errW_some] <;> rfl) | (simp [bt, *]; done) | (unfold bt; simp [*]; done), by repeat (first | (with_reducible first | exact HB.out | apply below_alloc | apply pw_below_drewN | apply below_drew1 | refine below_set ?_ GE281.out) | exact HB.out)⟩
end Go.Proofs.YtjogkfcjlljjcaaDoor.P
namespace Go.Proofs.YtjogkfcjlljjcaaDoor.Pure
open Go.RowKit Go.Proofs.YtjogkfcjlljjcaaDoor.P Go.Proofs.YtjogkfcjlljjcaaDoorW.PrintWords Go.Proofs.YtjogkfcjlljjcaaDoorW.PrintLast Go.Proofs.YtjogkfcjlljjcaaDoorW.PrintMore Go.Proofs.YtjogkfcjlljjcaaDoor.Num
set_option linter.unusedVariables false
set_option linter.unusedSimpArgs false
def changes (c : Int) : Bool := decide (c = 3 ∨ c = 4 ∨ c = 5 ∨ c = 6 ∨ c = 7)
def holds (l : List S53) (t : Int) (o h : ByteArray) : Bool :=
  if typed t then (if t = 5 ∨ t = 6 then reg l h else decide (h.toList = o.toList)) else false
def may (l : List S53) (t : Int) (o h : ByteArray) (c : Int) : Bool :=
  if typed t then
    (if c = 2 then (holds l t o h || (if t = 1 ∨ t = 3 ∨ t = 5 then true else if 3 ≤ t then reg l h else false))
     else if changes c then (holds l t o h || (if 3 ≤ t then reg l h else false)) else true)
  else true
theorem registered_l0 (h : ByteArray) (l : List S53) (hl : l.length ≤ 1000) : ∀ (n k i : Nat), i + n = l.length → n + 1 ≤ k → access_registered.l0 k h l (l.length : Int) (i : Int) = some ((l.drop i).any fun r => decide (r.f0.toList = h.toList))
  | 0, k + 1, i, hi, hk => by
    show (if (i : Int) < (l.length : Int) then _ else some false) = _
    rw [if_neg (by omega), List.drop_eq_nil_of_le (by omega)]
    rfl
  | n + 1, k + 1, i, hi, hk => by
    have hlt : i < l.length := by omega
    show (if (i : Int) < (l.length : Int) then (if 0 ≤ (i : Int) then (if (i : Int) < (l.length : Int) then (if ((rd_T53 l i).f0).toList = h.toList then (some true) else (access_registered.l0 k h l (l.length : Int) (wrap64 ((i : Int) + 1)))) else none) else none) else some false) = _
    rw [if_pos (by omega), if_pos (by omega), if_pos (by omega), rd_at l i hlt, List.drop_eq_getElem_cons hlt, List.any_cons]
    by_cases hc : (l[i]).f0.toList = h.toList
    · rw [if_pos hc, decide_eq_true hc]
      rfl
    · rw [if_neg hc, decide_eq_false hc, w64 (by omega) (by omega)]
      exact registered_l0 h l hl n k (i + 1) (by omega) (by omega)
theorem registered_spec (k : Nat) (l : List S53) (t : Int) (o : ByteArray) (g : Int) (b : Bool) (h : ByteArray) (hl : l.length ≤ 201) (hk : 210 ≤ k) : access_registered.f k l t o g b h = some (reg l h) :=
  registered_l0 h l (by omega) l.length k 0 (by omega) (by omega)
theorem Changes_spec (c : Int) : access_Changes.f c = some (changes c) := by
  unfold access_Changes.f changes
  by_cases h3 : c = 3
  · rw [if_pos h3, decide_eq_true (by omega)]
  by_cases h5 : c = 5
  · rw [if_neg h3, if_pos h5, decide_eq_true (by omega)]
  by_cases h6 : c = 6
  · rw [if_neg h3, if_neg h5, if_pos h6, decide_eq_true (by omega)]
  by_cases h7 : c = 7
  · rw [if_neg h3, if_neg h5, if_neg h6, if_pos h7, decide_eq_true (by omega)]
  by_cases h4 : c = 4
  · rw [if_neg h3, if_neg h5, if_neg h6, if_neg h7, if_pos h4, decide_eq_true (by omega)]
  · rw [if_neg h3, if_neg h5, if_neg h6, if_neg h7, if_neg h4, decide_eq_false (by omega)]
theorem typed_cases {t : Int} (h : typed t = true) : t = 1 ∨ t = 2 ∨ t = 3 ∨ t = 4 ∨ t = 5 ∨ t = 6 := by
  have := of_decide_eq_true h
  omega
theorem beq_dec (a b : List UInt8) : (a == b) = decide (a = b) := by
  by_cases h : a = b
  · rw [h]
    simp
  · rw [decide_eq_false h]
    exact beq_eq_false_iff_ne.mpr h
theorem Holds_spec (k : Nat) (l : List S53) (t : Int) (o : ByteArray) (g : Int) (b : Bool) (h : ByteArray) (hl : l.length ≤ 201) (hk : 210 ≤ k) : access_Holds.f k l t o g b h = some (holds l t o h) := by
  unfold access_Holds.f
  rw [Type_spec, Option.bind_some]
  unfold holds
  cases ht : typed t with
  | false => rfl
  | true =>
    rw [if_pos rfl, if_pos rfl, registered_spec k l t o g b h hl hk]
    rcases typed_cases ht with rfl | rfl | rfl | rfl | rfl | rfl
    all_goals first
      | (rw [if_pos (by decide), if_pos (by decide), if_pos (by decide +kernel), if_neg (by decide), beq_dec])
      | (rw [if_pos (by decide), if_pos (by decide), if_neg (by decide +kernel), if_pos (by decide)]; rfl)
theorem May_spec (k : Nat) (l : List S53) (t : Int) (o : ByteArray) (g : Int) (b : Bool) (h : ByteArray) (c : Int) (hl : l.length ≤ 201) (hk : 220 ≤ k) : access_May.f k l t o g b h c = some (may l t o h c) := by
  obtain ⟨k, rfl⟩ := Nat.exists_eq_add_of_le' (show 1 ≤ k by omega)
  have hr := registered_spec k l t o g b h hl (by omega)
  have hj : ∀ z, access_May.j0 (k + 1) h c z l t o g b = if z = true then (some true) else (if 0 ≤ t then (if t < 7 then ((access_Changes.f c).bind fun t117 => (if t117 = true then (if (Go.bits .and .i64 (rd G_access_lets.tab t) 4) = 0 then (some false) else ((access_registered.f k l t o g b h).bind fun t118 => (some t118))) else (if (Go.bits .and .i64 (rd G_access_lets.tab t) 1) = 0 then (if (Go.bits .and .i64 (rd G_access_lets.tab t) 2) = 0 then (some false) else ((access_registered.f k l t o g b h).bind fun t119 => (some t119))) else (some true)))) else (none)) else (none)) := fun z => rfl
  unfold access_May.f may
  simp only [hj, hr, Type_spec, Changes_spec, Holds_spec (k + 1) l t o g b h hl (by omega), access_Reads.f, Option.bind_some]
  cases ht : typed t with
  | false => simp
  | true =>
    rw [if_pos rfl, if_pos rfl]
    by_cases h2 : c = 2
    · subst h2
      have hc2 : changes 2 = false := by decide
      rw [if_pos (by decide), if_pos rfl, hc2]
      cases hh : holds l t o h with
      | true => rfl
      | false =>
        rcases typed_cases ht with rfl | rfl | rfl | rfl | rfl | rfl
        · rw [if_neg (by decide), if_pos (by decide), if_pos (by decide), if_neg (by decide), if_neg (by decide +kernel)]; rfl
        · rw [if_neg (by decide), if_pos (by decide), if_pos (by decide), if_neg (by decide), if_pos (by decide +kernel), if_pos (by decide +kernel)]; rfl
        · rw [if_neg (by decide), if_pos (by decide), if_pos (by decide), if_neg (by decide), if_neg (by decide +kernel)]; rfl
        · rw [if_neg (by decide), if_pos (by decide), if_pos (by decide), if_neg (by decide), if_pos (by decide +kernel), if_neg (by decide +kernel)]; rfl
        · rw [if_neg (by decide), if_pos (by decide), if_pos (by decide), if_neg (by decide), if_neg (by decide +kernel)]; rfl
        · rw [if_neg (by decide), if_pos (by decide), if_pos (by decide), if_neg (by decide), if_pos (by decide +kernel), if_neg (by decide +kernel)]; rfl
    · have h2' : (c == 2) = false := beq_eq_false_iff_ne.mpr h2
      rw [h2', if_neg (by decide), if_neg h2]
      cases hc : changes c with
      | false => rfl
      | true =>
        rw [if_pos rfl, if_pos rfl]
        cases hh : holds l t o h with
        | true => rfl
        | false =>
          rcases typed_cases ht with rfl | rfl | rfl | rfl | rfl | rfl
          · rw [if_neg (by decide), if_pos (by decide), if_pos (by decide), if_pos rfl, if_pos (by decide +kernel)]; rfl
          · rw [if_neg (by decide), if_pos (by decide), if_pos (by decide), if_pos rfl, if_pos (by decide +kernel)]; rfl
          · rw [if_neg (by decide), if_pos (by decide), if_pos (by decide), if_pos rfl, if_neg (by decide +kernel)]; rfl
          · rw [if_neg (by decide), if_pos (by decide), if_pos (by decide), if_pos rfl, if_neg (by decide +kernel)]; rfl
          · rw [if_neg (by decide), if_pos (by decide), if_pos (by decide), if_pos rfl, if_neg (by decide +kernel)]; rfl
          · rw [if_neg (by decide), if_pos (by decide), if_pos (by decide), if_pos rfl, if_neg (by decide +kernel)]; rfl
end Go.Proofs.YtjogkfcjlljjcaaDoor.Pure
namespace Go.Proofs.YtjogkfcjlljjcaaDoor.Pure
open Go.RowKit Go.Proofs.YtjogkfcjlljjcaaDoor.P Go.Proofs.YtjogkfcjlljjcaaDoorW.PrintWords Go.Proofs.YtjogkfcjlljjcaaDoorW.PrintLast Go.Proofs.YtjogkfcjlljjcaaDoorW.PrintMore Go.Proofs.YtjogkfcjlljjcaaDoor.Num
set_option linter.unusedVariables false
set_option linter.unusedSimpArgs false
theorem tl_beq (a b : ByteArray) : (a.toList == b.toList) = decide (a = b) := by rw [beq_dec]; exact decide_eq_decide.mpr tl_inj
theorem keyL_none {l : List S53} {h : ByteArray} (hr : reg l h = false) : keyL l h = 0 := by
  unfold keyL
  rw [List.find?_eq_none.mpr]
  intro x hx
  have := (Bool.eq_false_iff.mp hr)
  intro z
  exact this ((reg_iff l h).mpr ⟨x, hx, tl_inj.mp (of_decide_eq_true z)⟩)
theorem keyL_some {l : List S53} {h : ByteArray} (hr : reg l h = true) : ∃ x ∈ l, x.f0 = h ∧ keyL l h = x.f1 := by
  unfold keyL
  cases hf : l.find? (fun r => decide (r.f0.toList = h.toList)) with
  | none =>
    obtain ⟨x, hx, he⟩ := (reg_iff l h).mp hr
    have := List.find?_eq_none.mp hf x hx
    exact absurd (decide_eq_true (by rw [he])) this
  | some x => exact (by
      have z := List.find?_some hf
      exact ⟨x, List.mem_of_find?_eq_some hf, tl_inj.mp (of_decide_eq_true z), rfl⟩)
theorem keyL_zero {l : List S53} (ho : okL l) (h : ByteArray) : keyL l h = 0 ↔ reg l h = false := by
  constructor
  · intro z
    cases hr : reg l h with
    | false => rfl
    | true =>
      obtain ⟨x, hx, _, hk⟩ := keyL_some hr
      rw [hk] at z
      exact absurd z (ho.2 x hx).2
  · exact keyL_none
theorem me_none {l : List S53} {c : S31} (hr : reg l c.f2 = false) : l.findIdx? (fun x => meP c x.f0 x.f1) = none := by
  rw [List.findIdx?_eq_none_iff]
  intro x hx
  unfold meP
  rw [tl_beq]
  refine decide_eq_false (fun z => ?_)
  exact (Bool.eq_false_iff.mp hr) ((reg_iff l c.f2).mpr ⟨x, hx, z⟩)
theorem me_new {l : List S53} {c : S31} (hr : reg l c.f2 = false) : idxP (meP c) (l ++ [(⟨c.f2, 0⟩ : S53)]) = l.length := by
  unfold idxP
  rw [List.findIdx?_append, me_none hr]
  have : ([(⟨c.f2, 0⟩ : S53)] : List S53).findIdx? (fun x => meP c x.f0 x.f1) = some 0 := by
    rw [List.findIdx?_cons]
    unfold meP
    simp
  rw [this]
  simp
theorem keyed_new (l : List S53) (h : ByteArray) (ky : Int) : keyed (l ++ [(⟨h, 0⟩ : S53)]) l.length ky = l ++ [(⟨h, ky⟩ : S53)] := by
  unfold keyed
  rw [rd_lt _ l.length (by simp)]
  simp
theorem me_put {l : List S53} {c : S31} (hr : reg l c.f2 = true) : ∃ i : Nat, ∃ hi : i < l.length, idxP (meP c) l = (i : Int) ∧ (l[i]).f0 = c.f2 := by
  unfold idxP
  cases hf : l.findIdx? (fun x => meP c x.f0 x.f1) with
  | none =>
    obtain ⟨x, hx, he⟩ := (reg_iff l c.f2).mp hr
    have := List.findIdx?_eq_none_iff.mp hf x hx
    unfold meP at this
    rw [tl_beq] at this
    exact absurd he (of_decide_eq_false this)
  | some i =>
    obtain ⟨hi, hp, _⟩ := List.findIdx?_eq_some_iff_getElem.mp hf
    refine ⟨i, hi, rfl, ?_⟩
    unfold meP at hp
    rw [tl_beq] at hp
    exact of_decide_eq_true hp
def rekey (l : List S53) (h : ByteArray) (ky : Int) : List S53 := l.map fun x => if x.f0 = h then ⟨x.f0, ky⟩ else x
theorem keyed_put {l : List S53} (ho : okL l) {i : Nat} (hi : i < l.length) {h : ByteArray} (he : (l[i]).f0 = h) (ky : Int) : keyed l i ky = rekey l h ky := by
  unfold keyed rekey
  rw [rd_lt l i hi]
  apply List.ext_getElem
  · rw [List.length_set, List.length_map]
  · intro j h1 h2
    rw [List.length_set] at h1
    rw [List.getElem_set, List.getElem_map]
    by_cases hij : i = j
    · subst hij
      rw [if_pos rfl, if_pos he]
    · rw [if_neg hij, if_neg]
      intro z
      have hp := List.pairwise_iff_getElem.mp ho.1
      rcases Nat.lt_or_gt_of_ne hij with q | q
      · exact hp i j hi h1 q (he.trans z.symm)
      · exact hp j i h1 hi q (z.trans he.symm)
end Go.Proofs.YtjogkfcjlljjcaaDoor.Pure
namespace Go.Proofs.YtjogkfcjlljjcaaDoor.Pure
open Go.RowKit Go.Proofs.YtjogkfcjlljjcaaDoor.P Go.Proofs.YtjogkfcjlljjcaaDoorW.PrintWords Go.Proofs.YtjogkfcjlljjcaaDoorW.PrintLast Go.Proofs.YtjogkfcjlljjcaaDoorW.PrintMore Go.Proofs.YtjogkfcjlljjcaaDoor.Num
set_option linter.unusedVariables false
set_option linter.unusedSimpArgs false
theorem rsv_eq (k : Nat) (l : List S53) (typ : Int) (host : ByteArray) (gen : Int) (apt : Bool) (c : S31) (kk : Int) (hk : 210 ≤ k) (hl : l.length ≤ 201) :
    do_rsv k l typ host gen apt c kk = if typed c.f11 = false then do_same l typ host gen apt 5 else if asksP kk c = false then do_same l typ host gen apt 2 else if typ = 0 then some (l, c.f11, takenBy c, gen, apt, [], 1) else if (holds l typ host c.f2 && typ == c.f11) = true then do_same l typ host gen apt 1 else do_same l typ host gen apt 2 := by
  unfold do_rsv
  rw [Type_spec, Option.bind_some, Holds_spec k l typ host gen apt c.f2 hl hk, Option.bind_some]
theorem reg_eq (l : List S53) (typ : Int) (host : ByteArray) (gen : Int) (apt : Bool) (c : S31) (eb : Bool) (hg : okL l) :
    do_reg l typ host gen apt c (keyL l c.f2) eb = if (!c.f12 && c.f8 != keyL l c.f2) = true then do_same l typ host gen apt 2
      else if c.f9 = 0 then
        (if keyL l c.f2 = 0 then some (l, typ, host, gen, aptP c apt, [], 1)
         else if (decide (host = c.f2) || eb && ((l.filter fun x => !decide (x.f0 = c.f2)).length == 0)) = true then some (l.filter fun x => !decide (x.f0 = c.f2), 0, (⟨#[]⟩ : ByteArray), (gen + 1) % 4294967296, aptP c apt, freed c typ (l.filter fun x => !decide (x.f0 = c.f2)), 1)
         else some (l.filter fun x => !decide (x.f0 = c.f2), typ, host, (gen + 1) % 4294967296, aptP c apt, [], 1))
      else if keyL l c.f2 = 0 then
        (if l.length = 16 then do_same l typ host gen apt 8 else some (l ++ [(⟨c.f2, c.f9⟩ : S53)], typ, host, (gen + 1) % 4294967296, aptP c apt, [], 1))
      else some (rekey l c.f2 c.f9, typ, host, (gen + 1) % 4294967296, aptP c apt, [], 1) := by
  unfold do_reg
  simp only [tl_beq]
  by_cases h1 : (!c.f12 && c.f8 != keyL l c.f2) = true
  · rw [if_pos h1, if_pos h1]
  rw [if_neg h1, if_neg h1]
  by_cases h9 : c.f9 = 0
  · rw [if_pos h9, if_pos h9]
  rw [if_neg h9, if_neg h9]
  by_cases h0 : keyL l c.f2 = 0
  · rw [if_pos h0, if_pos h0, if_pos (me_new ((keyL_zero hg c.f2).mp h0)), keyed_new]
  · rw [if_neg h0, if_neg h0]
    obtain ⟨i, hi, e1, e2⟩ := me_put (c := c) (by
      cases hr : reg l c.f2 with
      | true => rfl
      | false => exact absurd (keyL_none hr) h0)
    rw [e1, if_pos (Int.natCast_nonneg i), Int.toNat_natCast, keyed_put hg hi e2]
end Go.Proofs.YtjogkfcjlljjcaaDoor.Pure
namespace Go.Proofs.YtjogkfcjlljjcaaDoor.Pure
open Go.RowKit Go.Proofs.YtjogkfcjlljjcaaDoor.P Go.Proofs.YtjogkfcjlljjcaaDoorW.PrintWords Go.Proofs.YtjogkfcjlljjcaaDoorW.PrintLast Go.Proofs.YtjogkfcjlljjcaaDoorW.PrintMore Go.Proofs.YtjogkfcjlljjcaaDoor.Num
set_option linter.unusedVariables false
set_option linter.unusedSimpArgs false
theorem reg_pos {l : List S53} {h : ByteArray} (hr : reg l h = true) : 0 < l.length := by
  obtain ⟨x, hx, _⟩ := (reg_iff l h).mp hr
  exact List.length_pos_of_mem hx
theorem keyL_mem {l : List S53} (ho : okL l) {x : S53} (hx : x ∈ l) : keyL l x.f0 = x.f1 := by
  obtain ⟨y, hy, he, hk⟩ := keyL_some ((reg_iff l x.f0).mpr ⟨x, hx, rfl⟩)
  rw [hk]
  obtain ⟨i, hi, rfl⟩ := List.getElem_of_mem hx
  obtain ⟨j, hj, rfl⟩ := List.getElem_of_mem hy
  have hp := List.pairwise_iff_getElem.mp ho.1
  rcases Nat.lt_trichotomy i j with q | q | q
  · exact absurd he.symm (hp i j hi hj q)
  · subst q; rfl
  · exact absurd he (hp j i hj hi q)
end Go.Proofs.YtjogkfcjlljjcaaDoor.Pure
