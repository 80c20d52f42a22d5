-- joined by this session's wip/tools/pack.py: words of the kit's print, cut to what the claim names; functions printed by a patched copy of the printer; walks and lemmas of this session; Lean checks it
import Derived.Test.YthglbmihbmneaaaGreatDoorBa4
import Derived.Maps.Own
import Derived.Maps.OwnOps
import Derived.Maps.Views
import Derived.Carry
import Derived.Lib.SliceRun
namespace Go.Proofs.YthglbmihbmneaaaGreatDoor.P
open Go.RowKit Go.Proofs.YthglbmihbmneaaaGreatDoorW.PrintWords Go.Proofs.YthglbmihbmneaaaGreatDoorW.PrintLast Go.Proofs.YthglbmihbmneaaaGreatDoorW.PrintMore
attribute [local go_sem] max2_int min2_int max_two min_two max_three min_three max_four min_four   -- for this text's walks alone
set_option linter.unusedVariables false
set_option linter.unusedSimpArgs false
set_option linter.unnecessarySimpa false
def headgateref01_Set.f (a0 : ByteArray) (a1 : Int) (a2 : ByteArray) : Option (ByteArray × Bool) := (headgateref01_there.f a0 a1 (a2.size : Int)).bind fun t174 => (if t174 = true then (if 0 ≤ a1 then (if a1 ≤ (a0.size : Int) then (if (a0.extract 0 (a1 : Int).toNat).size + a2.size ≤ 9223372036854775807 then (if 0 ≤ (wrap64 (a1 + (a2.size : Int))) then (if (wrap64 (a1 + (a2.size : Int))) ≤ (a0.size : Int) then (if ((a0.extract 0 (a1 : Int).toNat) ++ a2).size + (a0.extract ((wrap64 (a1 + (a2.size : Int))) : Int).toNat a0.size).size ≤ 9223372036854775807 then (some (((a0.extract 0 (a1 : Int).toNat) ++ a2) ++ (a0.extract ((wrap64 (a1 + (a2.size : Int))) : Int).toNat a0.size), true)) else (none)) else (none)) else (none)) else (none)) else (none)) else (none)) else (some ((⟨#[]⟩ : ByteArray), false)))
set_option maxHeartbeats 8000000 in
set_option maxRecDepth 100000 in
theorem headgateref01_Set.calls (a0 : ByteArray) (a1 : Int) (a2 : ByteArray) (r1 : ByteArray) (r2 : Bool) (w : World) (h : headgateref01_Set.f a0 a1 a2 = some (r1, r2)) :
    Calls Tryz.prog 37 #[.string a0, .int .i64 a1, .string a2] w fun e w' => e = .returned (.tuple #[.string r1, .bool r2]) ∧ Drawn0 w w' := by
  have H : ((headgateref01_there.f a0 a1 (a2.size : Int)).bind fun t174 => (if t174 = true then (if 0 ≤ a1 then (if a1 ≤ (a0.size : Int) then (if (a0.extract 0 (a1 : Int).toNat).size + a2.size ≤ 9223372036854775807 then (if 0 ≤ (wrap64 (a1 + (a2.size : Int))) then (if (wrap64 (a1 + (a2.size : Int))) ≤ (a0.size : Int) then (if ((a0.extract 0 (a1 : Int).toNat) ++ a2).size + (a0.extract ((wrap64 (a1 + (a2.size : Int))) : Int).toNat a0.size).size ≤ 9223372036854775807 then (some (((a0.extract 0 (a1 : Int).toNat) ++ a2) ++ (a0.extract ((wrap64 (a1 + (a2.size : Int))) : Int).toNat a0.size), true)) else (none)) else (none)) else (none)) else (none)) else (none)) else (none)) else (some ((⟨#[]⟩ : ByteArray), false)))) = some (r1, r2) := h
  clear h
  replace H := Option.bind_eq_some_iff.mp H
  obtain ⟨t174, A40, H⟩ := H
  replace H : (if t174 = true then (if 0 ≤ a1 then (if a1 ≤ (a0.size : Int) then (if (a0.extract 0 (a1 : Int).toNat).size + a2.size ≤ 9223372036854775807 then (if 0 ≤ (wrap64 (a1 + (a2.size : Int))) then (if (wrap64 (a1 + (a2.size : Int))) ≤ (a0.size : Int) then (if ((a0.extract 0 (a1 : Int).toNat) ++ a2).size + (a0.extract ((wrap64 (a1 + (a2.size : Int))) : Int).toNat a0.size).size ≤ 9223372036854775807 then (some (((a0.extract 0 (a1 : Int).toNat) ++ a2) ++ (a0.extract ((wrap64 (a1 + (a2.size : Int))) : Int).toNat a0.size), true)) else (none)) else (none)) else (none)) else (none)) else (none)) else (none)) else (some ((⟨#[]⟩ : ByteArray), false))) = some (r1, r2) := H
  have A4 := Aside0.mk A40
  clear A40
  by_cases c5 : t174 = true
  · subst c5
    have H1 : (if 0 ≤ a1 then (if a1 ≤ (a0.size : Int) then (if (a0.extract 0 (a1 : Int).toNat).size + a2.size ≤ 9223372036854775807 then (if 0 ≤ (wrap64 (a1 + (a2.size : Int))) then (if (wrap64 (a1 + (a2.size : Int))) ≤ (a0.size : Int) then (if ((a0.extract 0 (a1 : Int).toNat) ++ a2).size + (a0.extract ((wrap64 (a1 + (a2.size : Int))) : Int).toNat a0.size).size ≤ 9223372036854775807 then (some (((a0.extract 0 (a1 : Int).toNat) ++ a2) ++ (a0.extract ((wrap64 (a1 + (a2.size : Int))) : Int).toNat a0.size), true)) else (none)) else (none)) else (none)) else (none)) else (none)) else (none)) = some (r1, r2) := by rw [if_pos rfl] at H; exact H
    clear H
    have H := H1
    clear H1
    by_cases c6 : 0 ≤ a1
    · rw [if_pos c6] at H
      have c6b0 := eq_true c6
      have c6b1 : decide (0 ≤ a1) = true := decide_eq_true c6
      clear c6
      by_cases c7 : a1 ≤ (a0.size : Int)
      · rw [if_pos c7] at H
        have c7b0 := eq_true c7
        have c7b1 : decide (a1 ≤ (a0.size : Int)) = true := decide_eq_true c7
        clear c7
        by_cases c8 : (a0.extract 0 (a1 : Int).toNat).size + a2.size ≤ 9223372036854775807
        · rw [if_pos c8] at H
          have c8b0 := eq_true c8
          have c8b1 : decide ((a0.extract 0 (a1 : Int).toNat).size + a2.size ≤ 9223372036854775807) = true := decide_eq_true c8
          try have c8b2 : (9223372036854775807 < (a0.extract 0 (a1 : Int).toNat).size + a2.size) = False := eq_false (Nat.not_lt.2 c8)
          (try have c8b4 : (9223372036854775807 < a1.toNat + a2.size) = False := eq_false (by have h_ := c8; simp only [ByteArray.size_append, ByteArray.size_extract] at h_; have e0_ : a1 ≤ (a0.size : Int) := of_decide_eq_true (by first | (with_reducible assumption) | assumption); omega))
          obtain ⟨ji9, hji9⟩ : ∃ j_ : Int, (wrap64 (a1 + (a2.size : Int))) = j_ := ⟨_, rfl⟩
          replace H : (if 0 ≤ (ji9) then (if (ji9) ≤ (a0.size : Int) then (if ((a0.extract 0 (a1 : Int).toNat) ++ a2).size + (a0.extract ((ji9) : Int).toNat a0.size).size ≤ 9223372036854775807 then (some (((a0.extract 0 (a1 : Int).toNat) ++ a2) ++ (a0.extract ((ji9) : Int).toNat a0.size), true)) else (none)) else (none)) else (none)) = some (r1, r2) := by first | (rw [hji9] at H; exact H) | (simp only [hji9] at H ⊢; exact H)
          (try rw [hji9] at A4)
          have hji9w : (IntKind.i64.wrap (a1 + (a2.size : Int))) = ji9 := (i64_w _).trans hji9
          by_cases c10 : 0 ≤ (ji9)
          · rw [if_pos c10] at H
            have c10b0 := eq_true c10
            have c10b1 : decide (0 ≤ (ji9)) = true := decide_eq_true c10
            clear c10
            by_cases c11 : (ji9) ≤ (a0.size : Int)
            · rw [if_pos c11] at H
              have c11b0 := eq_true c11
              have c11b1 : decide ((ji9) ≤ (a0.size : Int)) = true := decide_eq_true c11
              clear c11
              by_cases c12 : ((a0.extract 0 (a1 : Int).toNat) ++ a2).size + (a0.extract ((ji9) : Int).toNat a0.size).size ≤ 9223372036854775807
              · rw [if_pos c12] at H
                have c12b0 := eq_true c12
                have c12b1 : decide (((a0.extract 0 (a1 : Int).toNat) ++ a2).size + (a0.extract ((ji9) : Int).toNat a0.size).size ≤ 9223372036854775807) = true := decide_eq_true c12
                try have c12b2 : (9223372036854775807 < ((a0.extract 0 (a1 : Int).toNat) ++ a2).size + (a0.extract ((ji9) : Int).toNat a0.size).size) = False := eq_false (Nat.not_lt.2 c12)
                (try have c12b4 : (9223372036854775807 < a1.toNat + a2.size + (a0.size - ji9.toNat)) = False := eq_false (by have h_ := c12; simp only [ByteArray.size_append, ByteArray.size_extract] at h_; have e0_ : a1 ≤ (a0.size : Int) := of_decide_eq_true (by first | (with_reducible assumption) | assumption); omega))
                simp only [Option.some.injEq, Prod.mk.injEq] at H
                obtain ⟨rfl, rfl⟩ := H
                go_enter Tryz.func37, Tryz.ntmps37
                go_wp2_with (first | (go_at_call 58; (with_reducible refine (headgateref01_there.calls a0 a1 (a2.size : Int) true _ A4.out).mono ?_); rintro e w' ⟨rfl, ⟨nd, rfl⟩⟩; (try first | exact ⟨rfl, _, World.drewN_drewN _ _ _⟩ | exact ⟨rfl, _, Eq.trans (World.drewN_drewN _ _ _) (congrArg (World.drewN _) (Nat.add_assoc _ _ _))⟩)))
                repeat (go_quiet (first | (go_at_call 58; (with_reducible refine (headgateref01_there.calls a0 a1 (a2.size : Int) true _ A4.out).mono ?_); rintro e w' ⟨rfl, ⟨nd, rfl⟩⟩; (try first | exact ⟨rfl, _, World.drewN_drewN _ _ _⟩ | exact ⟨rfl, _, Eq.trans (World.drewN_drewN _ _ _) (congrArg (World.drewN _) (Nat.add_assoc _ _ _))⟩))); try go_wp2_with (first | (go_at_call 58; (with_reducible refine (headgateref01_there.calls a0 a1 (a2.size : Int) true _ A4.out).mono ?_); rintro e w' ⟨rfl, ⟨nd, rfl⟩⟩; (try first | exact ⟨rfl, _, World.drewN_drewN _ _ _⟩ | exact ⟨rfl, _, Eq.trans (World.drewN_drewN _ _ _) (congrArg (World.drewN _) (Nat.add_assoc _ _ _))⟩))))
                go_ret2
                exact ⟨by first | rfl | (simp; done) | (simp only [← hji9] <;> (first | rfl | simp)) | (simp [*]; done), by repeat (first | exact Drawn0.refl _ | apply Drawn0.step)⟩
              · rw [if_neg c12] at H
                exact absurd H (by simp)
            · rw [if_neg c11] at H
              exact absurd H (by simp)
          · rw [if_neg c10] at H
            exact absurd H (by simp)
        · rw [if_neg c8] at H
          exact absurd H (by simp)
      · rw [if_neg c7] at H
        exact absurd H (by simp)
    · rw [if_neg c6] at H
      exact absurd H (by simp)
  · replace c5 := Bool.eq_false_iff.mpr c5
    subst c5
    have H1 : (some ((⟨#[]⟩ : ByteArray), false)) = some (r1, r2) := by rw [if_neg (show ¬ (false = true) by decide)] at H; exact H
    clear H
    have H := H1
    clear H1
    simp only [Option.some.injEq, Prod.mk.injEq] at H
    obtain ⟨rfl, rfl⟩ := H
    go_enter Tryz.func37, Tryz.ntmps37
    go_wp2_with (first | (go_at_call 58; (with_reducible refine (headgateref01_there.calls a0 a1 (a2.size : Int) false _ A4.out).mono ?_); rintro e w' ⟨rfl, ⟨nd, rfl⟩⟩; (try first | exact ⟨rfl, _, World.drewN_drewN _ _ _⟩ | exact ⟨rfl, _, Eq.trans (World.drewN_drewN _ _ _) (congrArg (World.drewN _) (Nat.add_assoc _ _ _))⟩)))
    repeat (go_quiet (first | (go_at_call 58; (with_reducible refine (headgateref01_there.calls a0 a1 (a2.size : Int) false _ A4.out).mono ?_); rintro e w' ⟨rfl, ⟨nd, rfl⟩⟩; (try first | exact ⟨rfl, _, World.drewN_drewN _ _ _⟩ | exact ⟨rfl, _, Eq.trans (World.drewN_drewN _ _ _) (congrArg (World.drewN _) (Nat.add_assoc _ _ _))⟩))); try go_wp2_with (first | (go_at_call 58; (with_reducible refine (headgateref01_there.calls a0 a1 (a2.size : Int) false _ A4.out).mono ?_); rintro e w' ⟨rfl, ⟨nd, rfl⟩⟩; (try first | exact ⟨rfl, _, World.drewN_drewN _ _ _⟩ | exact ⟨rfl, _, Eq.trans (World.drewN_drewN _ _ _) (congrArg (World.drewN _) (Nat.add_assoc _ _ _))⟩))))
    go_ret2
    exact ⟨by first | rfl | (simp; done) | (simp [*]; done), by repeat (first | exact Drawn0.refl _ | apply Drawn0.step)⟩
mutual
def headgateref01_PutBig.j0 : Nat → Int → Int → Bool → Option (ByteArray)
 | 0, _, _, _ => none
 | k + 1, x0, x1, x12 => if x12 = true then (some (⟨#[]⟩ : ByteArray)) else (if 0 ≤ x1 then (if (x1 : Int).toNat ≤ 281474976710656 then (headgateref01_PutBig.l0 k x0 (List.replicate (x1 : Int).toNat 0) (wrap64 (x1 - 1))) else (none)) else (none))
def headgateref01_PutBig.l0 : Nat → Int → List Int → Int → Option (ByteArray)
 | 0, _, _, _ => none
 | k + 1, x0, x5, x6 => if x6 ≥ 0 then (if 0 ≤ x6 then (if x6 < (x5.length : Int) then (headgateref01_PutBig.l0 k (IntKind.u64.wrap (Int.tdiv x0 256)) (x5.set (x6 : Int).toNat ((Int.tmod x0 256) % 256)) (wrap64 (x6 - 1))) else (none)) else (none)) else (some (strOfNums x5))
end
def headgateref01_PutBig.f (k : Nat) (a0 : Int) (a1 : Int) : Option (ByteArray) := if a1 < 1 then (headgateref01_PutBig.j0 k a0 a1 true) else (headgateref01_PutBig.j0 k a0 a1 (decide (a1 > 8)))
theorem headgateref01_PutBig.mono_l : ∀ k, (∀ y0 y1 y2, LeO (headgateref01_PutBig.j0 k y0 y1 y2) (headgateref01_PutBig.j0 (k + 1) y0 y1 y2)) ∧ (∀ y0 y1 y2, LeO (headgateref01_PutBig.l0 k y0 y1 y2) (headgateref01_PutBig.l0 (k + 1) y0 y1 y2))
 | 0 => ⟨fun _ _ _ r h => by simp [headgateref01_PutBig.j0] at h, fun _ _ _ r h => by simp [headgateref01_PutBig.l0] at h⟩
 | k + 1 => by
  obtain ⟨ih0, ih1⟩ := headgateref01_PutBig.mono_l k
  refine ⟨?_, ?_⟩
  ·intro y0 y1 y2
   unfold headgateref01_PutBig.j0
   repeat' first
   | (with_reducible exact ih0 _ _ _)
   | (with_reducible exact ih1 _ _ _)
   | (with_reducible exact LeO.refl _)
   | (with_reducible exact LeO.none _)
   | (with_reducible refine LeO.ite ?_ ?_)
   | (with_reducible refine LeO.bind ?_ (fun _ => ?_))
   | exact ih0 _ _ _
   | exact ih1 _ _ _
   | exact LeO.none _
   | refine LeO.ite ?_ ?_
   | refine LeO.bind ?_ (fun _ => ?_)
  ·intro y0 y1 y2
   unfold headgateref01_PutBig.l0
   repeat' first
   | (with_reducible exact ih0 _ _ _)
   | (with_reducible exact ih1 _ _ _)
   | (with_reducible exact LeO.refl _)
   | (with_reducible exact LeO.none _)
   | (with_reducible refine LeO.ite ?_ ?_)
   | (with_reducible refine LeO.bind ?_ (fun _ => ?_))
   | exact ih0 _ _ _
   | exact ih1 _ _ _
   | exact LeO.none _
   | refine LeO.ite ?_ ?_
   | refine LeO.bind ?_ (fun _ => ?_)
theorem headgateref01_PutBig.mono : ∀ a0 a1 k, LeO (headgateref01_PutBig.f k a0 a1) (headgateref01_PutBig.f (k + 1) a0 a1) := by
 intro a0 a1 k
 obtain ⟨ih0, ih1⟩ := headgateref01_PutBig.mono_l k
 unfold headgateref01_PutBig.f
 repeat' first
   | (with_reducible exact ih0 _ _ _)
   | (with_reducible exact ih1 _ _ _)
   | (with_reducible exact LeO.refl _)
   | (with_reducible exact LeO.none _)
   | (with_reducible refine LeO.ite ?_ ?_)
   | (with_reducible refine LeO.bind ?_ (fun _ => ?_))
   | exact ih0 _ _ _
   | exact ih1 _ _ _
   | exact LeO.none _
   | refine LeO.ite ?_ ?_
   | refine LeO.bind ?_ (fun _ => ?_)
set_option maxHeartbeats 8000000 in
set_option maxRecDepth 100000 in
theorem headgateref01_PutBig.calls (k : Nat) (a0 : Int) (a1 : Int) (r : ByteArray) (w : World) (h : headgateref01_PutBig.f k a0 a1 = some r) :
  Calls Tryz.prog 38 #[.int .u64 a0, .int .i64 a1] w fun e w' => e = .returned (.string r) ∧ Below w.heap.size w w' := by
 have HB := Aside0.mk (Below.refl w.heap.size w)
 have H : (if a1 < 1 then (headgateref01_PutBig.j0 k a0 a1 true) else (headgateref01_PutBig.j0 k a0 a1 (decide (a1 > 8)))) = some r := h
 clear h
 have HC3 := Aside0.mk H
 clear H
 go_enter Tryz.func38, Tryz.ntmps38
 go_upto_region 1 with (fail)
 go_cut [12] (fun v12 wc => ∃ (kq : Nat) (x12_2 : Bool), v12 = .bool x12_2 ∧ Aside0 (headgateref01_PutBig.j0 kq a0 a1 x12_2 = some r) ∧ Aside0 (kq ≤ k) ∧ Aside0 (Below w.heap.size w wc))
 case first =>
  have H := HC3.out
  clear HC3
  by_cases c4 : a1 < 1
  ·rw [if_pos c4] at H
   have c4b0 : decide (a1 < 1) = true := decide_eq_true c4
   clear c4
   (first | rw [c4b0] | (simp only [i64_w, i32_w]; rw [c4b0]) | skip)
   have H' := Aside0.mk H
   clear H
   go_wp2
   go_meet
   case rel => exact ⟨_, (true), (by first | rfl | (simp; done) | (simp [*]; done)), H', ⟨by first | omega | exact Nat.le_refl _⟩, ⟨hb_ HB⟩⟩
  rw [if_neg c4] at H
  have c4b0 : decide (a1 < 1) = false := decide_eq_false c4
  clear c4
  (first | rw [c4b0] | (simp only [i64_w, i32_w]; rw [c4b0]) | skip)
  have H' := Aside0.mk H
  clear H
  go_wp2
  go_meet
  case rel => exact ⟨_, (decide (a1 > 8)), (by first | rfl | (simp; done) | (simp [*]; done)), H', ⟨by first | omega | exact Nat.le_refl _⟩, ⟨hb_ HB⟩⟩
 case rest =>
  clear HC3
  try clear p2
  try clear c3
  try clear c4
  try clear c4b0
  obtain ⟨kq, x12_2, rfl, HA, HJ2, HB⟩ := hcut
  cases kq with
  | zero => exact absurd HA.out (by simp [headgateref01_PutBig.j0])
  | succ kj2 =>
   have H := HA.out
   clear HA
   simp only [headgateref01_PutBig.j0] at H
   by_cases c5 : x12_2 = true
   ·subst c5
    have H1 := H
    rw [if_pos rfl] at H1
    clear H
    have H := H1
    clear H1
    obtain rfl := Option.some.inj H
    go_wp2
    go_ret
    exact ⟨by first | rfl | (simp [errW_none, errW_some] <;> rfl) | (simp [*, errW_none, errW_some] <;> rfl) | (simp [bt, *]; done) | (unfold bt; simp [*]; done), by repeat (first | (with_reducible first | exact HB.out | apply below_alloc | apply pw_below_drewN | apply below_drew1) | exact HB.out)⟩
   replace c5 := Bool.eq_false_iff.mpr c5
   subst c5
   have H1 := H
   rw [if_neg (show ¬ (false = true) by decide)] at H1
   clear H
   have H := H1
   clear H1
   refine neg_first (p := (0 ≤ a1)) (fun c6 => ?_) (fun c6 => ?_)
   ·rw [if_neg c6] at H
    exact absurd H (by simp)
   rw [if_pos c6] at H
   have c6b0 := eq_true c6
   have c6b1 : decide (0 ≤ a1) = true := decide_eq_true c6
   clear c6
   refine neg_first (p := ((a1 : Int).toNat ≤ 281474976710656)) (fun c7 => ?_) (fun c7 => ?_)
   ·rw [if_neg c7] at H
    exact absurd H (by simp)
   rw [if_pos c7] at H
   have c7b0 := eq_true c7
   have c7b1 : decide ((a1 : Int).toNat ≤ 281474976710656) = true := decide_eq_true c7
   clear c7
   obtain ⟨y175, hy175⟩ : ∃ y_ : List Int, y_ = (List.replicate (a1 : Int).toNat 0) := ⟨_, rfl⟩
   replace H : (headgateref01_PutBig.l0 kj2 a0 y175 (wrap64 (a1 - 1))) = some r := by first | (rw [hy175]; with_reducible exact H) | (have H2_ := (Option.bind_some _ _).symm.trans H; rw [hy175]; with_reducible exact H2_) | (have H2_ := (Option.bind_some _ _).symm.trans H; with_reducible exact H2_) | with_reducible exact H | (rw [hy175]; exact H) | exact H
   have Ny175 := Aside0.mk hy175
   clear hy175
   have H' := Aside0.mk H
   clear H
   go_wp2_with (first | ((with_reducible refine gate_dst (N := 14) rfl ?_); refine Kd.R_make (Kd.int .u8) _ 5 rfl (N := 14) rfl 78 _ _ rfl a1 rfl rfl Tryz.underlying78 (.int .u8 0) 1 info5 rfl (by decide) (by omega) 0 (ok := fun _ => True) (okp := fun _ => True) rfl (fun _ hk => hk) trivial (of_decide_eq_true (by first | (with_reducible assumption) | assumption)) (Nat.le_trans (Nat.mul_le_mul_right _ (of_decide_eq_true (by first | (with_reducible assumption) | assumption) : a1.toNat ≤ 281474976710656)) (by omega)) (Below.refl _ _) (Nat.le_refl _) ?_; intro v176 w8 ho9 hb hg_ hnew_; clear hg_ hnew_; (first | rw [← Ny175.out] at ho9 | (simp only [Int.reduceToNat] at ho9; rw [← Ny175.out] at ho9)); have n0_ := Aside0.mk (Kd.R_lower ho9 (below_size (hb_ HB))); have n1_ := Aside0.mk (below_step (hb_ HB) hb); clear HB; have HO177 := n0_; have HB := n1_; clear n0_ n1_; clear hb ho9))
   go_loopg [0, 6] kj2 (fun kq v0 v6 w' => ∃ (x0_2 : Int) (x5_2 : List Int) (x6_2 : Int), v0 = .int .u64 x0_2 ∧ v6 = .int .i64 x6_2 ∧ Aside0 (headgateref01_PutBig.l0 kq x0_2 x5_2 x6_2 = some r) ∧ Aside0 (kq ≤ kj2) ∧ Aside0 (Kd.R (Kd.int .u8) 5 w' w.heap.size (fun _ => True) v176 x5_2) ∧ Aside0 (Below w.heap.size w w'))
   case atStart => exact ⟨(a0), (y175), (wrap64 (a1 - 1)), (by first | rfl | (simp; done) | (simp [*]; done)), (by first | rfl | (simp; done) | (simp [*]; done)), H', ⟨Nat.le_refl _⟩, ⟨by (with_reducible repeat (first | apply Kd.R_alloc | apply Kd.R_drewN | apply Kd.R_drew)); exact HO177.out⟩, ⟨hb_ HB⟩⟩
   case round =>
    clear H'
    try clear p2
    try clear c3
    try clear c4
    try clear c4b0
    try clear c5
    try clear c6
    try clear c6b0
    try clear c6b1
    try clear p6
    try clear c7
    try clear c7b0
    try clear c7b1
    try clear p2
    obtain ⟨x0_2, x5_2, x6_2, rfl, rfl, HA, HK2, HO_5, HB⟩ := hrel
    cases gk with
    | zero => exact absurd HA.out (by simp [headgateref01_PutBig.l0])
    | succ k2 =>
     have H := HA.out
     clear HA
     simp only [headgateref01_PutBig.l0] at H
     refine neg_first (p := (x6_2 ≥ 0)) (fun c10 => ?_) (fun c10 => ?_)
     ·rw [if_neg c10] at H
      have c10b0 : decide (0 ≤ x6_2) = false := decide_eq_false c10
      clear c10
      obtain rfl := Option.some.inj H
      have hcv16 := own_string (P := Tryz.prog) Tryz.underlying78 Tryz.underlying5 Tryz.underlying9 (Kd.own_of_R HO_5.out)
      go_wp2
      go_ret
      exact ⟨by first | rfl | (simp [errW_none, errW_some] <;> rfl) | (simp [*, errW_none, errW_some] <;> rfl) | (simp [bt, *]; done) | (unfold bt; simp [*]; done), by repeat (first | (with_reducible first | exact HB.out | apply below_alloc | apply pw_below_drewN | apply below_drew1) | exact HB.out)⟩
     rw [if_pos c10] at H
     have c10b0 : decide (0 ≤ x6_2) = true := decide_eq_true c10
     clear c10
     refine neg_first (p := (0 ≤ x6_2)) (fun c11 => ?_) (fun c11 => ?_)
     ·rw [if_neg c11] at H
      exact absurd H (by simp)
     rw [if_pos c11] at H
     have c11b0 : decide (0 ≤ x6_2) = true := decide_eq_true c11
     clear c11
     refine neg_first (p := (x6_2 < (x5_2.length : Int))) (fun c12 => ?_) (fun c12 => ?_)
     ·rw [if_neg c12] at H
      exact absurd H (by simp)
     rw [if_pos c12] at H
     have c12b0 : decide (x6_2 < (x5_2.length : Int)) = true := decide_eq_true c12
     clear c12
     obtain ⟨y178, hy178⟩ : ∃ y_ : List Int, y_ = (x5_2.set (x6_2 : Int).toNat ((Int.tmod x0_2 256) % 256)) := ⟨_, rfl⟩
     replace H : (headgateref01_PutBig.l0 k2 (IntKind.u64.wrap (Int.tdiv x0_2 256)) y178 (wrap64 (x6_2 - 1))) = some r := by first | (rw [hy178]; with_reducible exact H) | (have H2_ := (Option.bind_some _ _).symm.trans H; rw [hy178]; with_reducible exact H2_) | (have H2_ := (Option.bind_some _ _).symm.trans H; with_reducible exact H2_) | with_reducible exact H | (rw [hy178]; exact H) | exact H
     have Ny178 := Aside0.mk hy178
     clear hy178
     have H' := Aside0.mk H
     clear H
     have p13 : 0 ≤ (x6_2 : Int) := of_decide_eq_true (by first | (with_reducible assumption) | assumption)
     have q13 : (x6_2 : Int) < ((x5_2.length : Int) : Int) := of_decide_eq_true (by first | (with_reducible assumption) | assumption)
     obtain ⟨go13, co13, eo13, gb13, gl13, cl13, HG13⟩ := Kd.R_form HO_5.out (by omega)
     (first | cases eo13 | (injection eo13 with ea_ en_ ec_; (first | subst ea_ | (injection ea_ with ea_; subst ea_)); subst ec_; clear en_))
     have GB13 := Aside0.mk gb13
     have GG13 := Aside0.mk HG13
     clear gb13 gl13 HG13
     obtain ⟨hx13_0, hf13_0⟩ := Kd.R_celln 0 HO_5.out (x6_2 : Int) p13 q13
     replace p13 := eq_true p13
     replace q13 := eq_true q13
     have HP14 := Kd.R_putg HO_5.out (x6_2 : Int) ((Int.tmod x0_2 256) % 256)
     go_wp2_with (first | ((with_reducible refine gate_store (t := 5) (p := 26) rfl ?_); refine store_event (t := 5) (p := 26) (v := ?vo_w15) (w1 := (wr.setCell ⟨go13, (x6_2 : Int).toNat, none⟩ (.int .u8 ((Int.tmod x0_2 256) % 256)))) ?hg ?ho ?hn ?hr ?_; (case ho => rfl); (case hg => rfl); (case hn => rfl); (case hr => first | (go_simp; done) | (go_simp; rfl)); intro w15 hw; have hg : wr.grownBy w15 (some go13) := (by rw [hw]; exact HP14.2); have hp_ : Kd.R (Kd.int .u8) 5 w15 w.heap.size (fun _ => True) (.slice (some ⟨go13, 0, none⟩) x5_2.length co13) y178 := (by rw [hw, Ny178.out]; exact HP14.1); clear HP14; have n0_ := Aside0.mk (hp_); have n1_ := Aside0.mk ((by rw [hw]; exact below_set (HB.out) GB13.out : Below w.heap.size w w15)); clear HO_5; clear HB; have HO_5 := n0_; have HB := n1_; clear n0_ n1_; clear hg hw hp_))
     go_roundg k2
     case measure => have := HJ2.out; have := HK2.out; omega
     case rel => exact ⟨(IntKind.u64.wrap (Int.tdiv x0_2 256)), (y178), (wrap64 (x6_2 - 1)), (by first | rfl | (simp; done) | (simp [*]; done)), (by first | rfl | (simp; done) | (simp [*]; done)), H', ⟨by have := HJ2.out; have := HK2.out; omega⟩, ⟨by (with_reducible repeat (first | apply Kd.R_alloc | apply Kd.R_drewN | apply Kd.R_drew)); exact HO_5.out⟩, ⟨hb_ HB⟩⟩
def headgateref20_With.f (k : Nat) (a0_0 : ByteArray) (a0_1 : ByteArray) (a1 : Int) (a2 : Int) : Option (ByteArray × ByteArray) := (headgateref01_PutBig.f k (IntKind.u64.wrap (a2)) 4).bind fun t181 => ((headgateref01_Set.f a0_0 a1 t181).bind fun bt182 => (if bt182.2 = true then (some (bt182.1, a0_1)) else (some (a0_0, a0_1))))
theorem headgateref20_With.mono : ∀ a0 a1 a2 a3 k, LeO (headgateref20_With.f k a0 a1 a2 a3) (headgateref20_With.f (k + 1) a0 a1 a2 a3) := by
 intro a0 a1 a2 a3 k
 unfold headgateref20_With.f
 repeat' first
   | (with_reducible exact headgateref01_PutBig.mono _ _ _)
   | (with_reducible exact LeO.refl _)
   | (with_reducible exact LeO.none _)
   | (with_reducible refine LeO.ite ?_ ?_)
   | (with_reducible refine LeO.bind ?_ (fun _ => ?_))
   | exact headgateref01_PutBig.mono _ _ _
   | exact LeO.none _
   | refine LeO.ite ?_ ?_
   | refine LeO.bind ?_ (fun _ => ?_)
def headgateref20_With.T1 : Bool × List (List Nat × List Nat) := (true, [([], []), ([0], [0]), ([], []), ([], []), ([3], [3]), ([4], [4]), ([1, 2, 5, 5], [1, 2, 5]), ([6], [6]), ([7], [7]), ([7], [7]), ([8, 6, 0, 1, 2, 3, 4, 5, 6, 7, 8], [8]), ([9, 10, 0, 1, 2, 3, 4, 5, 6, 7, 8, 9, 10], [9])])
def headgateref20_With.B1 : List Nat := [0, 1, 0, 0, 8, 24, 63, 127, 255, 255, 511, 2047]
theorem headgateref20_With.tab1 : rtab .any (opsOf Tryz.f17 1) = headgateref20_With.T1 := by kernel_rfl
theorem headgateref20_With.bits1 : waitsOk headgateref20_With.T1.2 headgateref20_With.B1 = true := by kernel_rfl
abbrev d17x0 : Array Bool := #[false, false, false, false, false, false, false, false, false, false, false, false]
abbrev d17x1 : Array Bool := dB 12 1
abbrev d17x2 : Array Bool := dB 12 5
abbrev d17x3 : Array Bool := dB 12 13
abbrev d17x4 : Array Bool := dB 12 29
abbrev d17x5 : Array Bool := dB 12 31
abbrev d17x6 : Array Bool := dB 12 63
abbrev d17x7 : Array Bool := dB 12 127
abbrev d17x8 : Array Bool := dB 12 255
abbrev d17x9 : Array Bool := dB 12 511
abbrev d17x10 : Array Bool := dB 12 1023
abbrev d17x11 : Array Bool := dB 12 2047
abbrev d17x12 : Array Bool := dB 12 4095
set_option maxHeartbeats 8000000 in
set_option maxRecDepth 100000 in
theorem headgateref20_With.calls (k : Nat) (a0_0 : ByteArray) (a0_1 : ByteArray) (a1 : Int) (a2 : Int) (r1 : ByteArray) (r2 : ByteArray) (w : World) (h : headgateref20_With.f k a0_0 a0_1 a1 a2 = some (r1, r2)) :
  Calls Tryz.prog 17 #[.agg #[.string a0_0, .string a0_1], .int .i64 a1, .int .u32 a2] w fun e w' => e = .returned (.agg #[.string r1, .string r2]) ∧ Below w.heap.size w w' := by
 have hu35 := Tryz.underlying35
 have HB := Aside0.mk (Below.refl w.heap.size w)
 have H : ((headgateref01_PutBig.f k (IntKind.u64.wrap (a2)) 4).bind fun t181 => ((headgateref01_Set.f a0_0 a1 t181).bind fun bt182 => (if bt182.2 = true then (some (bt182.1, a0_1)) else (some (a0_0, a0_1))))) = some (r1, r2) := h
 clear h
 replace H := Option.bind_eq_some_iff.mp H
 obtain ⟨t181, A40, H⟩ := H
 try dsimp only at H
 have A4 := Aside0.mk A40
 clear A40
 replace H := Option.bind_eq_some_iff.mp H
 obtain ⟨⟨t182, t183⟩, A50, H⟩ := H
 try dsimp only at H
 have A5 := Aside0.mk A50
 clear A50
 by_cases c6 : t183 = true
 ·subst c6
  have H1 := H
  rw [if_pos rfl] at H1
  clear H
  have H := H1
  clear H1
  simp only [Option.some.injEq, Prod.mk.injEq] at H
  obtain ⟨rfl, rfl⟩ := H
  go_enter Tryz.func17, Tryz.ntmps17
  try go_wp2_with (first | ((with_reducible refine gate_dst (N := 3) rfl ?_); refine box_event ?hg (N := 3) ?hd (cs := #[.string a0_0, .string a0_1]) (t := 35) ?hr ?_; (case hd => rfl); (case hg => rfl); (case hr => first | (go_simp; done) | (go_simp; rfl)); intro gb179 hg w7 hbox hb; have n0_ := Aside0.mk (below_step (hb_ HB) hb); have n1_ := Aside0.mk (hbox); have n2_ := Aside0.mk ((by rw [hg]; exact (below_size (hb_ HB)) : w.heap.size ≤ gb179)); have n3_ := Aside0.mk ((by rw [hg]; exact (below_size (hb_ HB)) : w.heap.size ≤ gb179)); clear HB; have HB := n0_; have BK179 := n1_; have GW179 := n2_; have GE179 := n3_; clear n0_ n1_ n2_ n3_; clear hb hbox hg) | ((with_reducible refine gate_dst (N := 6) rfl ?_); refine box_event ?hg (N := 6) ?hd (cs := #[.string (⟨#[]⟩ : ByteArray), .string (⟨#[]⟩ : ByteArray)]) (t := 35) ?hr ?_; (case hd => rfl); (case hg => rfl); (case hr => first | (go_simp; done) | (go_simp; rfl)); intro gb180 hg w8 hbox hb; have n0_ := Aside0.mk (blk_below (bk_ BK179) hb); have n1_ := Aside0.mk (below_step (hb_ HB) hb); have n2_ := Aside0.mk (hbox); have n3_ := Aside0.mk ((by rw [hg]; exact (below_size (hb_ HB)) : w.heap.size ≤ gb180)); have n4_ := Aside0.mk ((by rw [hg]; exact (below_size (hb_ HB)) : w.heap.size ≤ gb180)); have n5_ := Aside0.mk ((by rw [hg]; exact Nat.ne_of_lt (blk_lt (g := gb179) (o := .cells #[.string a0_0, .string a0_1] 35 (0, 0)) (bk_ BK179)) : gb179 ≠ gb180)); have n6_ := Aside0.mk ((by rw [hg]; exact Nat.ne_of_gt (blk_lt (g := gb179) (o := .cells #[.string a0_0, .string a0_1] 35 (0, 0)) (bk_ BK179)) : gb180 ≠ gb179)); clear BK179; clear HB; have BK179 := n0_; have HB := n1_; have BK180 := n2_; have GW180 := n3_; have GE180 := n4_; have NB179_180 := n5_; have NB180_179 := n6_; clear n0_ n1_ n2_ n3_ n4_ n5_ n6_; clear hb hbox hg))
  have n0_ := Aside0.mk (blk_drew BK179.out)
  have n1_ := Aside0.mk (blk_drew BK180.out)
  have n2_ := Aside0.mk (below_drew1 HB.out)
  clear BK179
  clear BK180
  clear HB
  have BK179 := n0_
  have BK180 := n1_
  have HB := n2_
  clear n0_ n1_ n2_
  refine start_ (n := 12) (S := fun w' => w'.cell? ⟨gb179, 0, none⟩ = some (.string a0_0) ∧ w'.cell? ⟨gb179, 1, none⟩ = some (.string a0_1)) (ds := []) d17x0 (by kernel_rfl) rfl rfl ⟨(blk_cell BK179.out 0).trans rfl, (blk_cell BK179.out 1).trans rfl⟩ (fun hHeld => ?_); refine with_tabW headgateref20_With.tab1 headgateref20_With.bits1 (fun HT_ HW_ => ?_)
  generalize w8.drew = w9 at BK179 BK180 HB hHeld ⊢
  refine pon_ 0 (some 10) d17x1 HT_.out ?_
  refine pon_ 2 (some 12) d17x2 HT_.out ?_
  refine pon_ 3 (some 13) d17x3 HT_.out ?_
  refine pon_ 4 (some 14) d17x4 HT_.out ?_
  refine ptk_ 1 (some 11) d17x5 HT_.out HW_.out hHeld ?_
  refine one_ (i := 5) (N := some 15) d17x6 rfl rfl (one_of HT_.out (by kernel_rfl)) (by decide) (fun K hK => ?_)
  refine goes_ Tryz.func38 (by kernel_rfl) rfl #[.int .u64 (IntKind.u64.wrap (a2)), .int .i64 4] (by rfl) rfl rfl (by (try simp only [List.map_toArray, List.map_cons, List.map_nil]); first | done | rfl | (simp only [List.length_drop, List.length_take]; rfl)) ?_
  with_reducible refine (headgateref01_PutBig.calls k (IntKind.u64.wrap (a2)) 4 t181 _ A4.out).mono ?_
  rintro e w10 ⟨rfl, hb⟩
  refine ⟨_, rfl, ?_⟩
  have n0_ := Aside0.mk (blk_below (bk_ BK179) hb)
  have n1_ := Aside0.mk (blk_below (bk_ BK180) hb)
  have n2_ := Aside0.mk (below_step (hb_ HB) hb)
  clear BK179
  clear BK180
  clear HB
  have BK179 := n0_
  have BK180 := n1_
  have HB := n2_
  clear n0_ n1_ n2_
  (try clear hb)
  (try clear hb2)
  (try clear hk)
  (try clear hi)
  refine hK.out _ _ ⟨(blk_cell BK179.out 0).trans rfl, (blk_cell BK179.out 1).trans rfl⟩ (fun hHeld => ?_)
  clear hK K
  refine norm_ (a' := ?_) ?_ ?_
  rotate_left
  ·show Act.put _ (some 15) _ = _
   simp only [Act.put, la_, lb_, lc_, i64_w, i32_w]
   rfl
  refine one_ (i := 6) (N := some 16) d17x7 rfl rfl (one_of HT_.out (by kernel_rfl)) (by decide) (fun K hK => ?_)
  refine goes_ Tryz.func37 (by kernel_rfl) rfl #[.string a0_0, .int .i64 a1, .string t181] (by rfl) rfl rfl (by (try simp only [List.map_toArray, List.map_cons, List.map_nil]); first | done | rfl | (simp only [List.length_drop, List.length_take]; rfl)) ?_
  with_reducible refine (headgateref01_Set.calls a0_0 a1 t181 t182 true _ A5.out).mono ?_
  rintro e w' ⟨rfl, ⟨nd, rfl⟩⟩
  refine ⟨_, rfl, ?_⟩
  refine hK.out _ _ ⟨(blk_cell BK179.out 0).trans rfl, (blk_cell BK179.out 1).trans rfl⟩ (fun hHeld => ?_)
  clear hK K
  refine norm_ (a' := ?_) ?_ ?_
  rotate_left
  ·show Act.put _ (some 16) _ = _
   simp only [Act.put, la_, lb_, lc_, i64_w, i32_w]
   rfl
  refine pon_ 7 (some 9) d17x8 HT_.out ?_
  refine pon_ 8 (some 17) d17x9 HT_.out ?_
  refine pon_ 9 (some 18) d17x10 HT_.out ?_
  refine pon_ 10 (some 7) d17x11 HT_.out ?_
  refine pon_ 11 (some 8) d17x12 HT_.out ?_
  refine done_ (done_of HT_.out (by kernel_rfl)) ?_
  have hnb11 := NB179_180.out
  have hnc11 := NB180_179.out
  have hcz12_0 : w10.cell? ⟨gb179, 0, none⟩ = some (.string a0_0) := (blk_cell BK179.out 0).trans rfl
  have hcz12_1 : w10.cell? ⟨gb179, 1, none⟩ = some (.string a0_1) := (blk_cell BK179.out 1).trans rfl
  have hfz12_0 := blk_frozen BK179.out 0
  have hfz12_1 := blk_frozen BK179.out 1
  have hcz13_0 : w10.cell? ⟨gb180, 0, none⟩ = some (.string (⟨#[]⟩ : ByteArray)) := (blk_cell BK180.out 0).trans rfl
  have hcz13_1 : w10.cell? ⟨gb180, 1, none⟩ = some (.string (⟨#[]⟩ : ByteArray)) := (blk_cell BK180.out 1).trans rfl
  have hfz13_0 := blk_frozen BK180.out 0
  have hfz13_1 := blk_frozen BK180.out 1
  try go_wp2
  refine bodyPost_ret (results_cell_row rfl _ _ gb180 35 #[.string t182, .string a0_1] (0, 0) _ rfl (by (with_reducible repeat (first | refine blk_drewN ?_ _ | refine blk_drew ?_ | refine blk_alloc ?_ _)); refine blk_put (cs := #[.string t182, .string (⟨#[]⟩ : ByteArray)]) ?_ 1 _ rfl; (with_reducible repeat (first | refine blk_drewN ?_ _ | refine blk_drew ?_ | refine blk_alloc ?_ _)); refine blk_put (cs := #[.string (⟨#[]⟩ : ByteArray), .string (⟨#[]⟩ : ByteArray)]) ?_ 0 _ rfl; (with_reducible repeat (first | refine blk_drewN ?_ _ | refine blk_drew ?_ | refine blk_alloc ?_ _ | refine blk_far ?_ NB180_179.out _)); exact BK180.out) Tryz.underlying35 rfl (by kernel_rfl)) rfl ?_
  exact ⟨by first | rfl | (simp [errW_none, errW_some] <;> rfl) | (simp [*, errW_none, errW_some] <;> rfl) | (simp [bt, *]; done) | (unfold bt; simp [*]; done), by repeat (first | (with_reducible first | exact HB.out | apply below_alloc | apply pw_below_drewN | apply below_drew1 | refine below_set ?_ GE179.out | refine below_set ?_ GE180.out) | exact HB.out)⟩
 replace c6 := Bool.eq_false_iff.mpr c6
 subst c6
 have H1 := H
 rw [if_neg (show ¬ (false = true) by decide)] at H1
 clear H
 have H := H1
 clear H1
 simp only [Option.some.injEq, Prod.mk.injEq] at H
 obtain ⟨rfl, rfl⟩ := H
 go_enter Tryz.func17, Tryz.ntmps17
 try go_wp2_with (first | ((with_reducible refine gate_dst (N := 3) rfl ?_); refine box_event ?hg (N := 3) ?hd (cs := #[.string a0_0, .string a0_1]) (t := 35) ?hr ?_; (case hd => rfl); (case hg => rfl); (case hr => first | (go_simp; done) | (go_simp; rfl)); intro gb179 hg w14 hbox hb; have n0_ := Aside0.mk (below_step (hb_ HB) hb); have n1_ := Aside0.mk (hbox); have n2_ := Aside0.mk ((by rw [hg]; exact (below_size (hb_ HB)) : w.heap.size ≤ gb179)); have n3_ := Aside0.mk ((by rw [hg]; exact (below_size (hb_ HB)) : w.heap.size ≤ gb179)); clear HB; have HB := n0_; have BK179 := n1_; have GW179 := n2_; have GE179 := n3_; clear n0_ n1_ n2_ n3_; clear hb hbox hg) | ((with_reducible refine gate_dst (N := 6) rfl ?_); refine box_event ?hg (N := 6) ?hd (cs := #[.string (⟨#[]⟩ : ByteArray), .string (⟨#[]⟩ : ByteArray)]) (t := 35) ?hr ?_; (case hd => rfl); (case hg => rfl); (case hr => first | (go_simp; done) | (go_simp; rfl)); intro gb180 hg w15 hbox hb; have n0_ := Aside0.mk (blk_below (bk_ BK179) hb); have n1_ := Aside0.mk (below_step (hb_ HB) hb); have n2_ := Aside0.mk (hbox); have n3_ := Aside0.mk ((by rw [hg]; exact (below_size (hb_ HB)) : w.heap.size ≤ gb180)); have n4_ := Aside0.mk ((by rw [hg]; exact (below_size (hb_ HB)) : w.heap.size ≤ gb180)); have n5_ := Aside0.mk ((by rw [hg]; exact Nat.ne_of_lt (blk_lt (g := gb179) (o := .cells #[.string a0_0, .string a0_1] 35 (0, 0)) (bk_ BK179)) : gb179 ≠ gb180)); have n6_ := Aside0.mk ((by rw [hg]; exact Nat.ne_of_gt (blk_lt (g := gb179) (o := .cells #[.string a0_0, .string a0_1] 35 (0, 0)) (bk_ BK179)) : gb180 ≠ gb179)); clear BK179; clear HB; have BK179 := n0_; have HB := n1_; have BK180 := n2_; have GW180 := n3_; have GE180 := n4_; have NB179_180 := n5_; have NB180_179 := n6_; clear n0_ n1_ n2_ n3_ n4_ n5_ n6_; clear hb hbox hg))
 have n0_ := Aside0.mk (blk_drew BK179.out)
 have n1_ := Aside0.mk (blk_drew BK180.out)
 have n2_ := Aside0.mk (below_drew1 HB.out)
 clear BK179
 clear BK180
 clear HB
 have BK179 := n0_
 have BK180 := n1_
 have HB := n2_
 clear n0_ n1_ n2_
 refine start_ (n := 12) (S := fun w' => w'.cell? ⟨gb179, 0, none⟩ = some (.string a0_0) ∧ w'.cell? ⟨gb179, 1, none⟩ = some (.string a0_1)) (ds := []) d17x0 (by kernel_rfl) rfl rfl ⟨(blk_cell BK179.out 0).trans rfl, (blk_cell BK179.out 1).trans rfl⟩ (fun hHeld => ?_); refine with_tabW headgateref20_With.tab1 headgateref20_With.bits1 (fun HT_ HW_ => ?_)
 generalize w15.drew = w16 at BK179 BK180 HB hHeld ⊢
 refine pon_ 0 (some 10) d17x1 HT_.out ?_
 refine pon_ 2 (some 12) d17x2 HT_.out ?_
 refine pon_ 3 (some 13) d17x3 HT_.out ?_
 refine pon_ 4 (some 14) d17x4 HT_.out ?_
 refine ptk_ 1 (some 11) d17x5 HT_.out HW_.out hHeld ?_
 refine one_ (i := 5) (N := some 15) d17x6 rfl rfl (one_of HT_.out (by kernel_rfl)) (by decide) (fun K hK => ?_)
 refine goes_ Tryz.func38 (by kernel_rfl) rfl #[.int .u64 (IntKind.u64.wrap (a2)), .int .i64 4] (by rfl) rfl rfl (by (try simp only [List.map_toArray, List.map_cons, List.map_nil]); first | done | rfl | (simp only [List.length_drop, List.length_take]; rfl)) ?_
 with_reducible refine (headgateref01_PutBig.calls k (IntKind.u64.wrap (a2)) 4 t181 _ A4.out).mono ?_
 rintro e w17 ⟨rfl, hb⟩
 refine ⟨_, rfl, ?_⟩
 have n0_ := Aside0.mk (blk_below (bk_ BK179) hb)
 have n1_ := Aside0.mk (blk_below (bk_ BK180) hb)
 have n2_ := Aside0.mk (below_step (hb_ HB) hb)
 clear BK179
 clear BK180
 clear HB
 have BK179 := n0_
 have BK180 := n1_
 have HB := n2_
 clear n0_ n1_ n2_
 (try clear hb)
 (try clear hb2)
 (try clear hk)
 (try clear hi)
 refine hK.out _ _ ⟨(blk_cell BK179.out 0).trans rfl, (blk_cell BK179.out 1).trans rfl⟩ (fun hHeld => ?_)
 clear hK K
 refine norm_ (a' := ?_) ?_ ?_
 rotate_left
 ·show Act.put _ (some 15) _ = _
  simp only [Act.put, la_, lb_, lc_, i64_w, i32_w]
  rfl
 refine one_ (i := 6) (N := some 16) d17x7 rfl rfl (one_of HT_.out (by kernel_rfl)) (by decide) (fun K hK => ?_)
 refine goes_ Tryz.func37 (by kernel_rfl) rfl #[.string a0_0, .int .i64 a1, .string t181] (by rfl) rfl rfl (by (try simp only [List.map_toArray, List.map_cons, List.map_nil]); first | done | rfl | (simp only [List.length_drop, List.length_take]; rfl)) ?_
 with_reducible refine (headgateref01_Set.calls a0_0 a1 t181 t182 false _ A5.out).mono ?_
 rintro e w' ⟨rfl, ⟨nd, rfl⟩⟩
 refine ⟨_, rfl, ?_⟩
 refine hK.out _ _ ⟨(blk_cell BK179.out 0).trans rfl, (blk_cell BK179.out 1).trans rfl⟩ (fun hHeld => ?_)
 clear hK K
 refine norm_ (a' := ?_) ?_ ?_
 rotate_left
 ·show Act.put _ (some 16) _ = _
  simp only [Act.put, la_, lb_, lc_, i64_w, i32_w]
  rfl
 refine pon_ 7 (some 9) d17x8 HT_.out ?_
 refine pon_ 8 (some 17) d17x9 HT_.out ?_
 refine pon_ 9 (some 18) d17x10 HT_.out ?_
 refine pon_ 10 (some 7) d17x11 HT_.out ?_
 refine pon_ 11 (some 8) d17x12 HT_.out ?_
 refine done_ (done_of HT_.out (by kernel_rfl)) ?_
 have hnb18 := NB179_180.out
 have hnc18 := NB180_179.out
 have hcz19_0 : w17.cell? ⟨gb179, 0, none⟩ = some (.string a0_0) := (blk_cell BK179.out 0).trans rfl
 have hcz19_1 : w17.cell? ⟨gb179, 1, none⟩ = some (.string a0_1) := (blk_cell BK179.out 1).trans rfl
 have hfz19_0 := blk_frozen BK179.out 0
 have hfz19_1 := blk_frozen BK179.out 1
 have hcz20_0 : w17.cell? ⟨gb180, 0, none⟩ = some (.string (⟨#[]⟩ : ByteArray)) := (blk_cell BK180.out 0).trans rfl
 have hcz20_1 : w17.cell? ⟨gb180, 1, none⟩ = some (.string (⟨#[]⟩ : ByteArray)) := (blk_cell BK180.out 1).trans rfl
 have hfz20_0 := blk_frozen BK180.out 0
 have hfz20_1 := blk_frozen BK180.out 1
 try go_wp2
 refine bodyPost_ret (results_cell_row rfl _ _ gb180 35 #[.string a0_0, .string a0_1] (0, 0) _ rfl (by (with_reducible repeat (first | refine blk_drewN ?_ _ | refine blk_drew ?_ | refine blk_alloc ?_ _)); refine blk_put (cs := #[.string a0_0, .string (⟨#[]⟩ : ByteArray)]) ?_ 1 _ rfl; (with_reducible repeat (first | refine blk_drewN ?_ _ | refine blk_drew ?_ | refine blk_alloc ?_ _)); refine blk_put (cs := #[.string (⟨#[]⟩ : ByteArray), .string (⟨#[]⟩ : ByteArray)]) ?_ 0 _ rfl; (with_reducible repeat (first | refine blk_drewN ?_ _ | refine blk_drew ?_ | refine blk_alloc ?_ _)); exact BK180.out) Tryz.underlying35 rfl (by kernel_rfl)) rfl ?_
 exact ⟨by first | rfl | (simp [errW_none, errW_some] <;> rfl) | (simp [*, errW_none, errW_some] <;> rfl) | (simp [bt, *]; done) | (unfold bt; simp [*]; done), by repeat (first | (with_reducible first | exact HB.out | apply below_alloc | apply pw_below_drewN | apply below_drew1 | refine below_set ?_ GE179.out | refine below_set ?_ GE180.out) | exact HB.out)⟩
def headgateref01_Put.f (a0 : ByteArray) (a1 : Int) (a2 : ByteArray) : Option (ByteArray) := (headgateref01_Set.f a0 a1 a2).bind fun bt184 => (some bt184.1)
set_option maxHeartbeats 8000000 in
set_option maxRecDepth 100000 in
theorem headgateref01_Put.calls (a0 : ByteArray) (a1 : Int) (a2 : ByteArray) (r : ByteArray) (w : World) (h : headgateref01_Put.f a0 a1 a2 = some r) :
    Calls Tryz.prog 32 #[.string a0, .int .i64 a1, .string a2] w fun e w' => e = .returned (.string r) ∧ Drawn0 w w' := by
  have H : ((headgateref01_Set.f a0 a1 a2).bind fun bt184 => (some bt184.1)) = some r := h
  clear h
  replace H := Option.bind_eq_some_iff.mp H
  obtain ⟨⟨t184, t185⟩, A40, H⟩ := H
  replace H : (some t184) = some r := H
  have A4 := Aside0.mk A40
  clear A40
  obtain rfl := Option.some.inj H
  go_enter Tryz.func32, Tryz.ntmps32
  go_wp2_with (first | ((with_reducible refine gate_callee (f := 37) rfl ?_); refine goesL_ (some 13) rfl rfl Tryz.func37 (by kernel_rfl) rfl #[.string a0, .int .i64 a1, .string a2] rfl (by (try simp only [List.map_toArray, List.map_cons, List.map_nil]); first | done | rfl | (simp only [List.length_drop, List.length_take]; rfl)) ?_; (with_reducible refine (headgateref01_Set.calls a0 a1 a2 t184 t185 _ A4.out).mono ?_); rintro e w' ⟨rfl, ⟨nd, rfl⟩⟩; refine ⟨_, rfl, ?_⟩))
  go_ret
  exact ⟨by first | rfl | (simp; done) | (simp [*]; done), by repeat (first | exact Drawn0.refl _ | apply Drawn0.step)⟩
end Go.Proofs.YthglbmihbmneaaaGreatDoor.P
namespace Go.Proofs.YthglbmihbmneaaaGreatDoor.P
open Go.RowKit Go.Proofs.YthglbmihbmneaaaGreatDoorW.PrintWords Go.Proofs.YthglbmihbmneaaaGreatDoorW.PrintLast Go.Proofs.YthglbmihbmneaaaGreatDoorW.PrintMore
attribute [local go_sem] max2_int min2_int max_two min_two max_three min_three max_four min_four   -- for this text's walks alone
set_option linter.unusedVariables false
set_option linter.unusedSimpArgs false
set_option linter.unnecessarySimpa false
def headgateref20_Head.f (k : Nat) (a0 : Int) (a1 : Bool) (a2 : Int) (a3 : Int) : Option (ByteArray) := if a1 = true then ((some (([(((Int.tmod (wrap64 ((Int.tmod a0 64) + 64)) 64) % 256) + 64) % 256, (Int.tmod (wrap64 ((Int.tmod a2 256) + 256)) 256) % 256] : List Int) : List Int)).bind fun y186 => (if 46 ≤ 281474976710656 then ((some (List.replicate 46 0 : List Int)).bind fun y189 => (if (strOfNums y186).size + (strOfNums y189).size ≤ 9223372036854775807 then ((headgateref01_PutBig.f k (IntKind.u64.wrap (a3)) 4).bind fun t192 => ((headgateref01_Put.f ((strOfNums y186) ++ (strOfNums y189)) 16 t192).bind fun t193 => (some t193))) else (none))) else (none))) else ((some (([(Int.tmod (wrap64 ((Int.tmod a0 64) + 64)) 64) % 256, (Int.tmod (wrap64 ((Int.tmod a2 256) + 256)) 256) % 256] : List Int) : List Int)).bind fun y194 => (if 46 ≤ 281474976710656 then ((some (List.replicate 46 0 : List Int)).bind fun y197 => (if (strOfNums y194).size + (strOfNums y197).size ≤ 9223372036854775807 then ((headgateref01_PutBig.f k (IntKind.u64.wrap (a3)) 4).bind fun t200 => ((headgateref01_Put.f ((strOfNums y194) ++ (strOfNums y197)) 16 t200).bind fun t201 => (some t201))) else (none))) else (none)))
theorem headgateref20_Head.mono : ∀ a0 a1 a2 a3 k, LeO (headgateref20_Head.f k a0 a1 a2 a3) (headgateref20_Head.f (k + 1) a0 a1 a2 a3) := by
 intro a0 a1 a2 a3 k
 unfold headgateref20_Head.f
 repeat' first
   | (with_reducible exact headgateref01_PutBig.mono _ _ _)
   | (with_reducible exact LeO.refl _)
   | (with_reducible exact LeO.none _)
   | (with_reducible refine LeO.ite ?_ ?_)
   | (with_reducible refine LeO.bind ?_ (fun _ => ?_))
   | exact headgateref01_PutBig.mono _ _ _
   | exact LeO.none _
   | refine LeO.ite ?_ ?_
   | refine LeO.bind ?_ (fun _ => ?_)
def headgateref20_Head.T4 : Bool × List (List Nat × List Nat) := (true, [([], []), ([], []), ([1], [1]), ([2], [2]), ([3], [3]), ([4], [4]), ([0, 5], [0, 5]), ([6], [6]), ([], []), ([8], [8]), ([7, 9], [7, 9]), ([10, 0, 1, 2, 3, 4, 5, 6, 7, 8, 9, 10], [10])])
def headgateref20_Head.B4 : List Nat := [0, 0, 2, 6, 14, 30, 63, 127, 0, 256, 1023, 2047]
theorem headgateref20_Head.tab4 : rtab .any (opsOf Tryz.f18 4) = headgateref20_Head.T4 := by kernel_rfl
theorem headgateref20_Head.bits4 : waitsOk headgateref20_Head.T4.2 headgateref20_Head.B4 = true := by kernel_rfl
abbrev d18x0 : Array Bool := #[false, false, false, false, false, false, false, false, false, false, false, false]
abbrev d18x1 : Array Bool := dB 12 1
abbrev d18x2 : Array Bool := dB 12 3
abbrev d18x3 : Array Bool := dB 12 7
abbrev d18x4 : Array Bool := dB 12 15
abbrev d18x5 : Array Bool := dB 12 31
abbrev d18x6 : Array Bool := dB 12 63
abbrev d18x7 : Array Bool := dB 12 319
abbrev d18x8 : Array Bool := dB 12 831
abbrev d18x9 : Array Bool := dB 12 127
abbrev d18x10 : Array Bool := dB 12 383
abbrev d18x11 : Array Bool := dB 12 895
abbrev d18x12 : Array Bool := dB 12 255
abbrev d18x13 : Array Bool := dB 12 511
abbrev d18x14 : Array Bool := dB 12 1023
abbrev d18x15 : Array Bool := dB 12 2047
abbrev d18x16 : Array Bool := dB 12 4095
set_option maxHeartbeats 8000000 in
set_option maxRecDepth 100000 in
theorem headgateref20_Head.calls (k : Nat) (a0 : Int) (a1 : Bool) (a2 : Int) (a3 : Int) (r : ByteArray) (w : World) (h : headgateref20_Head.f k a0 a1 a2 a3 = some r) :
  Calls Tryz.prog 18 #[.int .i64 a0, .bool a1, .int .i64 a2, .int .u32 a3] w fun e w' => e = .returned (.string r) ∧ Below w.heap.size w w' := by
 have HB := Aside0.mk (Below.refl w.heap.size w)
 have H : (if a1 = true then ((some (([(((Int.tmod (wrap64 ((Int.tmod a0 64) + 64)) 64) % 256) + 64) % 256, (Int.tmod (wrap64 ((Int.tmod a2 256) + 256)) 256) % 256] : List Int) : List Int)).bind fun y186 => (if 46 ≤ 281474976710656 then ((some (List.replicate 46 0 : List Int)).bind fun y189 => (if (strOfNums y186).size + (strOfNums y189).size ≤ 9223372036854775807 then ((headgateref01_PutBig.f k (IntKind.u64.wrap (a3)) 4).bind fun t192 => ((headgateref01_Put.f ((strOfNums y186) ++ (strOfNums y189)) 16 t192).bind fun t193 => (some t193))) else (none))) else (none))) else ((some (([(Int.tmod (wrap64 ((Int.tmod a0 64) + 64)) 64) % 256, (Int.tmod (wrap64 ((Int.tmod a2 256) + 256)) 256) % 256] : List Int) : List Int)).bind fun y194 => (if 46 ≤ 281474976710656 then ((some (List.replicate 46 0 : List Int)).bind fun y197 => (if (strOfNums y194).size + (strOfNums y197).size ≤ 9223372036854775807 then ((headgateref01_PutBig.f k (IntKind.u64.wrap (a3)) 4).bind fun t200 => ((headgateref01_Put.f ((strOfNums y194) ++ (strOfNums y197)) 16 t200).bind fun t201 => (some t201))) else (none))) else (none)))) = some r := h
 clear h
 refine neg_first (p := (a1 = true)) (fun c5 => ?_) (fun c5 => ?_)
 ·replace c5 := Bool.eq_false_iff.mpr c5
  subst c5
  have H1 := H
  rw [if_neg (show ¬ (false = true) by decide)] at H1
  clear H
  have H := H1
  clear H1
  obtain ⟨y194, hy194⟩ : ∃ y_ : List Int, y_ = (([(Int.tmod (wrap64 ((Int.tmod a0 64) + 64)) 64) % 256, (Int.tmod (wrap64 ((Int.tmod a2 256) + 256)) 256) % 256] : List Int)) := ⟨_, rfl⟩
  replace H : (if 46 ≤ 281474976710656 then ((some (List.replicate 46 0 : List Int)).bind fun y197 => (if (strOfNums y194).size + (strOfNums y197).size ≤ 9223372036854775807 then ((headgateref01_PutBig.f k (IntKind.u64.wrap (a3)) 4).bind fun t200 => ((headgateref01_Put.f ((strOfNums y194) ++ (strOfNums y197)) 16 t200).bind fun t201 => (some t201))) else (none))) else (none)) = some r := by first | (rw [hy194]; with_reducible exact H) | (have H2_ := (Option.bind_some _ _).symm.trans H; rw [hy194]; with_reducible exact H2_) | (have H2_ := (Option.bind_some _ _).symm.trans H; with_reducible exact H2_) | with_reducible exact H | (rw [hy194]; exact H) | exact H
  have Ny194 := Aside0.mk hy194
  clear hy194
  refine neg_first (p := (46 ≤ 281474976710656)) (fun c19 => ?_) (fun c19 => ?_)
  ·rw [if_neg c19] at H
   exact absurd H (by simp)
  rw [if_pos c19] at H
  have c19b0 := eq_true c19
  have c19b1 : decide (46 ≤ 281474976710656) = true := decide_eq_true c19
  clear c19
  obtain ⟨y197, hy197⟩ : ∃ y_ : List Int, y_ = (List.replicate 46 0) := ⟨_, rfl⟩
  replace H : (if (strOfNums y194).size + (strOfNums y197).size ≤ 9223372036854775807 then ((headgateref01_PutBig.f k (IntKind.u64.wrap (a3)) 4).bind fun t200 => ((headgateref01_Put.f ((strOfNums y194) ++ (strOfNums y197)) 16 t200).bind fun t201 => (some t201))) else (none)) = some r := by first | (rw [hy197]; with_reducible exact H) | (have H2_ := (Option.bind_some _ _).symm.trans H; rw [hy197]; with_reducible exact H2_) | (have H2_ := (Option.bind_some _ _).symm.trans H; with_reducible exact H2_) | with_reducible exact H | (rw [hy197]; exact H) | exact H
  have Ny197 := Aside0.mk hy197
  clear hy197
  refine neg_first (p := ((strOfNums y194).size + (strOfNums y197).size ≤ 9223372036854775807)) (fun c20 => ?_) (fun c20 => ?_)
  ·rw [if_neg c20] at H
   exact absurd H (by simp)
  rw [if_pos c20] at H
  have c20b0 := eq_true c20
  have c20b1 : decide ((strOfNums y194).size + (strOfNums y197).size ≤ 9223372036854775807) = true := decide_eq_true c20
  try have c20b2 : (9223372036854775807 < (strOfNums y194).size + (strOfNums y197).size) = False := eq_false (Nat.not_lt.2 c20)
  replace H := Option.bind_eq_some_iff.mp H
  obtain ⟨t200, A210, H⟩ := H
  try dsimp only at H
  have A21 := Aside0.mk A210
  clear A210
  replace H := Option.bind_eq_some_iff.mp H
  obtain ⟨t201, A220, H⟩ := H
  try dsimp only at H
  have A22 := Aside0.mk A220
  clear A220
  obtain rfl := Option.some.inj H
  go_enter Tryz.func18, Tryz.ntmps18
  try go_wp2
  have n0_ := Aside0.mk (below_drew1 HB.out)
  clear HB
  have HB := n0_
  clear n0_
  refine start_ (n := 12) (S := fun w' => True) (ds := []) d18x0 (by kernel_rfl) rfl rfl trivial (fun hHeld => ?_); refine with_tabW headgateref20_Head.tab4 headgateref20_Head.bits4 (fun HT_ HW_ => ?_)
  generalize w.drew = w23 at HB hHeld ⊢
  refine pon_ 0 (some 19) d18x1 HT_.out ?_
  refine pon_ 1 (some 20) d18x2 HT_.out ?_
  refine pon_ 2 (some 21) d18x3 HT_.out ?_
  refine pon_ 3 (some 22) d18x4 HT_.out ?_
  refine pon_ 4 (some 23) d18x5 HT_.out ?_
  refine pon_ 5 (some 24) d18x6 HT_.out ?_
  refine join_ (σ := Value × Value) 2 d18x14 (fun s_ => [(25, s_.1), (26, .string (strOfNums y194)), (27, s_.2), (28, .string (strOfNums y197))]) (fun s_ w' => (Kd.R (Kd.int .u8) 5 w' w.heap.size (fun k_ => some k_ ≠ (s_.2 : Value).ownBlock) s_.1 y194) ∧ (Kd.R (Kd.int .u8) 5 w' w.heap.size (fun k_ => some k_ ≠ (s_.1 : Value).ownBlock) s_.2 y197) ∧ (Below w.heap.size w w')) ?_ ?_
  rotate_left
  ·intro hJ6_7_8_9
   refine join_ (σ := Value × Value) 3 d18x13 (fun s_ => [(25, s_.1), (26, .string (strOfNums y194)), (27, s_.2)]) (fun s_ w' => (Kd.R (Kd.int .u8) 5 w' w.heap.size (fun k_ => some k_ ≠ (s_.2 : Value).ownBlock) s_.1 y194) ∧ (Kd.R (Kd.int .u8) 5 w' w.heap.size (fun k_ => some k_ ≠ (s_.1 : Value).ownBlock) s_.2 y197) ∧ (Below w.heap.size w w')) ?_ ?_
   rotate_left
   ·intro hJ6_7_8
    refine join_ (σ := Value × Value) 3 d18x11 (fun s_ => [(25, s_.1), (27, s_.2), (28, .string (strOfNums y197))]) (fun s_ w' => (Kd.R (Kd.int .u8) 5 w' w.heap.size (fun k_ => some k_ ≠ (s_.2 : Value).ownBlock) s_.1 y194) ∧ (Kd.R (Kd.int .u8) 5 w' w.heap.size (fun k_ => some k_ ≠ (s_.1 : Value).ownBlock) s_.2 y197) ∧ (Below w.heap.size w w')) ?_ ?_
    rotate_left
    ·intro hJ6_8_9
     refine join_ (σ := Value) 4 d18x12 (fun s_ => [(25, s_), (26, .string (strOfNums y194))]) (fun s_ w' => (Kd.R (Kd.int .u8) 5 w' w.heap.size (fun _ => True) s_ y194) ∧ (Below w.heap.size w w')) ?_ ?_
     rotate_left
     ·intro hJ6_7
      refine join_ (σ := Value × Value) 4 d18x10 (fun s_ => [(25, s_.1), (27, s_.2)]) (fun s_ w' => (Kd.R (Kd.int .u8) 5 w' w.heap.size (fun k_ => some k_ ≠ (s_.2 : Value).ownBlock) s_.1 y194) ∧ (Kd.R (Kd.int .u8) 5 w' w.heap.size (fun k_ => some k_ ≠ (s_.1 : Value).ownBlock) s_.2 y197) ∧ (Below w.heap.size w w')) ?_ ?_
      rotate_left
      ·intro hJ6_8
       refine join_ (σ := Value) 4 d18x8 (fun s_ => [(27, s_), (28, .string (strOfNums y197))]) (fun s_ w' => (Kd.R (Kd.int .u8) 5 w' w.heap.size (fun _ => True) s_ y197) ∧ (Below w.heap.size w w')) ?_ ?_
       rotate_left
       ·intro hJ8_9
        refine join_ (σ := Value) 5 d18x9 (fun s_ => [(25, s_)]) (fun s_ w' => (Kd.R (Kd.int .u8) 5 w' w.heap.size (fun _ => True) s_ y194) ∧ (Below w.heap.size w w')) ?_ ?_
        rotate_left
        ·intro hJ6
         refine join_ (σ := Value) 5 d18x7 (fun s_ => [(27, s_)]) (fun s_ w' => (Kd.R (Kd.int .u8) 5 w' w.heap.size (fun _ => True) s_ y197) ∧ (Below w.heap.size w w')) ?_ ?_
         rotate_left
         ·intro hJ8
          refine two_ (i := 6) (j := 8) (Ni := some 25) (Nj := some 27) d18x9 d18x7 rfl rfl rfl rfl (two_of HT_.out (by kernel_rfl)) (by decide) (by decide) (fun K hK => ?_) (fun K hK => ?_)
          ·skip
           refine Kd.R_lit_step (Kd.int .u8) _ 5 ?hg (N := 25) ?hd (xs := ([(Int.tmod (wrap64 ((Int.tmod a0 64) + 64)) 64) % 256, (Int.tmod (wrap64 ((Int.tmod a2 256) + 256)) 256) % 256] : List Int)) (inner := [.int .u8 ((Int.tmod (wrap64 ((Int.tmod a0 64) + 64)) 64) % 256), .int .u8 ((Int.tmod (wrap64 ((Int.tmod a2 256) + 256)) 256) % 256)]) (ok := fun _ => True) (okp := fun _ => True) ?hr ?hp (fun _ hk => hk) trivial (Below.refl _ _) (Nat.le_refl _) (by simp) ?_; (case hd => rfl); (case hg => rfl); (case hr => first | (go_simp; done) | (go_simp; rfl)); (case hp => exact (Reps.one (show Kd.M (Kd.int .u8) _ _ _ ((Int.tmod (wrap64 ((Int.tmod a0 64) + 64)) 64) % 256) [.int .u8 ((Int.tmod (wrap64 ((Int.tmod a0 64) + 64)) 64) % 256)] from rfl) (Reps.one (show Kd.M (Kd.int .u8) _ _ _ ((Int.tmod (wrap64 ((Int.tmod a2 256) + 256)) 256) % 256) [.int .u8 ((Int.tmod (wrap64 ((Int.tmod a2 256) + 256)) 256) % 256)] from rfl) (Reps.none _ _))))
           intro v195 w24 ho25 hb hg_ hnew_
           clear hg_ hnew_
           (first | rw [← Ny194.out] at ho25 | (simp only [Int.reduceToNat] at ho25; rw [← Ny194.out] at ho25))
           have n0_ := Aside0.mk (Kd.R_lower ho25 (below_size (hb_ HB)))
           have n1_ := Aside0.mk (below_step (hb_ HB) hb)
           clear HB
           have HO196 := n0_
           have HB := n1_
           clear n0_ n1_
           clear hb ho25
           refine hK.out _ _ trivial (fun hHeld => ?_)
           clear hK K
           refine norm_ (a' := ?_) ?_ ?_
           rotate_left
           ·show Act.put _ (some 25) _ = _
            simp only [Act.put, la_, lb_, lc_, i64_w, i32_w]
            rfl
           exact norm_ (by first | (simp only [putAll, Act.put, la_, lb_, lc_]; done) | (simp only [putAll, Act.put, la_, lb_, lc_]; rfl)) (hJ6 (v195) _ ⟨(by (with_reducible repeat (first | apply Kd.R_alloc | apply Kd.R_drewN | apply Kd.R_drew)); exact HO196.out), (hb_ HB)⟩)
          ·skip
           refine Kd.R_make_step (Kd.int .u8) _ 5 (by rfl) (N := 27) rfl 78 _ _ rfl 46 rfl rfl Tryz.underlying78 (.int .u8 0) 1 info5 rfl (by decide) (by omega) 0 (ok := fun _ => True) (okp := fun _ => True) rfl (fun _ hk => hk) trivial (by omega) (by omega) (Below.refl _ _) (Nat.le_refl _) ?_
           intro v198 w24 ho25 hb hg_ hnew_
           clear hg_ hnew_
           (first | rw [← Ny197.out] at ho25 | (simp only [Int.reduceToNat] at ho25; rw [← Ny197.out] at ho25))
           have n0_ := Aside0.mk (Kd.R_lower ho25 (below_size (hb_ HB)))
           have n1_ := Aside0.mk (below_step (hb_ HB) hb)
           clear HB
           have HO199 := n0_
           have HB := n1_
           clear n0_ n1_
           clear hb ho25
           refine hK.out _ _ trivial (fun hHeld => ?_)
           clear hK K
           refine norm_ (a' := ?_) ?_ ?_
           rotate_left
           ·show Act.put _ (some 27) _ = _
            simp only [Act.put, la_, lb_, lc_, i64_w, i32_w]
            rfl
           exact norm_ (by first | (simp only [putAll, Act.put, la_, lb_, lc_]; done) | (simp only [putAll, Act.put, la_, lb_, lc_]; rfl)) (hJ8 (v198) _ ⟨(by (with_reducible repeat (first | apply Kd.R_alloc | apply Kd.R_drewN | apply Kd.R_drew)); exact HO199.out), (hb_ HB)⟩)
         ·skip
          rintro v198 w26 ⟨h0_, h1_⟩
          have n0_ : Aside0 (Kd.R (Kd.int .u8) 5 w26 w.heap.size (fun _ => True) v198 y197) := ⟨h0_⟩
          have n1_ : Aside0 (Below w.heap.size w w26) := ⟨h1_⟩
          clear HB
          clear h0_ h1_
          have HO199 := n0_
          have HB := n1_
          clear n0_ n1_
          have hHeld := trivial
          refine norm_ (a' := ?_) ?_ ?_
          rotate_left
          ·simp only [putAll, Act.put, la_, lb_, lc_]
           rfl
          refine two_ (i := 6) (j := 9) (Ni := some 25) (Nj := some 28) d18x10 d18x8 rfl rfl rfl rfl (two_of HT_.out (by kernel_rfl)) (by decide) (by decide) (fun K hK => ?_) (fun K hK => ?_)
          ·skip
           refine Kd.R_lit_step (Kd.int .u8) _ 5 ?hg (N := 25) ?hd (xs := ([(Int.tmod (wrap64 ((Int.tmod a0 64) + 64)) 64) % 256, (Int.tmod (wrap64 ((Int.tmod a2 256) + 256)) 256) % 256] : List Int)) (inner := [.int .u8 ((Int.tmod (wrap64 ((Int.tmod a0 64) + 64)) 64) % 256), .int .u8 ((Int.tmod (wrap64 ((Int.tmod a2 256) + 256)) 256) % 256)]) (ok := fun _ => True) (okp := fun _ => True) ?hr ?hp (fun _ hk => hk) trivial (Below.refl _ _) (Nat.le_refl _) (by simp) ?_; (case hd => rfl); (case hg => rfl); (case hr => first | (go_simp; done) | (go_simp; rfl)); (case hp => exact (Reps.one (show Kd.M (Kd.int .u8) _ _ _ ((Int.tmod (wrap64 ((Int.tmod a0 64) + 64)) 64) % 256) [.int .u8 ((Int.tmod (wrap64 ((Int.tmod a0 64) + 64)) 64) % 256)] from rfl) (Reps.one (show Kd.M (Kd.int .u8) _ _ _ ((Int.tmod (wrap64 ((Int.tmod a2 256) + 256)) 256) % 256) [.int .u8 ((Int.tmod (wrap64 ((Int.tmod a2 256) + 256)) 256) % 256)] from rfl) (Reps.none _ _))))
           intro v195 w27 ho28 hb hg_ hnew_
           clear hg_ hnew_
           (first | rw [← Ny194.out] at ho28 | (simp only [Int.reduceToNat] at ho28; rw [← Ny194.out] at ho28))
           have n0_ := Aside0.mk (Kd.R_elder' (by (with_reducible repeat (first | apply Kd.R_alloc | apply Kd.R_drewN | apply Kd.R_drew)); exact HO199.out) (Kd.R_base ho28) hb)
           have n1_ := Aside0.mk (Kd.R_lower (Kd.R_new' ho28 (Kd.R_lt (by (with_reducible repeat (first | apply Kd.R_alloc | apply Kd.R_drewN | apply Kd.R_drew)); exact HO199.out))) (below_size (hb_ HB)))
           have n2_ := Aside0.mk (below_step (hb_ HB) hb)
           clear HO199
           clear HB
           have HO199 := n0_
           have HO196 := n1_
           have HB := n2_
           clear n0_ n1_ n2_
           clear hb ho28
           refine hK.out _ _ trivial (fun hHeld => ?_)
           clear hK K
           refine norm_ (a' := ?_) ?_ ?_
           rotate_left
           ·show Act.put _ (some 25) _ = _
            simp only [Act.put, la_, lb_, lc_, i64_w, i32_w]
            rfl
           exact norm_ (by first | (simp only [putAll, Act.put, la_, lb_, lc_]; done) | (simp only [putAll, Act.put, la_, lb_, lc_]; rfl)) (hJ6_8 (v195, v198) _ ⟨(by (with_reducible repeat (first | apply Kd.R_alloc | apply Kd.R_drewN | apply Kd.R_drew)); exact Kd.R_mono HO196.out (fun _ hk => hk.2)), (by (with_reducible repeat (first | apply Kd.R_alloc | apply Kd.R_drewN | apply Kd.R_drew)); exact Kd.R_mono HO199.out (fun _ hk => hk.2)), (hb_ HB)⟩)
          ·skip
           have hcv27 := own_string (P := Tryz.prog) Tryz.underlying78 Tryz.underlying5 Tryz.underlying9 (Kd.own_of_R HO199.out)
           refine value_ (w1 := ?_) (v := ?_) (by rfl) rfl ?_ ?_
           rotate_left 2
           ·go_simp
            constructor
            ·rfl
            ·rfl
           clear hcv27
           refine hK.out _ _ trivial (fun hHeld => ?_)
           clear hK K
           refine norm_ (a' := ?_) ?_ ?_
           rotate_left
           ·show Act.put _ (some 28) _ = _
            simp only [Act.put, la_, lb_, lc_, i64_w, i32_w]
            rfl
           exact norm_ (by first | (simp only [putAll, Act.put, la_, lb_, lc_]; done) | (simp only [putAll, Act.put, la_, lb_, lc_]; rfl)) (hJ8_9 (v198) _ ⟨(by (with_reducible repeat (first | apply Kd.R_alloc | apply Kd.R_drewN | apply Kd.R_drew)); exact HO199.out), (hb_ HB)⟩)
        ·skip
         rintro v195 w26 ⟨h0_, h1_⟩
         have n0_ : Aside0 (Kd.R (Kd.int .u8) 5 w26 w.heap.size (fun _ => True) v195 y194) := ⟨h0_⟩
         have n1_ : Aside0 (Below w.heap.size w w26) := ⟨h1_⟩
         clear HB
         clear h0_ h1_
         have HO196 := n0_
         have HB := n1_
         clear n0_ n1_
         have hHeld := trivial
         refine norm_ (a' := ?_) ?_ ?_
         rotate_left
         ·simp only [putAll, Act.put, la_, lb_, lc_]
          rfl
         refine two_ (i := 7) (j := 8) (Ni := some 26) (Nj := some 27) d18x12 d18x10 rfl rfl rfl rfl (two_of HT_.out (by kernel_rfl)) (by decide) (by decide) (fun K hK => ?_) (fun K hK => ?_)
         ·skip
          have hcv27 := own_string (P := Tryz.prog) Tryz.underlying78 Tryz.underlying5 Tryz.underlying9 (Kd.own_of_R HO196.out)
          refine value_ (w1 := ?_) (v := ?_) (by rfl) rfl ?_ ?_
          rotate_left 2
          ·go_simp
           constructor
           ·rfl
           ·rfl
          clear hcv27
          refine hK.out _ _ trivial (fun hHeld => ?_)
          clear hK K
          refine norm_ (a' := ?_) ?_ ?_
          rotate_left
          ·show Act.put _ (some 26) _ = _
           simp only [Act.put, la_, lb_, lc_, i64_w, i32_w]
           rfl
          exact norm_ (by first | (simp only [putAll, Act.put, la_, lb_, lc_]; done) | (simp only [putAll, Act.put, la_, lb_, lc_]; rfl)) (hJ6_7 (v195) _ ⟨(by (with_reducible repeat (first | apply Kd.R_alloc | apply Kd.R_drewN | apply Kd.R_drew)); exact HO196.out), (hb_ HB)⟩)
         ·skip
          refine Kd.R_make_step (Kd.int .u8) _ 5 (by rfl) (N := 27) rfl 78 _ _ rfl 46 rfl rfl Tryz.underlying78 (.int .u8 0) 1 info5 rfl (by decide) (by omega) 0 (ok := fun _ => True) (okp := fun _ => True) rfl (fun _ hk => hk) trivial (by omega) (by omega) (Below.refl _ _) (Nat.le_refl _) ?_
          intro v198 w27 ho28 hb hg_ hnew_
          clear hg_ hnew_
          (first | rw [← Ny197.out] at ho28 | (simp only [Int.reduceToNat] at ho28; rw [← Ny197.out] at ho28))
          have n0_ := Aside0.mk (Kd.R_elder' (by (with_reducible repeat (first | apply Kd.R_alloc | apply Kd.R_drewN | apply Kd.R_drew)); exact HO196.out) (Kd.R_base ho28) hb)
          have n1_ := Aside0.mk (Kd.R_lower (Kd.R_new' ho28 (Kd.R_lt (by (with_reducible repeat (first | apply Kd.R_alloc | apply Kd.R_drewN | apply Kd.R_drew)); exact HO196.out))) (below_size (hb_ HB)))
          have n2_ := Aside0.mk (below_step (hb_ HB) hb)
          clear HO196
          clear HB
          have HO196 := n0_
          have HO199 := n1_
          have HB := n2_
          clear n0_ n1_ n2_
          clear hb ho28
          refine hK.out _ _ trivial (fun hHeld => ?_)
          clear hK K
          refine norm_ (a' := ?_) ?_ ?_
          rotate_left
          ·show Act.put _ (some 27) _ = _
           simp only [Act.put, la_, lb_, lc_, i64_w, i32_w]
           rfl
          exact norm_ (by first | (simp only [putAll, Act.put, la_, lb_, lc_]; done) | (simp only [putAll, Act.put, la_, lb_, lc_]; rfl)) (hJ6_8 (v195, v198) _ ⟨(by (with_reducible repeat (first | apply Kd.R_alloc | apply Kd.R_drewN | apply Kd.R_drew)); exact Kd.R_mono HO196.out (fun _ hk => hk.2)), (by (with_reducible repeat (first | apply Kd.R_alloc | apply Kd.R_drewN | apply Kd.R_drew)); exact Kd.R_mono HO199.out (fun _ hk => hk.2)), (hb_ HB)⟩)
       ·skip
        rintro v198 w27 ⟨h0_, h1_⟩
        have n0_ : Aside0 (Kd.R (Kd.int .u8) 5 w27 w.heap.size (fun _ => True) v198 y197) := ⟨h0_⟩
        have n1_ : Aside0 (Below w.heap.size w w27) := ⟨h1_⟩
        clear HB
        clear h0_ h1_
        have HO199 := n0_
        have HB := n1_
        clear n0_ n1_
        have hHeld := trivial
        refine norm_ (a' := ?_) ?_ ?_
        rotate_left
        ·simp only [putAll, Act.put, la_, lb_, lc_]
         rfl
        refine one_ (i := 6) (N := some 25) d18x11 rfl rfl (one_of HT_.out (by kernel_rfl)) (by decide) (fun K hK => ?_)
        refine Kd.R_lit_step (Kd.int .u8) _ 5 ?hg (N := 25) ?hd (xs := ([(Int.tmod (wrap64 ((Int.tmod a0 64) + 64)) 64) % 256, (Int.tmod (wrap64 ((Int.tmod a2 256) + 256)) 256) % 256] : List Int)) (inner := [.int .u8 ((Int.tmod (wrap64 ((Int.tmod a0 64) + 64)) 64) % 256), .int .u8 ((Int.tmod (wrap64 ((Int.tmod a2 256) + 256)) 256) % 256)]) (ok := fun _ => True) (okp := fun _ => True) ?hr ?hp (fun _ hk => hk) trivial (Below.refl _ _) (Nat.le_refl _) (by simp) ?_; (case hd => rfl); (case hg => rfl); (case hr => first | (go_simp; done) | (go_simp; rfl)); (case hp => exact (Reps.one (show Kd.M (Kd.int .u8) _ _ _ ((Int.tmod (wrap64 ((Int.tmod a0 64) + 64)) 64) % 256) [.int .u8 ((Int.tmod (wrap64 ((Int.tmod a0 64) + 64)) 64) % 256)] from rfl) (Reps.one (show Kd.M (Kd.int .u8) _ _ _ ((Int.tmod (wrap64 ((Int.tmod a2 256) + 256)) 256) % 256) [.int .u8 ((Int.tmod (wrap64 ((Int.tmod a2 256) + 256)) 256) % 256)] from rfl) (Reps.none _ _))))
        intro v195 w28 ho29 hb hg_ hnew_
        clear hg_ hnew_
        (first | rw [← Ny194.out] at ho29 | (simp only [Int.reduceToNat] at ho29; rw [← Ny194.out] at ho29))
        have n0_ := Aside0.mk (Kd.R_elder' (by (with_reducible repeat (first | apply Kd.R_alloc | apply Kd.R_drewN | apply Kd.R_drew)); exact HO199.out) (Kd.R_base ho29) hb)
        have n1_ := Aside0.mk (Kd.R_lower (Kd.R_new' ho29 (Kd.R_lt (by (with_reducible repeat (first | apply Kd.R_alloc | apply Kd.R_drewN | apply Kd.R_drew)); exact HO199.out))) (below_size (hb_ HB)))
        have n2_ := Aside0.mk (below_step (hb_ HB) hb)
        clear HO199
        clear HB
        have HO199 := n0_
        have HO196 := n1_
        have HB := n2_
        clear n0_ n1_ n2_
        clear hb ho29
        refine hK.out _ _ trivial (fun hHeld => ?_)
        clear hK K
        refine norm_ (a' := ?_) ?_ ?_
        rotate_left
        ·show Act.put _ (some 25) _ = _
         simp only [Act.put, la_, lb_, lc_, i64_w, i32_w]
         rfl
        exact norm_ (by first | (simp only [putAll, Act.put, la_, lb_, lc_]; done) | (simp only [putAll, Act.put, la_, lb_, lc_]; rfl)) (hJ6_8_9 (v195, v198) _ ⟨(by (with_reducible repeat (first | apply Kd.R_alloc | apply Kd.R_drewN | apply Kd.R_drew)); exact Kd.R_mono HO196.out (fun _ hk => hk.2)), (by (with_reducible repeat (first | apply Kd.R_alloc | apply Kd.R_drewN | apply Kd.R_drew)); exact Kd.R_mono HO199.out (fun _ hk => hk.2)), (hb_ HB)⟩)
      ·skip
       rintro ⟨v195, v198⟩ w28 ⟨h0_, h1_, h2_⟩
       have n0_ : Aside0 (Kd.R (Kd.int .u8) 5 w28 w.heap.size (fun k_ => some k_ ≠ (v198 : Value).ownBlock) v195 y194) := ⟨h0_⟩
       have n1_ : Aside0 (Kd.R (Kd.int .u8) 5 w28 w.heap.size (fun k_ => some k_ ≠ (v195 : Value).ownBlock) v198 y197) := ⟨h1_⟩
       have n2_ : Aside0 (Below w.heap.size w w28) := ⟨h2_⟩
       clear HB
       clear h0_ h1_ h2_
       have HO196 := n0_
       have HO199 := n1_
       have HB := n2_
       clear n0_ n1_ n2_
       have hHeld := trivial
       refine norm_ (a' := ?_) ?_ ?_
       rotate_left
       ·simp only [putAll, Act.put, la_, lb_, lc_]
        rfl
       refine two_ (i := 7) (j := 9) (Ni := some 26) (Nj := some 28) d18x13 d18x11 rfl rfl rfl rfl (two_of HT_.out (by kernel_rfl)) (by decide) (by decide) (fun K hK => ?_) (fun K hK => ?_)
       ·skip
        have hcv29 := own_string (P := Tryz.prog) Tryz.underlying78 Tryz.underlying5 Tryz.underlying9 (Kd.own_of_R HO196.out)
        refine value_ (w1 := ?_) (v := ?_) (by rfl) rfl ?_ ?_
        rotate_left 2
        ·go_simp
         constructor
         ·rfl
         ·rfl
        clear hcv29
        refine hK.out _ _ trivial (fun hHeld => ?_)
        clear hK K
        refine norm_ (a' := ?_) ?_ ?_
        rotate_left
        ·show Act.put _ (some 26) _ = _
         simp only [Act.put, la_, lb_, lc_, i64_w, i32_w]
         rfl
        exact norm_ (by first | (simp only [putAll, Act.put, la_, lb_, lc_]; done) | (simp only [putAll, Act.put, la_, lb_, lc_]; rfl)) (hJ6_7_8 (v195, v198) _ ⟨(by (with_reducible repeat (first | apply Kd.R_alloc | apply Kd.R_drewN | apply Kd.R_drew)); exact HO196.out), (by (with_reducible repeat (first | apply Kd.R_alloc | apply Kd.R_drewN | apply Kd.R_drew)); exact HO199.out), (hb_ HB)⟩)
       ·skip
        have hcv29 := own_string (P := Tryz.prog) Tryz.underlying78 Tryz.underlying5 Tryz.underlying9 (Kd.own_of_R HO199.out)
        refine value_ (w1 := ?_) (v := ?_) (by rfl) rfl ?_ ?_
        rotate_left 2
        ·go_simp
         constructor
         ·rfl
         ·rfl
        clear hcv29
        refine hK.out _ _ trivial (fun hHeld => ?_)
        clear hK K
        refine norm_ (a' := ?_) ?_ ?_
        rotate_left
        ·show Act.put _ (some 28) _ = _
         simp only [Act.put, la_, lb_, lc_, i64_w, i32_w]
         rfl
        exact norm_ (by first | (simp only [putAll, Act.put, la_, lb_, lc_]; done) | (simp only [putAll, Act.put, la_, lb_, lc_]; rfl)) (hJ6_8_9 (v195, v198) _ ⟨(by (with_reducible repeat (first | apply Kd.R_alloc | apply Kd.R_drewN | apply Kd.R_drew)); exact HO196.out), (by (with_reducible repeat (first | apply Kd.R_alloc | apply Kd.R_drewN | apply Kd.R_drew)); exact HO199.out), (hb_ HB)⟩)
     ·skip
      rintro v195 w27 ⟨h0_, h1_⟩
      have n0_ : Aside0 (Kd.R (Kd.int .u8) 5 w27 w.heap.size (fun _ => True) v195 y194) := ⟨h0_⟩
      have n1_ : Aside0 (Below w.heap.size w w27) := ⟨h1_⟩
      clear HB
      clear h0_ h1_
      have HO196 := n0_
      have HB := n1_
      clear n0_ n1_
      have hHeld := trivial
      refine norm_ (a' := ?_) ?_ ?_
      rotate_left
      ·simp only [putAll, Act.put, la_, lb_, lc_]
       rfl
      refine one_ (i := 8) (N := some 27) d18x13 rfl rfl (one_of HT_.out (by kernel_rfl)) (by decide) (fun K hK => ?_)
      refine Kd.R_make_step (Kd.int .u8) _ 5 (by rfl) (N := 27) rfl 78 _ _ rfl 46 rfl rfl Tryz.underlying78 (.int .u8 0) 1 info5 rfl (by decide) (by omega) 0 (ok := fun _ => True) (okp := fun _ => True) rfl (fun _ hk => hk) trivial (by omega) (by omega) (Below.refl _ _) (Nat.le_refl _) ?_
      intro v198 w28 ho29 hb hg_ hnew_
      clear hg_ hnew_
      (first | rw [← Ny197.out] at ho29 | (simp only [Int.reduceToNat] at ho29; rw [← Ny197.out] at ho29))
      have n0_ := Aside0.mk (Kd.R_elder' (by (with_reducible repeat (first | apply Kd.R_alloc | apply Kd.R_drewN | apply Kd.R_drew)); exact HO196.out) (Kd.R_base ho29) hb)
      have n1_ := Aside0.mk (Kd.R_lower (Kd.R_new' ho29 (Kd.R_lt (by (with_reducible repeat (first | apply Kd.R_alloc | apply Kd.R_drewN | apply Kd.R_drew)); exact HO196.out))) (below_size (hb_ HB)))
      have n2_ := Aside0.mk (below_step (hb_ HB) hb)
      clear HO196
      clear HB
      have HO196 := n0_
      have HO199 := n1_
      have HB := n2_
      clear n0_ n1_ n2_
      clear hb ho29
      refine hK.out _ _ trivial (fun hHeld => ?_)
      clear hK K
      refine norm_ (a' := ?_) ?_ ?_
      rotate_left
      ·show Act.put _ (some 27) _ = _
       simp only [Act.put, la_, lb_, lc_, i64_w, i32_w]
       rfl
      exact norm_ (by first | (simp only [putAll, Act.put, la_, lb_, lc_]; done) | (simp only [putAll, Act.put, la_, lb_, lc_]; rfl)) (hJ6_7_8 (v195, v198) _ ⟨(by (with_reducible repeat (first | apply Kd.R_alloc | apply Kd.R_drewN | apply Kd.R_drew)); exact Kd.R_mono HO196.out (fun _ hk => hk.2)), (by (with_reducible repeat (first | apply Kd.R_alloc | apply Kd.R_drewN | apply Kd.R_drew)); exact Kd.R_mono HO199.out (fun _ hk => hk.2)), (hb_ HB)⟩)
    ·skip
     rintro ⟨v195, v198⟩ w29 ⟨h0_, h1_, h2_⟩
     have n0_ : Aside0 (Kd.R (Kd.int .u8) 5 w29 w.heap.size (fun k_ => some k_ ≠ (v198 : Value).ownBlock) v195 y194) := ⟨h0_⟩
     have n1_ : Aside0 (Kd.R (Kd.int .u8) 5 w29 w.heap.size (fun k_ => some k_ ≠ (v195 : Value).ownBlock) v198 y197) := ⟨h1_⟩
     have n2_ : Aside0 (Below w.heap.size w w29) := ⟨h2_⟩
     clear HB
     clear h0_ h1_ h2_
     have HO196 := n0_
     have HO199 := n1_
     have HB := n2_
     clear n0_ n1_ n2_
     have hHeld := trivial
     refine norm_ (a' := ?_) ?_ ?_
     rotate_left
     ·simp only [putAll, Act.put, la_, lb_, lc_]
      rfl
     refine one_ (i := 7) (N := some 26) d18x14 rfl rfl (one_of HT_.out (by kernel_rfl)) (by decide) (fun K hK => ?_)
     have hcv30 := own_string (P := Tryz.prog) Tryz.underlying78 Tryz.underlying5 Tryz.underlying9 (Kd.own_of_R HO196.out)
     refine value_ (w1 := ?_) (v := ?_) (by rfl) rfl ?_ ?_
     rotate_left 2
     ·go_simp
      constructor
      ·rfl
      ·rfl
     clear hcv30
     refine hK.out _ _ trivial (fun hHeld => ?_)
     clear hK K
     refine norm_ (a' := ?_) ?_ ?_
     rotate_left
     ·show Act.put _ (some 26) _ = _
      simp only [Act.put, la_, lb_, lc_, i64_w, i32_w]
      rfl
     exact norm_ (by first | (simp only [putAll, Act.put, la_, lb_, lc_]; done) | (simp only [putAll, Act.put, la_, lb_, lc_]; rfl)) (hJ6_7_8_9 (v195, v198) _ ⟨(by (with_reducible repeat (first | apply Kd.R_alloc | apply Kd.R_drewN | apply Kd.R_drew)); exact HO196.out), (by (with_reducible repeat (first | apply Kd.R_alloc | apply Kd.R_drewN | apply Kd.R_drew)); exact HO199.out), (hb_ HB)⟩)
   ·skip
    rintro ⟨v195, v198⟩ w29 ⟨h0_, h1_, h2_⟩
    have n0_ : Aside0 (Kd.R (Kd.int .u8) 5 w29 w.heap.size (fun k_ => some k_ ≠ (v198 : Value).ownBlock) v195 y194) := ⟨h0_⟩
    have n1_ : Aside0 (Kd.R (Kd.int .u8) 5 w29 w.heap.size (fun k_ => some k_ ≠ (v195 : Value).ownBlock) v198 y197) := ⟨h1_⟩
    have n2_ : Aside0 (Below w.heap.size w w29) := ⟨h2_⟩
    clear HB
    clear h0_ h1_ h2_
    have HO196 := n0_
    have HO199 := n1_
    have HB := n2_
    clear n0_ n1_ n2_
    have hHeld := trivial
    refine norm_ (a' := ?_) ?_ ?_
    rotate_left
    ·simp only [putAll, Act.put, la_, lb_, lc_]
     rfl
    refine one_ (i := 9) (N := some 28) d18x14 rfl rfl (one_of HT_.out (by kernel_rfl)) (by decide) (fun K hK => ?_)
    have hcv30 := own_string (P := Tryz.prog) Tryz.underlying78 Tryz.underlying5 Tryz.underlying9 (Kd.own_of_R HO199.out)
    refine value_ (w1 := ?_) (v := ?_) (by rfl) rfl ?_ ?_
    rotate_left 2
    ·go_simp
     constructor
     ·rfl
     ·rfl
    clear hcv30
    refine hK.out _ _ trivial (fun hHeld => ?_)
    clear hK K
    refine norm_ (a' := ?_) ?_ ?_
    rotate_left
    ·show Act.put _ (some 28) _ = _
     simp only [Act.put, la_, lb_, lc_, i64_w, i32_w]
     rfl
    exact norm_ (by first | (simp only [putAll, Act.put, la_, lb_, lc_]; done) | (simp only [putAll, Act.put, la_, lb_, lc_]; rfl)) (hJ6_7_8_9 (v195, v198) _ ⟨(by (with_reducible repeat (first | apply Kd.R_alloc | apply Kd.R_drewN | apply Kd.R_drew)); exact HO196.out), (by (with_reducible repeat (first | apply Kd.R_alloc | apply Kd.R_drewN | apply Kd.R_drew)); exact HO199.out), (hb_ HB)⟩)
  rintro ⟨v195, v198⟩ w30 ⟨h0_, h1_, h2_⟩
  have n0_ : Aside0 (Kd.R (Kd.int .u8) 5 w30 w.heap.size (fun k_ => some k_ ≠ (v198 : Value).ownBlock) v195 y194) := ⟨h0_⟩
  have n1_ : Aside0 (Kd.R (Kd.int .u8) 5 w30 w.heap.size (fun k_ => some k_ ≠ (v195 : Value).ownBlock) v198 y197) := ⟨h1_⟩
  have n2_ : Aside0 (Below w.heap.size w w30) := ⟨h2_⟩
  clear HB
  clear h0_ h1_ h2_
  have HO196 := n0_
  have HO199 := n1_
  have HB := n2_
  clear n0_ n1_ n2_
  have hHeld := trivial
  refine norm_ (a' := ?_) ?_ ?_
  rotate_left
  ·simp only [putAll, Act.put, la_, lb_, lc_]
   rfl
  refine pon_ 10 (some 29) d18x15 HT_.out ?_
  refine pon_ 11 (some 10) d18x16 HT_.out ?_
  refine done_ (done_of HT_.out (by kernel_rfl)) ?_
  try go_wp2_with (first | ((with_reducible refine gate_callee (f := 38) rfl ?_); refine goesL_ (some 33) rfl rfl Tryz.func38 (by kernel_rfl) rfl #[.int .u64 (IntKind.u64.wrap (a3)), .int .i64 4] rfl (by (try simp only [List.map_toArray, List.map_cons, List.map_nil]); first | done | rfl | (simp only [List.length_drop, List.length_take]; rfl)) ?_; (with_reducible refine (headgateref01_PutBig.calls k (IntKind.u64.wrap (a3)) 4 t200 _ A21.out).mono ?_); rintro e w31 ⟨rfl, hb⟩; refine ⟨_, rfl, ?_⟩; have n0_ := Aside0.mk (Kd.R_below (by (with_reducible repeat (first | apply Kd.R_alloc | apply Kd.R_drewN | apply Kd.R_drew)); exact HO196.out) hb); have n1_ := Aside0.mk (Kd.R_below (by (with_reducible repeat (first | apply Kd.R_alloc | apply Kd.R_drewN | apply Kd.R_drew)); exact HO199.out) hb); have n2_ := Aside0.mk (below_step (hb_ HB) hb); clear HO196; clear HO199; clear HB; have HO196 := n0_; have HO199 := n1_; have HB := n2_; clear n0_ n1_ n2_; (try clear hb); (try clear hb2); (try clear hk); (try clear hi)) | ((with_reducible refine gate_callee (f := 32) rfl ?_); refine goesL_ (some 34) rfl rfl Tryz.func32 (by kernel_rfl) rfl #[.string ((strOfNums y194) ++ (strOfNums y197)), .int .i64 16, .string t200] rfl (by (try simp only [List.map_toArray, List.map_cons, List.map_nil]); first | done | rfl | (simp only [List.length_drop, List.length_take]; rfl)) ?_; (with_reducible refine (headgateref01_Put.calls ((strOfNums y194) ++ (strOfNums y197)) 16 t200 t201 _ A22.out).mono ?_); rintro e w' ⟨rfl, ⟨nd, rfl⟩⟩; refine ⟨_, rfl, ?_⟩))
  go_ret
  exact ⟨by first | rfl | (simp [errW_none, errW_some] <;> rfl) | (simp [*, errW_none, errW_some] <;> rfl) | (simp [bt, *]; done) | (unfold bt; simp [*]; done), by repeat (first | (with_reducible first | exact HB.out | apply below_alloc | apply pw_below_drewN | apply below_drew1) | exact HB.out)⟩
 subst c5
 have H1 := H
 rw [if_pos rfl] at H1
 clear H
 have H := H1
 clear H1
 obtain ⟨y186, hy186⟩ : ∃ y_ : List Int, y_ = (([(((Int.tmod (wrap64 ((Int.tmod a0 64) + 64)) 64) % 256) + 64) % 256, (Int.tmod (wrap64 ((Int.tmod a2 256) + 256)) 256) % 256] : List Int)) := ⟨_, rfl⟩
 replace H : (if 46 ≤ 281474976710656 then ((some (List.replicate 46 0 : List Int)).bind fun y189 => (if (strOfNums y186).size + (strOfNums y189).size ≤ 9223372036854775807 then ((headgateref01_PutBig.f k (IntKind.u64.wrap (a3)) 4).bind fun t192 => ((headgateref01_Put.f ((strOfNums y186) ++ (strOfNums y189)) 16 t192).bind fun t193 => (some t193))) else (none))) else (none)) = some r := by first | (rw [hy186]; with_reducible exact H) | (have H2_ := (Option.bind_some _ _).symm.trans H; rw [hy186]; with_reducible exact H2_) | (have H2_ := (Option.bind_some _ _).symm.trans H; with_reducible exact H2_) | with_reducible exact H | (rw [hy186]; exact H) | exact H
 have Ny186 := Aside0.mk hy186
 clear hy186
 refine neg_first (p := (46 ≤ 281474976710656)) (fun c6 => ?_) (fun c6 => ?_)
 ·rw [if_neg c6] at H
  exact absurd H (by simp)
 rw [if_pos c6] at H
 have c6b0 := eq_true c6
 have c6b1 : decide (46 ≤ 281474976710656) = true := decide_eq_true c6
 clear c6
 obtain ⟨y189, hy189⟩ : ∃ y_ : List Int, y_ = (List.replicate 46 0) := ⟨_, rfl⟩
 replace H : (if (strOfNums y186).size + (strOfNums y189).size ≤ 9223372036854775807 then ((headgateref01_PutBig.f k (IntKind.u64.wrap (a3)) 4).bind fun t192 => ((headgateref01_Put.f ((strOfNums y186) ++ (strOfNums y189)) 16 t192).bind fun t193 => (some t193))) else (none)) = some r := by first | (rw [hy189]; with_reducible exact H) | (have H2_ := (Option.bind_some _ _).symm.trans H; rw [hy189]; with_reducible exact H2_) | (have H2_ := (Option.bind_some _ _).symm.trans H; with_reducible exact H2_) | with_reducible exact H | (rw [hy189]; exact H) | exact H
 have Ny189 := Aside0.mk hy189
 clear hy189
 refine neg_first (p := ((strOfNums y186).size + (strOfNums y189).size ≤ 9223372036854775807)) (fun c7 => ?_) (fun c7 => ?_)
 ·rw [if_neg c7] at H
  exact absurd H (by simp)
 rw [if_pos c7] at H
 have c7b0 := eq_true c7
 have c7b1 : decide ((strOfNums y186).size + (strOfNums y189).size ≤ 9223372036854775807) = true := decide_eq_true c7
 try have c7b2 : (9223372036854775807 < (strOfNums y186).size + (strOfNums y189).size) = False := eq_false (Nat.not_lt.2 c7)
 replace H := Option.bind_eq_some_iff.mp H
 obtain ⟨t192, A80, H⟩ := H
 try dsimp only at H
 have A8 := Aside0.mk A80
 clear A80
 replace H := Option.bind_eq_some_iff.mp H
 obtain ⟨t193, A90, H⟩ := H
 try dsimp only at H
 have A9 := Aside0.mk A90
 clear A90
 obtain rfl := Option.some.inj H
 go_enter Tryz.func18, Tryz.ntmps18
 try go_wp2
 have n0_ := Aside0.mk (below_drew1 HB.out)
 clear HB
 have HB := n0_
 clear n0_
 refine start_ (n := 12) (S := fun w' => True) (ds := []) d18x0 (by kernel_rfl) rfl rfl trivial (fun hHeld => ?_); refine with_tabW headgateref20_Head.tab4 headgateref20_Head.bits4 (fun HT_ HW_ => ?_)
 generalize w.drew = w10 at HB hHeld ⊢
 refine pon_ 0 (some 19) d18x1 HT_.out ?_
 refine pon_ 1 (some 20) d18x2 HT_.out ?_
 refine pon_ 2 (some 21) d18x3 HT_.out ?_
 refine pon_ 3 (some 22) d18x4 HT_.out ?_
 refine pon_ 4 (some 23) d18x5 HT_.out ?_
 refine pon_ 5 (some 24) d18x6 HT_.out ?_
 refine join_ (σ := Value × Value) 2 d18x14 (fun s_ => [(25, s_.1), (26, .string (strOfNums y186)), (27, s_.2), (28, .string (strOfNums y189))]) (fun s_ w' => (Kd.R (Kd.int .u8) 5 w' w.heap.size (fun k_ => some k_ ≠ (s_.2 : Value).ownBlock) s_.1 y186) ∧ (Kd.R (Kd.int .u8) 5 w' w.heap.size (fun k_ => some k_ ≠ (s_.1 : Value).ownBlock) s_.2 y189) ∧ (Below w.heap.size w w')) ?_ ?_
 rotate_left
 ·intro hJ6_7_8_9
  refine join_ (σ := Value × Value) 3 d18x13 (fun s_ => [(25, s_.1), (26, .string (strOfNums y186)), (27, s_.2)]) (fun s_ w' => (Kd.R (Kd.int .u8) 5 w' w.heap.size (fun k_ => some k_ ≠ (s_.2 : Value).ownBlock) s_.1 y186) ∧ (Kd.R (Kd.int .u8) 5 w' w.heap.size (fun k_ => some k_ ≠ (s_.1 : Value).ownBlock) s_.2 y189) ∧ (Below w.heap.size w w')) ?_ ?_
  rotate_left
  ·intro hJ6_7_8
   refine join_ (σ := Value × Value) 3 d18x11 (fun s_ => [(25, s_.1), (27, s_.2), (28, .string (strOfNums y189))]) (fun s_ w' => (Kd.R (Kd.int .u8) 5 w' w.heap.size (fun k_ => some k_ ≠ (s_.2 : Value).ownBlock) s_.1 y186) ∧ (Kd.R (Kd.int .u8) 5 w' w.heap.size (fun k_ => some k_ ≠ (s_.1 : Value).ownBlock) s_.2 y189) ∧ (Below w.heap.size w w')) ?_ ?_
   rotate_left
   ·intro hJ6_8_9
    refine join_ (σ := Value) 4 d18x12 (fun s_ => [(25, s_), (26, .string (strOfNums y186))]) (fun s_ w' => (Kd.R (Kd.int .u8) 5 w' w.heap.size (fun _ => True) s_ y186) ∧ (Below w.heap.size w w')) ?_ ?_
    rotate_left
    ·intro hJ6_7
     refine join_ (σ := Value × Value) 4 d18x10 (fun s_ => [(25, s_.1), (27, s_.2)]) (fun s_ w' => (Kd.R (Kd.int .u8) 5 w' w.heap.size (fun k_ => some k_ ≠ (s_.2 : Value).ownBlock) s_.1 y186) ∧ (Kd.R (Kd.int .u8) 5 w' w.heap.size (fun k_ => some k_ ≠ (s_.1 : Value).ownBlock) s_.2 y189) ∧ (Below w.heap.size w w')) ?_ ?_
     rotate_left
     ·intro hJ6_8
      refine join_ (σ := Value) 4 d18x8 (fun s_ => [(27, s_), (28, .string (strOfNums y189))]) (fun s_ w' => (Kd.R (Kd.int .u8) 5 w' w.heap.size (fun _ => True) s_ y189) ∧ (Below w.heap.size w w')) ?_ ?_
      rotate_left
      ·intro hJ8_9
       refine join_ (σ := Value) 5 d18x9 (fun s_ => [(25, s_)]) (fun s_ w' => (Kd.R (Kd.int .u8) 5 w' w.heap.size (fun _ => True) s_ y186) ∧ (Below w.heap.size w w')) ?_ ?_
       rotate_left
       ·intro hJ6
        refine join_ (σ := Value) 5 d18x7 (fun s_ => [(27, s_)]) (fun s_ w' => (Kd.R (Kd.int .u8) 5 w' w.heap.size (fun _ => True) s_ y189) ∧ (Below w.heap.size w w')) ?_ ?_
        rotate_left
        ·intro hJ8
         refine two_ (i := 6) (j := 8) (Ni := some 25) (Nj := some 27) d18x9 d18x7 rfl rfl rfl rfl (two_of HT_.out (by kernel_rfl)) (by decide) (by decide) (fun K hK => ?_) (fun K hK => ?_)
         ·skip
          refine Kd.R_lit_step (Kd.int .u8) _ 5 ?hg (N := 25) ?hd (xs := ([(((Int.tmod (wrap64 ((Int.tmod a0 64) + 64)) 64) % 256) + 64) % 256, (Int.tmod (wrap64 ((Int.tmod a2 256) + 256)) 256) % 256] : List Int)) (inner := [.int .u8 ((((Int.tmod (wrap64 ((Int.tmod a0 64) + 64)) 64) % 256) + 64) % 256), .int .u8 ((Int.tmod (wrap64 ((Int.tmod a2 256) + 256)) 256) % 256)]) (ok := fun _ => True) (okp := fun _ => True) ?hr ?hp (fun _ hk => hk) trivial (Below.refl _ _) (Nat.le_refl _) (by simp) ?_; (case hd => rfl); (case hg => rfl); (case hr => first | (go_simp; done) | (go_simp; rfl)); (case hp => exact (Reps.one (show Kd.M (Kd.int .u8) _ _ _ ((((Int.tmod (wrap64 ((Int.tmod a0 64) + 64)) 64) % 256) + 64) % 256) [.int .u8 ((((Int.tmod (wrap64 ((Int.tmod a0 64) + 64)) 64) % 256) + 64) % 256)] from rfl) (Reps.one (show Kd.M (Kd.int .u8) _ _ _ ((Int.tmod (wrap64 ((Int.tmod a2 256) + 256)) 256) % 256) [.int .u8 ((Int.tmod (wrap64 ((Int.tmod a2 256) + 256)) 256) % 256)] from rfl) (Reps.none _ _))))
          intro v187 w11 ho12 hb hg_ hnew_
          clear hg_ hnew_
          (first | rw [← Ny186.out] at ho12 | (simp only [Int.reduceToNat] at ho12; rw [← Ny186.out] at ho12))
          have n0_ := Aside0.mk (Kd.R_lower ho12 (below_size (hb_ HB)))
          have n1_ := Aside0.mk (below_step (hb_ HB) hb)
          clear HB
          have HO188 := n0_
          have HB := n1_
          clear n0_ n1_
          clear hb ho12
          refine hK.out _ _ trivial (fun hHeld => ?_)
          clear hK K
          refine norm_ (a' := ?_) ?_ ?_
          rotate_left
          ·show Act.put _ (some 25) _ = _
           simp only [Act.put, la_, lb_, lc_, i64_w, i32_w]
           rfl
          exact norm_ (by first | (simp only [putAll, Act.put, la_, lb_, lc_]; done) | (simp only [putAll, Act.put, la_, lb_, lc_]; rfl)) (hJ6 (v187) _ ⟨(by (with_reducible repeat (first | apply Kd.R_alloc | apply Kd.R_drewN | apply Kd.R_drew)); exact HO188.out), (hb_ HB)⟩)
         ·skip
          refine Kd.R_make_step (Kd.int .u8) _ 5 (by rfl) (N := 27) rfl 78 _ _ rfl 46 rfl rfl Tryz.underlying78 (.int .u8 0) 1 info5 rfl (by decide) (by omega) 0 (ok := fun _ => True) (okp := fun _ => True) rfl (fun _ hk => hk) trivial (by omega) (by omega) (Below.refl _ _) (Nat.le_refl _) ?_
          intro v190 w11 ho12 hb hg_ hnew_
          clear hg_ hnew_
          (first | rw [← Ny189.out] at ho12 | (simp only [Int.reduceToNat] at ho12; rw [← Ny189.out] at ho12))
          have n0_ := Aside0.mk (Kd.R_lower ho12 (below_size (hb_ HB)))
          have n1_ := Aside0.mk (below_step (hb_ HB) hb)
          clear HB
          have HO191 := n0_
          have HB := n1_
          clear n0_ n1_
          clear hb ho12
          refine hK.out _ _ trivial (fun hHeld => ?_)
          clear hK K
          refine norm_ (a' := ?_) ?_ ?_
          rotate_left
          ·show Act.put _ (some 27) _ = _
           simp only [Act.put, la_, lb_, lc_, i64_w, i32_w]
           rfl
          exact norm_ (by first | (simp only [putAll, Act.put, la_, lb_, lc_]; done) | (simp only [putAll, Act.put, la_, lb_, lc_]; rfl)) (hJ8 (v190) _ ⟨(by (with_reducible repeat (first | apply Kd.R_alloc | apply Kd.R_drewN | apply Kd.R_drew)); exact HO191.out), (hb_ HB)⟩)
        ·skip
         rintro v190 w13 ⟨h0_, h1_⟩
         have n0_ : Aside0 (Kd.R (Kd.int .u8) 5 w13 w.heap.size (fun _ => True) v190 y189) := ⟨h0_⟩
         have n1_ : Aside0 (Below w.heap.size w w13) := ⟨h1_⟩
         clear HB
         clear h0_ h1_
         have HO191 := n0_
         have HB := n1_
         clear n0_ n1_
         have hHeld := trivial
         refine norm_ (a' := ?_) ?_ ?_
         rotate_left
         ·simp only [putAll, Act.put, la_, lb_, lc_]
          rfl
         refine two_ (i := 6) (j := 9) (Ni := some 25) (Nj := some 28) d18x10 d18x8 rfl rfl rfl rfl (two_of HT_.out (by kernel_rfl)) (by decide) (by decide) (fun K hK => ?_) (fun K hK => ?_)
         ·skip
          refine Kd.R_lit_step (Kd.int .u8) _ 5 ?hg (N := 25) ?hd (xs := ([(((Int.tmod (wrap64 ((Int.tmod a0 64) + 64)) 64) % 256) + 64) % 256, (Int.tmod (wrap64 ((Int.tmod a2 256) + 256)) 256) % 256] : List Int)) (inner := [.int .u8 ((((Int.tmod (wrap64 ((Int.tmod a0 64) + 64)) 64) % 256) + 64) % 256), .int .u8 ((Int.tmod (wrap64 ((Int.tmod a2 256) + 256)) 256) % 256)]) (ok := fun _ => True) (okp := fun _ => True) ?hr ?hp (fun _ hk => hk) trivial (Below.refl _ _) (Nat.le_refl _) (by simp) ?_; (case hd => rfl); (case hg => rfl); (case hr => first | (go_simp; done) | (go_simp; rfl)); (case hp => exact (Reps.one (show Kd.M (Kd.int .u8) _ _ _ ((((Int.tmod (wrap64 ((Int.tmod a0 64) + 64)) 64) % 256) + 64) % 256) [.int .u8 ((((Int.tmod (wrap64 ((Int.tmod a0 64) + 64)) 64) % 256) + 64) % 256)] from rfl) (Reps.one (show Kd.M (Kd.int .u8) _ _ _ ((Int.tmod (wrap64 ((Int.tmod a2 256) + 256)) 256) % 256) [.int .u8 ((Int.tmod (wrap64 ((Int.tmod a2 256) + 256)) 256) % 256)] from rfl) (Reps.none _ _))))
          intro v187 w14 ho15 hb hg_ hnew_
          clear hg_ hnew_
          (first | rw [← Ny186.out] at ho15 | (simp only [Int.reduceToNat] at ho15; rw [← Ny186.out] at ho15))
          have n0_ := Aside0.mk (Kd.R_elder' (by (with_reducible repeat (first | apply Kd.R_alloc | apply Kd.R_drewN | apply Kd.R_drew)); exact HO191.out) (Kd.R_base ho15) hb)
          have n1_ := Aside0.mk (Kd.R_lower (Kd.R_new' ho15 (Kd.R_lt (by (with_reducible repeat (first | apply Kd.R_alloc | apply Kd.R_drewN | apply Kd.R_drew)); exact HO191.out))) (below_size (hb_ HB)))
          have n2_ := Aside0.mk (below_step (hb_ HB) hb)
          clear HO191
          clear HB
          have HO191 := n0_
          have HO188 := n1_
          have HB := n2_
          clear n0_ n1_ n2_
          clear hb ho15
          refine hK.out _ _ trivial (fun hHeld => ?_)
          clear hK K
          refine norm_ (a' := ?_) ?_ ?_
          rotate_left
          ·show Act.put _ (some 25) _ = _
           simp only [Act.put, la_, lb_, lc_, i64_w, i32_w]
           rfl
          exact norm_ (by first | (simp only [putAll, Act.put, la_, lb_, lc_]; done) | (simp only [putAll, Act.put, la_, lb_, lc_]; rfl)) (hJ6_8 (v187, v190) _ ⟨(by (with_reducible repeat (first | apply Kd.R_alloc | apply Kd.R_drewN | apply Kd.R_drew)); exact Kd.R_mono HO188.out (fun _ hk => hk.2)), (by (with_reducible repeat (first | apply Kd.R_alloc | apply Kd.R_drewN | apply Kd.R_drew)); exact Kd.R_mono HO191.out (fun _ hk => hk.2)), (hb_ HB)⟩)
         ·skip
          have hcv14 := own_string (P := Tryz.prog) Tryz.underlying78 Tryz.underlying5 Tryz.underlying9 (Kd.own_of_R HO191.out)
          refine value_ (w1 := ?_) (v := ?_) (by rfl) rfl ?_ ?_
          rotate_left 2
          ·go_simp
           constructor
           ·rfl
           ·rfl
          clear hcv14
          refine hK.out _ _ trivial (fun hHeld => ?_)
          clear hK K
          refine norm_ (a' := ?_) ?_ ?_
          rotate_left
          ·show Act.put _ (some 28) _ = _
           simp only [Act.put, la_, lb_, lc_, i64_w, i32_w]
           rfl
          exact norm_ (by first | (simp only [putAll, Act.put, la_, lb_, lc_]; done) | (simp only [putAll, Act.put, la_, lb_, lc_]; rfl)) (hJ8_9 (v190) _ ⟨(by (with_reducible repeat (first | apply Kd.R_alloc | apply Kd.R_drewN | apply Kd.R_drew)); exact HO191.out), (hb_ HB)⟩)
       ·skip
        rintro v187 w13 ⟨h0_, h1_⟩
        have n0_ : Aside0 (Kd.R (Kd.int .u8) 5 w13 w.heap.size (fun _ => True) v187 y186) := ⟨h0_⟩
        have n1_ : Aside0 (Below w.heap.size w w13) := ⟨h1_⟩
        clear HB
        clear h0_ h1_
        have HO188 := n0_
        have HB := n1_
        clear n0_ n1_
        have hHeld := trivial
        refine norm_ (a' := ?_) ?_ ?_
        rotate_left
        ·simp only [putAll, Act.put, la_, lb_, lc_]
         rfl
        refine two_ (i := 7) (j := 8) (Ni := some 26) (Nj := some 27) d18x12 d18x10 rfl rfl rfl rfl (two_of HT_.out (by kernel_rfl)) (by decide) (by decide) (fun K hK => ?_) (fun K hK => ?_)
        ·skip
         have hcv14 := own_string (P := Tryz.prog) Tryz.underlying78 Tryz.underlying5 Tryz.underlying9 (Kd.own_of_R HO188.out)
         refine value_ (w1 := ?_) (v := ?_) (by rfl) rfl ?_ ?_
         rotate_left 2
         ·go_simp
          constructor
          ·rfl
          ·rfl
         clear hcv14
         refine hK.out _ _ trivial (fun hHeld => ?_)
         clear hK K
         refine norm_ (a' := ?_) ?_ ?_
         rotate_left
         ·show Act.put _ (some 26) _ = _
          simp only [Act.put, la_, lb_, lc_, i64_w, i32_w]
          rfl
         exact norm_ (by first | (simp only [putAll, Act.put, la_, lb_, lc_]; done) | (simp only [putAll, Act.put, la_, lb_, lc_]; rfl)) (hJ6_7 (v187) _ ⟨(by (with_reducible repeat (first | apply Kd.R_alloc | apply Kd.R_drewN | apply Kd.R_drew)); exact HO188.out), (hb_ HB)⟩)
        ·skip
         refine Kd.R_make_step (Kd.int .u8) _ 5 (by rfl) (N := 27) rfl 78 _ _ rfl 46 rfl rfl Tryz.underlying78 (.int .u8 0) 1 info5 rfl (by decide) (by omega) 0 (ok := fun _ => True) (okp := fun _ => True) rfl (fun _ hk => hk) trivial (by omega) (by omega) (Below.refl _ _) (Nat.le_refl _) ?_
         intro v190 w14 ho15 hb hg_ hnew_
         clear hg_ hnew_
         (first | rw [← Ny189.out] at ho15 | (simp only [Int.reduceToNat] at ho15; rw [← Ny189.out] at ho15))
         have n0_ := Aside0.mk (Kd.R_elder' (by (with_reducible repeat (first | apply Kd.R_alloc | apply Kd.R_drewN | apply Kd.R_drew)); exact HO188.out) (Kd.R_base ho15) hb)
         have n1_ := Aside0.mk (Kd.R_lower (Kd.R_new' ho15 (Kd.R_lt (by (with_reducible repeat (first | apply Kd.R_alloc | apply Kd.R_drewN | apply Kd.R_drew)); exact HO188.out))) (below_size (hb_ HB)))
         have n2_ := Aside0.mk (below_step (hb_ HB) hb)
         clear HO188
         clear HB
         have HO188 := n0_
         have HO191 := n1_
         have HB := n2_
         clear n0_ n1_ n2_
         clear hb ho15
         refine hK.out _ _ trivial (fun hHeld => ?_)
         clear hK K
         refine norm_ (a' := ?_) ?_ ?_
         rotate_left
         ·show Act.put _ (some 27) _ = _
          simp only [Act.put, la_, lb_, lc_, i64_w, i32_w]
          rfl
         exact norm_ (by first | (simp only [putAll, Act.put, la_, lb_, lc_]; done) | (simp only [putAll, Act.put, la_, lb_, lc_]; rfl)) (hJ6_8 (v187, v190) _ ⟨(by (with_reducible repeat (first | apply Kd.R_alloc | apply Kd.R_drewN | apply Kd.R_drew)); exact Kd.R_mono HO188.out (fun _ hk => hk.2)), (by (with_reducible repeat (first | apply Kd.R_alloc | apply Kd.R_drewN | apply Kd.R_drew)); exact Kd.R_mono HO191.out (fun _ hk => hk.2)), (hb_ HB)⟩)
      ·skip
       rintro v190 w14 ⟨h0_, h1_⟩
       have n0_ : Aside0 (Kd.R (Kd.int .u8) 5 w14 w.heap.size (fun _ => True) v190 y189) := ⟨h0_⟩
       have n1_ : Aside0 (Below w.heap.size w w14) := ⟨h1_⟩
       clear HB
       clear h0_ h1_
       have HO191 := n0_
       have HB := n1_
       clear n0_ n1_
       have hHeld := trivial
       refine norm_ (a' := ?_) ?_ ?_
       rotate_left
       ·simp only [putAll, Act.put, la_, lb_, lc_]
        rfl
       refine one_ (i := 6) (N := some 25) d18x11 rfl rfl (one_of HT_.out (by kernel_rfl)) (by decide) (fun K hK => ?_)
       refine Kd.R_lit_step (Kd.int .u8) _ 5 ?hg (N := 25) ?hd (xs := ([(((Int.tmod (wrap64 ((Int.tmod a0 64) + 64)) 64) % 256) + 64) % 256, (Int.tmod (wrap64 ((Int.tmod a2 256) + 256)) 256) % 256] : List Int)) (inner := [.int .u8 ((((Int.tmod (wrap64 ((Int.tmod a0 64) + 64)) 64) % 256) + 64) % 256), .int .u8 ((Int.tmod (wrap64 ((Int.tmod a2 256) + 256)) 256) % 256)]) (ok := fun _ => True) (okp := fun _ => True) ?hr ?hp (fun _ hk => hk) trivial (Below.refl _ _) (Nat.le_refl _) (by simp) ?_; (case hd => rfl); (case hg => rfl); (case hr => first | (go_simp; done) | (go_simp; rfl)); (case hp => exact (Reps.one (show Kd.M (Kd.int .u8) _ _ _ ((((Int.tmod (wrap64 ((Int.tmod a0 64) + 64)) 64) % 256) + 64) % 256) [.int .u8 ((((Int.tmod (wrap64 ((Int.tmod a0 64) + 64)) 64) % 256) + 64) % 256)] from rfl) (Reps.one (show Kd.M (Kd.int .u8) _ _ _ ((Int.tmod (wrap64 ((Int.tmod a2 256) + 256)) 256) % 256) [.int .u8 ((Int.tmod (wrap64 ((Int.tmod a2 256) + 256)) 256) % 256)] from rfl) (Reps.none _ _))))
       intro v187 w15 ho16 hb hg_ hnew_
       clear hg_ hnew_
       (first | rw [← Ny186.out] at ho16 | (simp only [Int.reduceToNat] at ho16; rw [← Ny186.out] at ho16))
       have n0_ := Aside0.mk (Kd.R_elder' (by (with_reducible repeat (first | apply Kd.R_alloc | apply Kd.R_drewN | apply Kd.R_drew)); exact HO191.out) (Kd.R_base ho16) hb)
       have n1_ := Aside0.mk (Kd.R_lower (Kd.R_new' ho16 (Kd.R_lt (by (with_reducible repeat (first | apply Kd.R_alloc | apply Kd.R_drewN | apply Kd.R_drew)); exact HO191.out))) (below_size (hb_ HB)))
       have n2_ := Aside0.mk (below_step (hb_ HB) hb)
       clear HO191
       clear HB
       have HO191 := n0_
       have HO188 := n1_
       have HB := n2_
       clear n0_ n1_ n2_
       clear hb ho16
       refine hK.out _ _ trivial (fun hHeld => ?_)
       clear hK K
       refine norm_ (a' := ?_) ?_ ?_
       rotate_left
       ·show Act.put _ (some 25) _ = _
        simp only [Act.put, la_, lb_, lc_, i64_w, i32_w]
        rfl
       exact norm_ (by first | (simp only [putAll, Act.put, la_, lb_, lc_]; done) | (simp only [putAll, Act.put, la_, lb_, lc_]; rfl)) (hJ6_8_9 (v187, v190) _ ⟨(by (with_reducible repeat (first | apply Kd.R_alloc | apply Kd.R_drewN | apply Kd.R_drew)); exact Kd.R_mono HO188.out (fun _ hk => hk.2)), (by (with_reducible repeat (first | apply Kd.R_alloc | apply Kd.R_drewN | apply Kd.R_drew)); exact Kd.R_mono HO191.out (fun _ hk => hk.2)), (hb_ HB)⟩)
     ·skip
      rintro ⟨v187, v190⟩ w15 ⟨h0_, h1_, h2_⟩
      have n0_ : Aside0 (Kd.R (Kd.int .u8) 5 w15 w.heap.size (fun k_ => some k_ ≠ (v190 : Value).ownBlock) v187 y186) := ⟨h0_⟩
      have n1_ : Aside0 (Kd.R (Kd.int .u8) 5 w15 w.heap.size (fun k_ => some k_ ≠ (v187 : Value).ownBlock) v190 y189) := ⟨h1_⟩
      have n2_ : Aside0 (Below w.heap.size w w15) := ⟨h2_⟩
      clear HB
      clear h0_ h1_ h2_
      have HO188 := n0_
      have HO191 := n1_
      have HB := n2_
      clear n0_ n1_ n2_
      have hHeld := trivial
      refine norm_ (a' := ?_) ?_ ?_
      rotate_left
      ·simp only [putAll, Act.put, la_, lb_, lc_]
       rfl
      refine two_ (i := 7) (j := 9) (Ni := some 26) (Nj := some 28) d18x13 d18x11 rfl rfl rfl rfl (two_of HT_.out (by kernel_rfl)) (by decide) (by decide) (fun K hK => ?_) (fun K hK => ?_)
      ·skip
       have hcv16 := own_string (P := Tryz.prog) Tryz.underlying78 Tryz.underlying5 Tryz.underlying9 (Kd.own_of_R HO188.out)
       refine value_ (w1 := ?_) (v := ?_) (by rfl) rfl ?_ ?_
       rotate_left 2
       ·go_simp
        constructor
        ·rfl
        ·rfl
       clear hcv16
       refine hK.out _ _ trivial (fun hHeld => ?_)
       clear hK K
       refine norm_ (a' := ?_) ?_ ?_
       rotate_left
       ·show Act.put _ (some 26) _ = _
        simp only [Act.put, la_, lb_, lc_, i64_w, i32_w]
        rfl
       exact norm_ (by first | (simp only [putAll, Act.put, la_, lb_, lc_]; done) | (simp only [putAll, Act.put, la_, lb_, lc_]; rfl)) (hJ6_7_8 (v187, v190) _ ⟨(by (with_reducible repeat (first | apply Kd.R_alloc | apply Kd.R_drewN | apply Kd.R_drew)); exact HO188.out), (by (with_reducible repeat (first | apply Kd.R_alloc | apply Kd.R_drewN | apply Kd.R_drew)); exact HO191.out), (hb_ HB)⟩)
      ·skip
       have hcv16 := own_string (P := Tryz.prog) Tryz.underlying78 Tryz.underlying5 Tryz.underlying9 (Kd.own_of_R HO191.out)
       refine value_ (w1 := ?_) (v := ?_) (by rfl) rfl ?_ ?_
       rotate_left 2
       ·go_simp
        constructor
        ·rfl
        ·rfl
       clear hcv16
       refine hK.out _ _ trivial (fun hHeld => ?_)
       clear hK K
       refine norm_ (a' := ?_) ?_ ?_
       rotate_left
       ·show Act.put _ (some 28) _ = _
        simp only [Act.put, la_, lb_, lc_, i64_w, i32_w]
        rfl
       exact norm_ (by first | (simp only [putAll, Act.put, la_, lb_, lc_]; done) | (simp only [putAll, Act.put, la_, lb_, lc_]; rfl)) (hJ6_8_9 (v187, v190) _ ⟨(by (with_reducible repeat (first | apply Kd.R_alloc | apply Kd.R_drewN | apply Kd.R_drew)); exact HO188.out), (by (with_reducible repeat (first | apply Kd.R_alloc | apply Kd.R_drewN | apply Kd.R_drew)); exact HO191.out), (hb_ HB)⟩)
    ·skip
     rintro v187 w14 ⟨h0_, h1_⟩
     have n0_ : Aside0 (Kd.R (Kd.int .u8) 5 w14 w.heap.size (fun _ => True) v187 y186) := ⟨h0_⟩
     have n1_ : Aside0 (Below w.heap.size w w14) := ⟨h1_⟩
     clear HB
     clear h0_ h1_
     have HO188 := n0_
     have HB := n1_
     clear n0_ n1_
     have hHeld := trivial
     refine norm_ (a' := ?_) ?_ ?_
     rotate_left
     ·simp only [putAll, Act.put, la_, lb_, lc_]
      rfl
     refine one_ (i := 8) (N := some 27) d18x13 rfl rfl (one_of HT_.out (by kernel_rfl)) (by decide) (fun K hK => ?_)
     refine Kd.R_make_step (Kd.int .u8) _ 5 (by rfl) (N := 27) rfl 78 _ _ rfl 46 rfl rfl Tryz.underlying78 (.int .u8 0) 1 info5 rfl (by decide) (by omega) 0 (ok := fun _ => True) (okp := fun _ => True) rfl (fun _ hk => hk) trivial (by omega) (by omega) (Below.refl _ _) (Nat.le_refl _) ?_
     intro v190 w15 ho16 hb hg_ hnew_
     clear hg_ hnew_
     (first | rw [← Ny189.out] at ho16 | (simp only [Int.reduceToNat] at ho16; rw [← Ny189.out] at ho16))
     have n0_ := Aside0.mk (Kd.R_elder' (by (with_reducible repeat (first | apply Kd.R_alloc | apply Kd.R_drewN | apply Kd.R_drew)); exact HO188.out) (Kd.R_base ho16) hb)
     have n1_ := Aside0.mk (Kd.R_lower (Kd.R_new' ho16 (Kd.R_lt (by (with_reducible repeat (first | apply Kd.R_alloc | apply Kd.R_drewN | apply Kd.R_drew)); exact HO188.out))) (below_size (hb_ HB)))
     have n2_ := Aside0.mk (below_step (hb_ HB) hb)
     clear HO188
     clear HB
     have HO188 := n0_
     have HO191 := n1_
     have HB := n2_
     clear n0_ n1_ n2_
     clear hb ho16
     refine hK.out _ _ trivial (fun hHeld => ?_)
     clear hK K
     refine norm_ (a' := ?_) ?_ ?_
     rotate_left
     ·show Act.put _ (some 27) _ = _
      simp only [Act.put, la_, lb_, lc_, i64_w, i32_w]
      rfl
     exact norm_ (by first | (simp only [putAll, Act.put, la_, lb_, lc_]; done) | (simp only [putAll, Act.put, la_, lb_, lc_]; rfl)) (hJ6_7_8 (v187, v190) _ ⟨(by (with_reducible repeat (first | apply Kd.R_alloc | apply Kd.R_drewN | apply Kd.R_drew)); exact Kd.R_mono HO188.out (fun _ hk => hk.2)), (by (with_reducible repeat (first | apply Kd.R_alloc | apply Kd.R_drewN | apply Kd.R_drew)); exact Kd.R_mono HO191.out (fun _ hk => hk.2)), (hb_ HB)⟩)
   ·skip
    rintro ⟨v187, v190⟩ w16 ⟨h0_, h1_, h2_⟩
    have n0_ : Aside0 (Kd.R (Kd.int .u8) 5 w16 w.heap.size (fun k_ => some k_ ≠ (v190 : Value).ownBlock) v187 y186) := ⟨h0_⟩
    have n1_ : Aside0 (Kd.R (Kd.int .u8) 5 w16 w.heap.size (fun k_ => some k_ ≠ (v187 : Value).ownBlock) v190 y189) := ⟨h1_⟩
    have n2_ : Aside0 (Below w.heap.size w w16) := ⟨h2_⟩
    clear HB
    clear h0_ h1_ h2_
    have HO188 := n0_
    have HO191 := n1_
    have HB := n2_
    clear n0_ n1_ n2_
    have hHeld := trivial
    refine norm_ (a' := ?_) ?_ ?_
    rotate_left
    ·simp only [putAll, Act.put, la_, lb_, lc_]
     rfl
    refine one_ (i := 7) (N := some 26) d18x14 rfl rfl (one_of HT_.out (by kernel_rfl)) (by decide) (fun K hK => ?_)
    have hcv17 := own_string (P := Tryz.prog) Tryz.underlying78 Tryz.underlying5 Tryz.underlying9 (Kd.own_of_R HO188.out)
    refine value_ (w1 := ?_) (v := ?_) (by rfl) rfl ?_ ?_
    rotate_left 2
    ·go_simp
     constructor
     ·rfl
     ·rfl
    clear hcv17
    refine hK.out _ _ trivial (fun hHeld => ?_)
    clear hK K
    refine norm_ (a' := ?_) ?_ ?_
    rotate_left
    ·show Act.put _ (some 26) _ = _
     simp only [Act.put, la_, lb_, lc_, i64_w, i32_w]
     rfl
    exact norm_ (by first | (simp only [putAll, Act.put, la_, lb_, lc_]; done) | (simp only [putAll, Act.put, la_, lb_, lc_]; rfl)) (hJ6_7_8_9 (v187, v190) _ ⟨(by (with_reducible repeat (first | apply Kd.R_alloc | apply Kd.R_drewN | apply Kd.R_drew)); exact HO188.out), (by (with_reducible repeat (first | apply Kd.R_alloc | apply Kd.R_drewN | apply Kd.R_drew)); exact HO191.out), (hb_ HB)⟩)
  ·skip
   rintro ⟨v187, v190⟩ w16 ⟨h0_, h1_, h2_⟩
   have n0_ : Aside0 (Kd.R (Kd.int .u8) 5 w16 w.heap.size (fun k_ => some k_ ≠ (v190 : Value).ownBlock) v187 y186) := ⟨h0_⟩
   have n1_ : Aside0 (Kd.R (Kd.int .u8) 5 w16 w.heap.size (fun k_ => some k_ ≠ (v187 : Value).ownBlock) v190 y189) := ⟨h1_⟩
   have n2_ : Aside0 (Below w.heap.size w w16) := ⟨h2_⟩
   clear HB
   clear h0_ h1_ h2_
   have HO188 := n0_
   have HO191 := n1_
   have HB := n2_
   clear n0_ n1_ n2_
   have hHeld := trivial
   refine norm_ (a' := ?_) ?_ ?_
   rotate_left
   ·simp only [putAll, Act.put, la_, lb_, lc_]
    rfl
   refine one_ (i := 9) (N := some 28) d18x14 rfl rfl (one_of HT_.out (by kernel_rfl)) (by decide) (fun K hK => ?_)
   have hcv17 := own_string (P := Tryz.prog) Tryz.underlying78 Tryz.underlying5 Tryz.underlying9 (Kd.own_of_R HO191.out)
   refine value_ (w1 := ?_) (v := ?_) (by rfl) rfl ?_ ?_
   rotate_left 2
   ·go_simp
    constructor
    ·rfl
    ·rfl
   clear hcv17
   refine hK.out _ _ trivial (fun hHeld => ?_)
   clear hK K
   refine norm_ (a' := ?_) ?_ ?_
   rotate_left
   ·show Act.put _ (some 28) _ = _
    simp only [Act.put, la_, lb_, lc_, i64_w, i32_w]
    rfl
   exact norm_ (by first | (simp only [putAll, Act.put, la_, lb_, lc_]; done) | (simp only [putAll, Act.put, la_, lb_, lc_]; rfl)) (hJ6_7_8_9 (v187, v190) _ ⟨(by (with_reducible repeat (first | apply Kd.R_alloc | apply Kd.R_drewN | apply Kd.R_drew)); exact HO188.out), (by (with_reducible repeat (first | apply Kd.R_alloc | apply Kd.R_drewN | apply Kd.R_drew)); exact HO191.out), (hb_ HB)⟩)
 rintro ⟨v187, v190⟩ w17 ⟨h0_, h1_, h2_⟩
 have n0_ : Aside0 (Kd.R (Kd.int .u8) 5 w17 w.heap.size (fun k_ => some k_ ≠ (v190 : Value).ownBlock) v187 y186) := ⟨h0_⟩
 have n1_ : Aside0 (Kd.R (Kd.int .u8) 5 w17 w.heap.size (fun k_ => some k_ ≠ (v187 : Value).ownBlock) v190 y189) := ⟨h1_⟩
 have n2_ : Aside0 (Below w.heap.size w w17) := ⟨h2_⟩
 clear HB
 clear h0_ h1_ h2_
 have HO188 := n0_
 have HO191 := n1_
 have HB := n2_
 clear n0_ n1_ n2_
 have hHeld := trivial
 refine norm_ (a' := ?_) ?_ ?_
 rotate_left
 ·simp only [putAll, Act.put, la_, lb_, lc_]
  rfl
 refine pon_ 10 (some 29) d18x15 HT_.out ?_
 refine pon_ 11 (some 10) d18x16 HT_.out ?_
 refine done_ (done_of HT_.out (by kernel_rfl)) ?_
 try go_wp2_with (first | ((with_reducible refine gate_callee (f := 38) rfl ?_); refine goesL_ (some 33) rfl rfl Tryz.func38 (by kernel_rfl) rfl #[.int .u64 (IntKind.u64.wrap (a3)), .int .i64 4] rfl (by (try simp only [List.map_toArray, List.map_cons, List.map_nil]); first | done | rfl | (simp only [List.length_drop, List.length_take]; rfl)) ?_; (with_reducible refine (headgateref01_PutBig.calls k (IntKind.u64.wrap (a3)) 4 t192 _ A8.out).mono ?_); rintro e w18 ⟨rfl, hb⟩; refine ⟨_, rfl, ?_⟩; have n0_ := Aside0.mk (Kd.R_below (by (with_reducible repeat (first | apply Kd.R_alloc | apply Kd.R_drewN | apply Kd.R_drew)); exact HO188.out) hb); have n1_ := Aside0.mk (Kd.R_below (by (with_reducible repeat (first | apply Kd.R_alloc | apply Kd.R_drewN | apply Kd.R_drew)); exact HO191.out) hb); have n2_ := Aside0.mk (below_step (hb_ HB) hb); clear HO188; clear HO191; clear HB; have HO188 := n0_; have HO191 := n1_; have HB := n2_; clear n0_ n1_ n2_; (try clear hb); (try clear hb2); (try clear hk); (try clear hi)) | ((with_reducible refine gate_callee (f := 32) rfl ?_); refine goesL_ (some 34) rfl rfl Tryz.func32 (by kernel_rfl) rfl #[.string ((strOfNums y186) ++ (strOfNums y189)), .int .i64 16, .string t192] rfl (by (try simp only [List.map_toArray, List.map_cons, List.map_nil]); first | done | rfl | (simp only [List.length_drop, List.length_take]; rfl)) ?_; (with_reducible refine (headgateref01_Put.calls ((strOfNums y186) ++ (strOfNums y189)) 16 t192 t193 _ A9.out).mono ?_); rintro e w' ⟨rfl, ⟨nd, rfl⟩⟩; refine ⟨_, rfl, ?_⟩))
 go_ret
 exact ⟨by first | rfl | (simp [errW_none, errW_some] <;> rfl) | (simp [*, errW_none, errW_some] <;> rfl) | (simp [bt, *]; done) | (unfold bt; simp [*]; done), by repeat (first | (with_reducible first | exact HB.out | apply below_alloc | apply pw_below_drewN | apply below_drew1) | exact HB.out)⟩
end Go.Proofs.YthglbmihbmneaaaGreatDoor.P
