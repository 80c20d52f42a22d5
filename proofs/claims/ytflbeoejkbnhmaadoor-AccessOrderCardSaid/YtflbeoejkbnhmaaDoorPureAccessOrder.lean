/- Who may write may read, the holder may all, what changes is one right, and without a reservation all may all. -/
import Derived.Test.YtflbeoejkbnhmaaDoorPx6
import Derived.Test.YtflbeoejkbnhmaaDoorRq
import Derived.Test.YtflbeoejkbnhmaaDoorAccessLib
namespace Go.Proofs.YtflbeoejkbnhmaaDoor.Pure
open Go.RowKit Go.Proofs.YtflbeoejkbnhmaaDoor.P Go.Proofs.YtflbeoejkbnhmaaDoorW.PrintWords Go.Proofs.YtflbeoejkbnhmaaDoorW.PrintLast Go.Proofs.YtflbeoejkbnhmaaDoorW.PrintMore Go.Proofs.YtflbeoejkbnhmaaDoor.Num
set_option linter.unusedVariables false
set_option linter.unusedSimpArgs false

theorem may_two (l : List S37) (t : Int) (o h : ByteArray) (hm : may l t o h 3 = true) : may l t o h 2 = true := by
  unfold may at *
  by_cases ht : typed t = true
  · rw [if_pos ht] at *
    rw [if_pos rfl]
    rw [if_neg (by decide), if_pos (by decide)] at hm
    cases e : holds l t o h with
    | true => rfl
    | false =>
      rw [e] at hm
      by_cases h1 : t = 1 ∨ t = 3 ∨ t = 5
      · rw [if_pos h1]
        rfl
      · rw [if_neg h1]
        exact hm
  · rw [if_neg ht]
theorem may_held (l : List S37) (t : Int) (o h : ByteArray) (c : Int) (hh : holds l t o h = true) : may l t o h c = true := by
  unfold may
  rw [hh]
  split
  · split
    · rfl
    · split <;> rfl
  · rfl
theorem may_free (l : List S37) (o h : ByteArray) (c : Int) : may l 0 o h c = true := by
  unfold may
  rw [if_neg (by decide)]
theorem holds_free (l : List S37) (o h : ByteArray) : holds l 0 o h = false := by
  unfold holds
  rw [if_neg (by decide)]
theorem may_three (l : List S37) (t : Int) (o h : ByteArray) (c : Int) (hc : changes c = true) : may l t o h c = may l t o h 3 := by
  have h2 : c ≠ 2 := fun e => by rw [e] at hc; exact absurd hc (by decide)
  unfold may
  rw [if_neg h2, if_pos hc, if_neg (show ¬ ((3 : Int) = 2) by decide), if_pos (show changes 3 = true by decide)]
theorem order_l0 (h : ByteArray) (l : List S37) (t : Int) (o : ByteArray) (g : Int) (b : Bool) (hl : l.length ≤ 200) : ∀ (n k i : Nat), i + n = 17 → 300 + n ≤ k → headgatelaw10_AccessOrder.l0 k h (i : Int) l t o g b l 0 (⟨#[]⟩ : ByteArray) g b = some true
  | 0, k + 1, i, hi, hk => by
    have hh : access_Holds.f k l 0 (⟨#[]⟩ : ByteArray) g b h = some (holds l 0 (⟨#[]⟩ : ByteArray) h) := Holds_spec _ _ _ _ _ _ _ (by omega) (by omega)
    rw [headgatelaw10_AccessOrder.l0, if_neg (by omega), hh, holds_free, Option.bind_some, if_neg (by decide), wakes_ok k (by omega)]
    rfl
  | n + 1, k + 1, i, hi, hk => by
    have hm : ∀ c, access_May.f k l t o g b h c = some (may l t o h c) := fun c => May_spec _ _ _ _ _ _ _ _ (by omega) (by omega)
    have hf : access_May.f k l 0 (⟨#[]⟩ : ByteArray) g b h (i : Int) = some true := (May_spec _ _ _ _ _ _ _ _ (by omega) (by omega)).trans (congrArg some (may_free _ _ _ _))
    have hh : access_Holds.f k l t o g b h = some (holds l t o h) := Holds_spec _ _ _ _ _ _ _ (by omega) (by omega)
    have ih := order_l0 h l t o g b hl n k (i + 1) (by omega) (by omega)
    have e1 : wrap64 ((i : Int) + 1) = ((i + 1 : Nat) : Int) := by rw [w64 (by omega) (by omega)]; rfl
    rw [headgatelaw10_AccessOrder.l0, if_pos (by omega)]
    simp only [hm, hf, hh, Changes_spec, Option.bind_some, e1, ih]
    have ha := may_two l t o h
    have hb := may_held l t o h (i : Int)
    have hd := may_three l t o h (i : Int)
    generalize may l t o h 3 = m3 at *
    generalize may l t o h 2 = m2 at *
    generalize may l t o h (i : Int) = mc at *
    generalize holds l t o h = hx at *
    generalize changes (i : Int) = cx at *
    clear hm hf hh ih e1
    cases m3 <;> cases m2 <;> cases hx <;> cases mc <;> cases cx <;> first | rfl | exact absurd (ha rfl) (by decide) | exact absurd (hb rfl) (by decide) | exact absurd (hd rfl) (by decide)

theorem AccessOrder (x0 : S27) (x1 : ByteArray) (h0 : Q27 x0) (h1 : x1.size ≤ 9223372036854775807) : ∃ k, headgatelaw10_AccessOrder.f k x0.f0 x0.f1.f0 x0.f1.f1 x0.f2 x0.f3 x1 = some true := by
  refine ⟨401, ?_⟩
  obtain ⟨z, hz, hzl⟩ := Large_spec 401 x0.f0 x0.f1.f0 x0.f1.f1 x0.f2 x0.f3 (by decide)
  have hj : headgatelaw10_AccessOrder.j0 401 x1 true x0.f0 x0.f1.f0 x0.f1.f1 x0.f2 x0.f3 = some true := by
    rw [headgatelaw10_AccessOrder.j0, if_pos rfl, wakes_ok _ (by decide)]
    rfl
  unfold headgatelaw10_AccessOrder.f
  rw [hz, Option.bind_some]
  cases z with
  | true => rw [if_pos rfl, hj]
  | false =>
    rw [if_neg (by decide)]
    have hl := hzl rfl
    cases hs : decide ((x1.size : Int) > 1000) with
    | true => exact hj
    | false =>
      rw [headgatelaw10_AccessOrder.j0, if_neg (by decide), Copy_spec _ _ _ _ _ hl, Option.bind_some, Option.bind_some]
      exact order_l0 x1 x0.f0 x0.f1.f0 x0.f1.f1 x0.f2 x0.f3 hl 17 400 0 rfl (by decide)

end Go.Proofs.YtflbeoejkbnhmaaDoor.Pure
