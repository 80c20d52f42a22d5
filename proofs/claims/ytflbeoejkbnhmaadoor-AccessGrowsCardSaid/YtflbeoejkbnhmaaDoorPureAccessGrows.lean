/- A host that registers loses no right by it, and under the reservations for registrants gains that of writing. -/
import Derived.Test.YtflbeoejkbnhmaaDoorPx6
import Derived.Test.YtflbeoejkbnhmaaDoorRq
import Derived.Test.YtflbeoejkbnhmaaDoorAccessLib
namespace Go.Proofs.YtflbeoejkbnhmaaDoor.Pure
open Go.RowKit Go.Proofs.YtflbeoejkbnhmaaDoor.P Go.Proofs.YtflbeoejkbnhmaaDoorW.PrintWords Go.Proofs.YtflbeoejkbnhmaaDoorW.PrintLast Go.Proofs.YtflbeoejkbnhmaaDoorW.PrintMore Go.Proofs.YtflbeoejkbnhmaaDoor.Num
set_option linter.unusedVariables false
set_option linter.unusedSimpArgs false

theorem reg_more (l : List S37) (h g : ByteArray) (v : Int) (hr : reg l h = true) : reg (l ++ [⟨g, v⟩]) h = true := by
  unfold reg at *
  rw [List.any_append, hr]
  rfl
theorem reg_own (l : List S37) (h : ByteArray) (v : Int) : reg (l ++ [⟨h, v⟩]) h = true := by
  unfold reg
  rw [List.any_append]
  simp
theorem holds_more (l : List S37) (t : Int) (o h : ByteArray) (v : Int) (hh : holds l t o h = true) : holds (l ++ [⟨h, v⟩]) t o h = true := by
  unfold holds at *
  by_cases ht : typed t = true
  · rw [if_pos ht] at *
    by_cases h5 : t = 5 ∨ t = 6
    · rw [if_pos h5]
      exact reg_own l h v
    · rw [if_neg h5] at *
      exact hh
  · rw [if_neg ht] at hh
    cases hh
theorem may_more (l : List S37) (t : Int) (o h : ByteArray) (v c : Int) (hm : may l t o h c = true) : may (l ++ [⟨h, v⟩]) t o h c = true := by
  have hr := reg_own l h v
  have hh := holds_more l t o h v
  unfold may at *
  rw [hr]
  by_cases ht : typed t = true
  · rw [if_pos ht] at *
    by_cases h2 : c = 2
    · rw [if_pos h2] at *
      cases e : holds l t o h with
      | true => rw [hh e]; rfl
      | false =>
        rw [e] at hm
        by_cases h1 : t = 1 ∨ t = 3 ∨ t = 5
        · rw [if_pos h1]
          simp
        · rw [if_neg h1] at *
          by_cases h3 : 3 ≤ t
          · rw [if_pos h3]
            simp
          · rw [if_neg h3] at hm
            cases hm
    · rw [if_neg h2] at *
      cases e : changes c with
      | false => rfl
      | true =>
        rw [e, if_pos rfl] at hm
        rw [if_pos rfl]
        cases e2 : holds l t o h with
        | true => rw [hh e2]; rfl
        | false =>
          rw [e2] at hm
          by_cases h3 : 3 ≤ t
          · rw [if_pos h3]
            simp
          · rw [if_neg h3] at hm
            cases hm
  · rw [if_neg ht]
theorem grows_l0 (h : ByteArray) (v : Int) (l : List S37) (t : Int) (o : ByteArray) (g : Int) (b : Bool) (hl : l.length ≤ 200) : ∀ (n k i : Nat), i + n = 17 → 300 + n ≤ k → headgatelaw10_AccessGrows.l0 k h (i : Int) l t o g b l t o g b (l ++ [⟨h, v⟩]) t o g b = some true
  | 0, k + 1, i, hi, hk => by
    have hm : access_May.f k (l ++ [⟨h, v⟩]) t o g b h 3 = some (may (l ++ [⟨h, v⟩]) t o h 3) := May_spec _ _ _ _ _ _ _ _ (by simp; omega) (by omega)
    rw [headgatelaw10_AccessGrows.l0, if_neg (by omega), refType_spec, Option.bind_some, wakes_ok k (by omega), hm]
    cases ht : typed t with
    | false => rfl
    | true =>
      rw [if_pos rfl]
      by_cases h3 : t < 3
      · rw [if_pos h3]
        rfl
      · have e : may (l ++ [⟨h, v⟩]) t o h 3 = true := by
          unfold may
          rw [reg_own, if_pos ht, if_neg (by decide), if_pos (by decide), if_pos (by omega)]
          simp
        rw [if_neg h3, e]
        rfl
  | n + 1, k + 1, i, hi, hk => by
    have hm : access_May.f k l t o g b h (i : Int) = some (may l t o h (i : Int)) := May_spec _ _ _ _ _ _ _ _ (by omega) (by omega)
    have hm2 : access_May.f k (l ++ [⟨h, v⟩]) t o g b h (i : Int) = some (may (l ++ [⟨h, v⟩]) t o h (i : Int)) := May_spec _ _ _ _ _ _ _ _ (by simp; omega) (by omega)
    have ih := grows_l0 h v l t o g b hl n k (i + 1) (by omega) (by omega)
    have e1 : wrap64 ((i : Int) + 1) = ((i + 1 : Nat) : Int) := by rw [w64 (by omega) (by omega)]; rfl
    rw [headgatelaw10_AccessGrows.l0, if_pos (by omega), hm, hm2, e1, ih]
    cases e : may l t o h (i : Int) with
    | false => rfl
    | true =>
      rw [may_more l t o h v _ e]
      rfl

theorem AccessGrows (x0 : S27) (x1 : ByteArray) (x2 : Int) (h0 : Q27 x0) (h1 : x1.size ≤ 9223372036854775807) (h2 : (Lit.int .u64 x2).wf = true) : ∃ k, headgatelaw10_AccessGrows.f k x0.f0 x0.f1.f0 x0.f1.f1 x0.f2 x0.f3 x1 x2 = some true := by
  refine ⟨401, ?_⟩
  obtain ⟨z, hz, hzl⟩ := Large_spec 401 x0.f0 x0.f1.f0 x0.f1.f1 x0.f2 x0.f3 (by decide)
  have hj : headgatelaw10_AccessGrows.j0 401 x1 x2 true x0.f0 x0.f1.f0 x0.f1.f1 x0.f2 x0.f3 = some true := by
    rw [headgatelaw10_AccessGrows.j0, if_pos rfl, wakes_ok _ (by decide)]
    rfl
  unfold headgatelaw10_AccessGrows.f
  rw [hz, Option.bind_some]
  cases z with
  | true => rw [if_pos rfl, hj]
  | false =>
    rw [if_neg (by decide)]
    have hl := hzl rfl
    by_cases hs : (x1.size : Int) > 1000
    · rw [decide_eq_true hs, hj]
    · rw [decide_eq_false hs, headgatelaw10_AccessGrows.j0, if_neg (by decide), Copy_spec _ _ _ _ _ hl, Option.bind_some, Option.bind_some, if_pos (by simp only []; omega)]
      exact grows_l0 x1 x2 x0.f0 x0.f1.f0 x0.f1.f1 x0.f2 x0.f3 hl 17 400 0 (by decide) (by decide)

end Go.Proofs.YtflbeoejkbnhmaaDoor.Pure
