/- The plain law ResvKeeps: what its functions tell, over numbers and lists alone. -/
import Derived.Test.YtjogkfcjlljjcaaDoorXaResvKeeps
import Derived.Test.YtjogkfcjlljjcaaDoorLaResvKeeps
namespace Go.Proofs.YtjogkfcjlljjcaaDoor.Pure
open Go.RowKit Go.Proofs.YtjogkfcjlljjcaaDoor.P Go.Proofs.YtjogkfcjlljjcaaDoorW.PrintWords Go.Proofs.YtjogkfcjlljjcaaDoorW.PrintLast Go.Proofs.YtjogkfcjlljjcaaDoorW.PrintMore Go.Proofs.YtjogkfcjlljjcaaDoor.Num
set_option linter.unusedVariables false
set_option linter.unusedSimpArgs false

theorem tables_same (k : Nat) (l : List S53) (t : Int) (o : ByteArray) (g : Int) (b : Bool) (hl : l.length ≤ 300) (hk : 310 ≤ k) : headgatekeep_Tables.f k l t o g b l t o g b = some true := by
  obtain ⟨z, hz, hi⟩ := Tables_spec k l t o g b l t o g b hl hk
  rw [hz, hi.mpr ⟨rfl, rfl, rfl, rfl, rfl⟩]
theorem rd46 (l : List S46) (i : Nat) (h : i < l.length) : rd_T46 l (i : Int) = l[i] := by
  unfold rd_T46
  rw [List.getD_eq_getElem?_getD, Int.toNat_natCast, List.getElem?_eq_getElem h]
  rfl
theorem keeps_l0 (l : List S53) (t : Int) (o : ByteArray) (g : Int) (b : Bool) (c : S31) (r : List S53 × Int × ByteArray × Int × Bool × List S46 × Int) (hl : l.length ≤ 200) (hK : Keeps l t o g b c r) : ∀ (d k i : Nat), i + d = r.2.2.2.2.2.1.length → 900 + 2 * d ≤ k →
    headgatelaw11_ResvKeeps.l0 k r.2.2.2.2.2.1 r.2.2.2.2.2.2 (i : Int) l t o g b c.f0 c.f1 c.f2 c.f3 c.f4 c.f5 c.f6 c.f7 c.f8 c.f9 c.f10 c.f11 c.f12 c.f13 r.1 r.2.1 r.2.2.1 r.2.2.2.1 r.2.2.2.2.1 = some true := by
  obtain ⟨h1, h2, h3, h4⟩ := hK
  intro d
  induction d with
  | zero =>
    intro k i hi hk
    obtain ⟨k, rfl⟩ : ∃ m, k = m + 1 := ⟨k - 1, by omega⟩
    rw [headgatelaw11_ResvKeeps.l0, if_neg (by omega)]
    by_cases hc : r.2.2.2.2.2.2 = 1
    · obtain ⟨q1, q2, q3⟩ := h2 hc
      rw [if_pos hc, ref_Good_spec _ _ _ _ _ k (by omega), q1, Option.bind_some, if_pos rfl, GoodOf q2, Option.bind_some, if_pos rfl, wakes_ok k (by omega), Option.bind_some]
      by_cases e : r.2.2.2.1 = g
      · rw [if_pos e]
      · rw [if_neg e, if_pos (q3.resolve_left e)]
    · obtain ⟨e1, e2, e3, e4, e5, e6⟩ := h1 hc
      rw [if_neg hc, e1, e2, e3, e4, e5, e6, tables_same k l t o g b (by omega) (by omega), Option.bind_some, if_pos rfl, if_pos (show ((([] : List S46).length : Int) = 0) from rfl), wakes_ok k (by omega)]
      rfl
  | succ d ih =>
    intro k i hi hk
    obtain ⟨k, rfl⟩ : ∃ m, k = m + 1 := ⟨k - 1, by omega⟩
    have hlt : i < r.2.2.2.2.2.1.length := by omega
    obtain ⟨n1, n2⟩ := h3 _ (List.getElem_mem hlt)
    have hc : r.2.2.2.2.2.2 = 1 := Classical.byContradiction fun z => by
      have := (h1 z).2.2.2.2.2
      rw [this] at hlt
      exact absurd hlt (Nat.not_lt_zero _)
    have hg := (h2 hc).1
    rw [headgatelaw11_ResvKeeps.l0, if_pos (by omega), if_pos (by omega), rd46 _ i hlt, if_neg (fun z => n1 (tl_inj.mp z)), refKey_spec k l t o g b _ (by omega) (by omega), Option.bind_some, if_neg, w64 (by omega) (by omega)]
    · exact ih k (i + 1) (by omega) (by omega)
    · intro z
      rw [(keyL_zero (good_ok hg).2.1 _).mp z] at n2
      cases n2
theorem keeps_j0 (k : Nat) (hk : 1000 ≤ k) (z : Bool) (l : List S53) (t : Int) (o : ByteArray) (g : Int) (b : Bool) (c : S31) (hw : (Lit.int .i64 c.f0).wf = true) (h : z = true ∨ (l.length ≤ 200 ∧ o.size ≤ 1000 ∧ ∀ x ∈ l, x.f0.size ≤ 1000)) :
    headgatelaw11_ResvKeeps.j0 (k + 1) z l t o g b c.f0 c.f1 c.f2 c.f3 c.f4 c.f5 c.f6 c.f7 c.f8 c.f9 c.f10 c.f11 c.f12 c.f13 = some true := by
  rw [headgatelaw11_ResvKeeps.j0]
  cases z
  case true => rw [if_pos rfl, wakes_ok k (by omega)]; rfl
  obtain ⟨hl, ho, hs⟩ := h.resolve_left (by decide)
  rw [if_neg (by decide), Copy_spec l t o g b hl, Option.bind_some]
  dsimp only
  obtain ⟨r, hr, hK⟩ := do_keeps k l t o g b c (by omega) (by omega) (fun x hx => by have := hs x hx; omega) hw
  have hD : resv_Do.f k l t o g b c.f0 c.f1 c.f2 c.f3 c.f4 c.f5 c.f6 c.f7 c.f8 c.f9 c.f10 c.f11 c.f12 c.f13 = some r := hr
  rw [hD, Option.bind_some]
  have h4 := hK.2.2.2
  exact keeps_l0 l t o g b c r hl hK r.2.2.2.2.2.1.length k 0 (by omega) (by omega)
theorem ResvKeeps (x0 : S27) (x1 : S31) (h0 : Q27 x0) (h1 : Q31 x1) : ∃ k, headgatelaw11_ResvKeeps.f k x0.f0 x0.f1.f0 x0.f1.f1 x0.f2 x0.f3 x1.f0 x1.f1 x1.f2 x1.f3 x1.f4 x1.f5 x1.f6 x1.f7 x1.f8 x1.f9 x1.f10 x1.f11 x1.f12 x1.f13 = some true := by
  refine ⟨1101, ?_⟩
  obtain ⟨z, hz, hzl⟩ := Large_spec 1101 x0.f0 x0.f1.f0 x0.f1.f1 x0.f2 x0.f3 (by decide)
  unfold headgatelaw11_ResvKeeps.f headgatelaw11_large.f
  rw [hz, Option.bind_some, Option.bind_some]
  cases z
  · rw [if_neg (by decide)]
    exact keeps_j0 1100 (by decide) _ _ _ _ _ _ _ h1.1 (Or.inr (hzl rfl))
  · rw [if_pos rfl]
    exact keeps_j0 1100 (by decide) _ _ _ _ _ _ _ h1.1 (Or.inl rfl)
end Go.Proofs.YtjogkfcjlljjcaaDoor.Pure
