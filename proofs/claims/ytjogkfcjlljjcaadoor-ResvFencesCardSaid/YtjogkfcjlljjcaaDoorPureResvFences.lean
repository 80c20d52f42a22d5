/- The plain law ResvFences: what its functions tell, over numbers and lists alone. -/
import Derived.Test.YtjogkfcjlljjcaaDoorXaResvFences
import Derived.Test.YtjogkfcjlljjcaaDoorLaResvFences
namespace Go.Proofs.YtjogkfcjlljjcaaDoor.Pure
open Go.RowKit Go.Proofs.YtjogkfcjlljjcaaDoor.P Go.Proofs.YtjogkfcjlljjcaaDoorW.PrintWords Go.Proofs.YtjogkfcjlljjcaaDoorW.PrintLast Go.Proofs.YtjogkfcjlljjcaaDoorW.PrintMore Go.Proofs.YtjogkfcjlljjcaaDoor.Num
set_option linter.unusedVariables false
set_option linter.unusedSimpArgs false

theorem tables_same (k : Nat) (l : List S53) (t : Int) (o : ByteArray) (g : Int) (b : Bool) (hl : l.length ≤ 300) (hk : 310 ≤ k) : headgatekeep_Tables.f k l t o g b l t o g b = some true := by
  obtain ⟨z, hz, hi⟩ := Tables_spec k l t o g b l t o g b hl hk
  rw [hz, hi.mpr ⟨rfl, rfl, rfl, rfl, rfl⟩]
theorem asks_none (c : S31) : asksP 0 c = false := by unfold asksP; rfl
/-- A stranger's change, other than a registration, comes to nothing. -/
theorem fences_do (k : Nat) (l : List S53) (t : Int) (o : ByteArray) (g : Int) (b : Bool) (c : S31) (hk : 210 ≤ k) (hg : goodB l t o = true) (hn : nameB c.f2 = true) (hw : (Lit.int .i64 c.f0).wf = true) (h8 : c.f0 ≠ 8) (h0 : keyL l c.f2 = 0) :
    ∃ n : Int, n ≠ 1 ∧ do_f k l t o g b c = some (l, t, o, g, b, [], n) := by
  have hl := (good_ok hg).1
  by_cases ho : 8 ≤ c.f0 ∧ c.f0 ≤ 12
  · rw [do_good k l t o g b c hk hg hn hw ho, h0, if_neg h8]
    by_cases h9 : c.f0 = 9
    · rw [if_pos h9, rsv_eq k l t o g b c 0 hk (by omega)]
      cases typed c.f11
      · exact ⟨5, by decide, rfl⟩
      · rw [if_neg (by decide), asks_none]
        exact ⟨2, by decide, rfl⟩
    rw [if_neg h9]
    by_cases h10 : c.f0 = 10
    · rw [if_pos h10, rel_eq k l t o g b c 0 hk (by omega), asks_none]
      exact ⟨2, by decide, rfl⟩
    rw [if_neg h10]
    by_cases h11 : c.f0 = 11
    · rw [if_pos h11]
      unfold do_clr
      rw [asks_none]
      exact ⟨2, by decide, rfl⟩
    rw [if_neg h11, pre_eq k l t o g b c 0 hk (by omega)]
    cases typed c.f11
    · exact ⟨5, by decide, rfl⟩
    · rw [if_neg (by decide), asks_none]
      exact ⟨2, by decide, rfl⟩
  · obtain ⟨hs, hx⟩ := good_sizes hg
    rw [do_bad k l t o g b c (by omega) (fun x hx' => by have := hx x hx'; omega) hw (Or.inl ho)]
    exact ⟨5, by decide, rfl⟩
theorem rd31 (l : List S31) (i : Nat) (h : i < l.length) : rd_T31 l (i : Int) = l[i] := by
  unfold rd_T31
  rw [List.getD_eq_getElem?_getD, Int.toNat_natCast, List.getElem?_eq_getElem h]
  rfl
theorem fences_end (k : Nat) (hk : 600 ≤ k) (x1 : ByteArray) (x2 : List S31) (i : Int) (l : List S53) (t : Int) (o : ByteArray) (g : Int) (b : Bool) (hg : goodB l t o = true) : headgatelaw11_ResvFences.j2 (k + 1) x1 x2 i false l t o g b l t o g b = some true := by
  have hl := (good_ok hg).1
  rw [headgatelaw11_ResvFences.j2, if_neg (by decide), May_spec k l t o g b x1 3 (by omega) (by omega), Option.bind_some, Option.bind_some, if_pos (by simp), wakes_ok k (by omega)]
  rfl
theorem fences_l0 (x1 : ByteArray) (x2 : List S31) (l : List S53) (t : Int) (o : ByteArray) (g : Int) (b : Bool) (hg : goodB l t o = true) (hn : nameB x1 = true) (h0 : keyL l x1 = 0) (hq : ∀ y ∈ x2, Q31 y) : ∀ (d k i : Nat), i + d = 30 → 700 + 2 * d ≤ k → headgatelaw11_ResvFences.l0 k x1 x2 (i : Int) l t o g b l t o g b = some true := by
  have hl := (good_ok hg).1
  intro d
  induction d with
  | zero =>
    intro k i hi hk
    obtain ⟨k, rfl⟩ : ∃ m, k = m + 1 + 1 := ⟨k - 2, by omega⟩
    rw [headgatelaw11_ResvFences.l0]
    rw [decide_eq_false (show ¬ ((i : Int) < 30) by omega)]
    split
    · exact fences_end k (by omega) x1 x2 _ l t o g b hg
    · exact fences_end k (by omega) x1 x2 _ l t o g b hg
  | succ d ih =>
    intro k i hi hk
    obtain ⟨k, rfl⟩ : ∃ m, k = m + 1 + 1 := ⟨k - 2, by omega⟩
    rw [headgatelaw11_ResvFences.l0]
    by_cases hlt : i < x2.length
    · rw [if_pos (by omega), decide_eq_true (show ((i : Int) < 30) by omega), headgatelaw11_ResvFences.j2, if_pos rfl, if_pos (by omega), if_pos (by omega), rd31 x2 i hlt, w64 (by omega) (by omega)]
      have hi1 : ((i : Int) + 1) = ((i + 1 : Nat) : Int) := by omega
      rw [hi1]
      by_cases h8 : (x2[i]).f0 = 8
      · rw [if_pos h8]
        exact ih k (i + 1) (by omega) (by omega)
      · rw [if_neg h8]
        unfold resv_Do.f
        obtain ⟨n, hn1, hd⟩ := fences_do k l t o g b ⟨(x2[i]).f0, (x2[i]).f1, x1, (x2[i]).f3, (x2[i]).f4, (x2[i]).f5, (x2[i]).f6, (x2[i]).f7, (x2[i]).f8, (x2[i]).f9, (x2[i]).f10, (x2[i]).f11, (x2[i]).f12, (x2[i]).f13⟩ (by omega) hg hn (hq _ (List.getElem_mem hlt)).1 h8 h0
        rw [hd, Option.bind_some]
        dsimp only
        rw [if_neg hn1, if_neg (by decide), tables_same k l t o g b (by omega) (by omega), Option.bind_some, if_pos rfl]
        exact ih k (i + 1) (by omega) (by omega)
    · rw [if_neg (by omega)]
      exact fences_end k (by omega) x1 x2 _ l t o g b hg
theorem fences_j0 (k : Nat) (hk : 900 ≤ k) (x1 : ByteArray) (x2 : List S31) (z : Bool) (l : List S53) (t : Int) (o : ByteArray) (g : Int) (b : Bool) (hq : ∀ y ∈ x2, Q31 y) (h : z = true ∨ (goodB l t o = true ∧ nameB x1 = true ∧ keyL l x1 = 0)) : headgatelaw11_ResvFences.j0 (k + 1) x1 x2 z l t o g b = some true := by
  rw [headgatelaw11_ResvFences.j0]
  cases z
  case true => rw [if_pos rfl, wakes_ok k (by omega)]; rfl
  obtain ⟨hg, hn, h0⟩ := h.resolve_left (by decide)
  have hl := (good_ok hg).1
  rw [if_neg (by decide), Copy_spec l t o g b (by omega), Option.bind_some]
  exact fences_l0 x1 x2 l t o g b hg hn h0 hq 30 k 0 (by omega) (by omega)
theorem ResvFences (x0 : S27) (x1 : ByteArray) (x2 : List S31) (h0 : Q27 x0) (h1 : x1.size ≤ 9223372036854775807) (h2 : (x2.length ≤ 9223372036854775807 ∧ ∀ y0 ∈ x2, Q31 y0)) : ∃ k, headgatelaw11_ResvFences.f k x0.f0 x0.f1.f0 x0.f1.f1 x0.f2 x0.f3 x1 x2 = some true := by
  refine ⟨1001, ?_⟩
  obtain ⟨z, hz, hzl⟩ := Large_spec 1001 x0.f0 x0.f1.f0 x0.f1.f1 x0.f2 x0.f3 (by decide)
  unfold headgatelaw11_ResvFences.f
  rw [hz, Option.bind_some]
  cases z
  · rw [if_neg (by decide), ref_Good_spec _ _ _ _ _ 1001 (by decide), Option.bind_some]
    cases hg : goodB x0.f0 x0.f1.f0 x0.f1.f1
    · rw [if_neg (by decide)]
      exact fences_j0 1000 (by decide) _ _ _ _ _ _ _ _ h2.2 (Or.inl rfl)
    · rw [if_pos rfl, ref_Name_spec 1001 x1 (by decide), Option.bind_some]
      cases hn : nameB x1
      · rw [if_neg (by decide)]
        exact fences_j0 1000 (by decide) _ _ _ _ _ _ _ _ h2.2 (Or.inl rfl)
      · have hl := (good_ok hg).1
        rw [if_pos rfl, refKey_spec 1001 _ _ _ _ _ x1 (by omega) (by decide), Option.bind_some]
        refine fences_j0 1000 (by decide) _ _ _ _ _ _ _ _ h2.2 ?_
        by_cases hk : keyL x0.f0 x1 = 0
        · exact Or.inr ⟨hg, hn, hk⟩
        · exact Or.inl (bne_iff_ne.mpr hk)
  · rw [if_pos rfl]
    exact fences_j0 1000 (by decide) _ _ _ _ _ _ _ _ h2.2 (Or.inl rfl)
end Go.Proofs.YtjogkfcjlljjcaaDoor.Pure
