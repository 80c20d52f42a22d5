/- The plain law ResvDoes: what its functions tell, over numbers and lists alone. -/
import Derived.Test.YtjogkfcjlljjcaaDoorBb8
import Derived.Test.YtjogkfcjlljjcaaDoorLbResvDoes
namespace Go.Proofs.YtjogkfcjlljjcaaDoor.Pure
open Go.RowKit Go.Proofs.YtjogkfcjlljjcaaDoor.P Go.Proofs.YtjogkfcjlljjcaaDoorW.PrintWords Go.Proofs.YtjogkfcjlljjcaaDoorW.PrintLast Go.Proofs.YtjogkfcjlljjcaaDoorW.PrintMore Go.Proofs.YtjogkfcjlljjcaaDoor.Num
set_option linter.unusedVariables false
set_option linter.unusedSimpArgs false

theorem tables_eq (k : Nat) (l : List S53) (t : Int) (o : ByteArray) (g : Int) (b : Bool) (hl : l.length ≤ 300) (hk : 310 ≤ k) : headgatekeep_Tables.f k l t o g b l t o g b = some true := by
  obtain ⟨z, hz, hi⟩ := Tables_spec k l t o g b l t o g b hl hk
  rw [hz, hi.mpr ⟨rfl, rfl, rfl, rfl, rfl⟩]
theorem Events_l0 (l : List S46) (hl : l.length ≤ 300) : ∀ (d k i : Nat), i + d = l.length → d + 1 ≤ k → headgateref11_Events.l0 k l l (i : Int) = some true
  | 0, k + 1, i, hi, hk => by rw [headgateref11_Events.l0, if_neg (by omega)]
  | d + 1, k + 1, i, hi, hk => by
    rw [headgateref11_Events.l0, if_pos (by omega), if_pos (by omega), if_pos (by omega), if_pos rfl, if_pos rfl, w64 (by omega) (by omega)]
    exact Events_l0 l hl d k (i + 1) (by omega) (by omega)
theorem Events_same (k : Nat) (l : List S46) (hl : l.length ≤ 300) (hk : 310 ≤ k) : headgateref11_Events.f k l l = some true := by
  unfold headgateref11_Events.f
  rw [if_pos rfl]
  exact Events_l0 l hl l.length k 0 (by omega) (by omega)
theorem keeps_len {l : List S53} {typ : Int} {host : ByteArray} {gen : Int} {apt : Bool} {c : S31} {r : List S53 × Int × ByteArray × Int × Bool × List S46 × Int} (hl : l.length ≤ 200) (h : Keeps l typ host gen apt c r) : r.1.length ≤ 200 ∧ r.2.2.2.2.2.1.length ≤ 200 := by
  obtain ⟨h1, h2, h3, h4⟩ := h
  by_cases hc : r.2.2.2.2.2.2 = 1
  · have := (good_ok (h2 hc).2.1).1
    omega
  · obtain ⟨e1, _⟩ := h1 hc
    rw [e1]
    omega
theorem does_j0 (k : Nat) (hk : 1000 ≤ k) (z : Bool) (l : List S53) (t : Int) (o : ByteArray) (g : Int) (b : Bool) (c : S31) (hw : (Lit.int .i64 c.f0).wf = true) (h : z = true ∨ (l.length ≤ 200 ∧ o.size ≤ 1000 ∧ ∀ x ∈ l, x.f0.size ≤ 1000)) :
    headgatelaw11_ResvDoes.j0 (k + 1) z l t o g b c.f0 c.f1 c.f2 c.f3 c.f4 c.f5 c.f6 c.f7 c.f8 c.f9 c.f10 c.f11 c.f12 c.f13 = some true := by
  rw [headgatelaw11_ResvDoes.j0]
  cases z
  case true => rw [if_pos rfl, wakes_ok k (by omega)]; rfl
  obtain ⟨hl, ho, hs⟩ := h.resolve_left (by decide)
  rw [if_neg (by decide), Copy_spec l t o g b hl, Option.bind_some]
  dsimp only
  obtain ⟨r, hr, hK⟩ := do_keeps k l t o g b c (by omega) (by omega) (fun x hx => by have := hs x hx; omega) hw
  have hD : resv_Do.f k l t o g b c.f0 c.f1 c.f2 c.f3 c.f4 c.f5 c.f6 c.f7 c.f8 c.f9 c.f10 c.f11 c.f12 c.f13 = some r := hr
  have hR : headgateref11_Do.f k l t o g b c.f0 c.f1 c.f2 c.f3 c.f4 c.f5 c.f6 c.f7 c.f8 c.f9 c.f10 c.f11 c.f12 c.f13 = some r := (do_same_ref k (by omega) l t o g b c hl (by omega) (fun x hx => by have := hs x hx; omega) hw).trans hr
  obtain ⟨n1, n2⟩ := keeps_len hl hK
  rw [hD, Option.bind_some, hR, Option.bind_some, if_pos rfl, tables_eq k r.1 _ _ _ _ (by omega) (by omega), Option.bind_some, if_pos rfl, Events_same k _ (by omega) (by omega), Option.bind_some, if_pos rfl, tables_eq k l t o g b (by omega) (by omega), Option.bind_some, if_pos rfl, wakes_ok k (by omega)]
  rfl
theorem ResvDoes (x0 : S27) (x1 : S31) (h0 : Q27 x0) (h1 : Q31 x1) : ∃ k, headgatelaw11_ResvDoes.f k x0.f0 x0.f1.f0 x0.f1.f1 x0.f2 x0.f3 x1.f0 x1.f1 x1.f2 x1.f3 x1.f4 x1.f5 x1.f6 x1.f7 x1.f8 x1.f9 x1.f10 x1.f11 x1.f12 x1.f13 = some true := by
  refine ⟨1101, ?_⟩
  obtain ⟨z, hz, hzl⟩ := Large_spec 1101 x0.f0 x0.f1.f0 x0.f1.f1 x0.f2 x0.f3 (by decide)
  unfold headgatelaw11_ResvDoes.f headgatelaw11_large.f
  rw [hz, Option.bind_some, Option.bind_some]
  cases z
  · rw [if_neg (by decide)]
    exact does_j0 1100 (by decide) _ _ _ _ _ _ _ h1.1 (Or.inr (hzl rfl))
  · rw [if_pos rfl]
    exact does_j0 1100 (by decide) _ _ _ _ _ _ _ h1.1 (Or.inl rfl)
end Go.Proofs.YtjogkfcjlljjcaaDoor.Pure
