/- The plain law ResvGoods: what its functions tell, over numbers and lists alone. -/
import Derived.Test.YtjogkfcjlljjcaaDoorXaResvGoods
import Derived.Test.YtjogkfcjlljjcaaDoorLaResvGoods
namespace Go.Proofs.YtjogkfcjlljjcaaDoor.Pure
open Go.RowKit Go.Proofs.YtjogkfcjlljjcaaDoor.P Go.Proofs.YtjogkfcjlljjcaaDoorW.PrintWords Go.Proofs.YtjogkfcjlljjcaaDoorW.PrintLast Go.Proofs.YtjogkfcjlljjcaaDoorW.PrintMore Go.Proofs.YtjogkfcjlljjcaaDoor.Num
set_option linter.unusedVariables false
set_option linter.unusedSimpArgs false

theorem tables_same (k : Nat) (l : List S53) (t : Int) (o : ByteArray) (g : Int) (b : Bool) (hl : l.length ≤ 300) (hk : 310 ≤ k) : headgatekeep_Tables.f k l t o g b l t o g b = some true := by
  obtain ⟨z, hz, hi⟩ := Tables_spec k l t o g b l t o g b hl hk
  rw [hz, hi.mpr ⟨rfl, rfl, rfl, rfl, rfl⟩]
theorem goods_j0 (k : Nat) (hk : 900 ≤ k) (l : List S53) (t : Int) (o : ByteArray) (g : Int) (b : Bool) (x1 : ByteArray) (z : Bool) (h : z = true ∨ (l.length ≤ 200 ∧ o.size ≤ 1000 ∧ ∀ x ∈ l, x.f0.size ≤ 1000)) : headgatelaw11_ResvGoods.j0 (k + 1) x1 z l t o g b = some true := by
  rw [headgatelaw11_ResvGoods.j0]
  cases z
  case true => rw [if_pos rfl, wakes_ok k (by omega)]; rfl
  obtain ⟨hl, ho, hs⟩ := h.resolve_left (by decide)
  have hgs := Good_spec l t o g b (by omega) (fun x hx => by have := hs x hx; omega)
  have hrg := ref_Good_spec l t o g b k (by omega)
  have hcp := Copy_spec l t o g b hl
  rw [if_neg (by decide), hcp, Option.bind_some]
  dsimp only
  rw [hgs, Option.bind_some, hrg, Option.bind_some, if_pos (by simp), Key_spec k l t o g b x1 (by omega) (by omega), Option.bind_some, refKey_spec k l t o g b x1 (by omega) (by omega), Option.bind_some, if_pos rfl]
  have hp : ∃ q : List S53 × Int × ByteArray × Int × Bool, resv_Power.f l t o g b = some q ∧ headgateref11_Power.f k l t o g b = some q ∧ q.1.length ≤ 200 := by
    unfold resv_Power.f headgateref11_Power.f
    rw [hgs, hrg, Option.bind_some, Option.bind_some]
    cases goodB l t o
    · exact ⟨_, rfl, rfl, Nat.zero_le _⟩
    · rw [if_pos rfl, if_pos rfl]
      cases b
      · exact ⟨_, rfl, rfl, Nat.zero_le _⟩
      · rw [if_pos rfl, if_pos rfl, hcp, show api_Reg.f l = some l by unfold api_Reg.f; rw [if_pos (by omega)]]
        exact ⟨_, rfl, rfl, hl⟩
  obtain ⟨q, h1, h2, h3⟩ := hp
  rw [h1, Option.bind_some, h2, Option.bind_some, tables_same k q.1 q.2.1 q.2.2.1 q.2.2.2.1 q.2.2.2.2 (by omega) (by omega), Option.bind_some, if_pos rfl, tables_same k l t o g b (by omega) (by omega), Option.bind_some, if_pos rfl, wakes_ok k (by omega)]
  rfl
theorem ResvGoods (x0 : S27) (x1 : ByteArray) (h0 : Q27 x0) (h1 : x1.size ≤ 9223372036854775807) : ∃ k, headgatelaw11_ResvGoods.f k x0.f0 x0.f1.f0 x0.f1.f1 x0.f2 x0.f3 x1 = some true := by
  refine ⟨1001, ?_⟩
  obtain ⟨z, hz, hzl⟩ := Large_spec 1001 x0.f0 x0.f1.f0 x0.f1.f1 x0.f2 x0.f3 (by decide)
  unfold headgatelaw11_ResvGoods.f
  rw [hz, Option.bind_some]
  cases z
  · rw [if_neg (by decide)]
    exact goods_j0 1000 (by decide) _ _ _ _ _ _ _ (Or.inr (hzl rfl))
  · rw [if_pos rfl]
    exact goods_j0 1000 (by decide) _ _ _ _ _ _ _ (Or.inl rfl)
end Go.Proofs.YtjogkfcjlljjcaaDoor.Pure
