/- The plain law ResvPlays: what its functions tell, over numbers and lists alone. -/
import Derived.Test.YtjogkfcjlljjcaaDoorBc8
import Derived.Test.YtjogkfcjlljjcaaDoorLcResvPlaysb
namespace Go.Proofs.YtjogkfcjlljjcaaDoor.Pure
open Go.RowKit Go.Proofs.YtjogkfcjlljjcaaDoor.P Go.Proofs.YtjogkfcjlljjcaaDoorW.PrintWords Go.Proofs.YtjogkfcjlljjcaaDoorW.PrintLast Go.Proofs.YtjogkfcjlljjcaaDoorW.PrintMore Go.Proofs.YtjogkfcjlljjcaaDoor.Num
set_option linter.unusedVariables false
set_option linter.unusedSimpArgs false

theorem tables_eq (k : Nat) (l : List S53) (t : Int) (o : ByteArray) (g : Int) (b : Bool) (hl : l.length ≤ 300) (hk : 310 ≤ k) : headgatekeep_Tables.f k l t o g b l t o g b = some true := by
  obtain ⟨z, hz, hi⟩ := Tables_spec k l t o g b l t o g b hl hk
  rw [hz, hi.mpr ⟨rfl, rfl, rfl, rfl, rfl⟩]
theorem Events_l0 (l : List S46) (hl : l.length ≤ 300) : ∀ (d k i : Nat), i + d = l.length → d + 1 ≤ k → headgateref11_Events.l0 k l l (i : Int) = some true
  | 0, k + 1, i, hi, hk => by rw [headgateref11_Events.l0, if_neg (by omega)]
  | d + 1, k + 1, i, hi, hk => by
    rw [headgateref11_Events.l0, if_pos (by omega), if_pos (by omega), if_pos (by omega), if_pos rfl, if_pos rfl, w64 (by omega) (by omega)]
    exact Events_l0 l hl d k (i + 1) (by omega) (by omega)
theorem Events_same (k : Nat) (l : List S46) (hl : l.length ≤ 300) (hk : 310 ≤ k) : headgateref11_Events.f k l l = some true := by
  unfold headgateref11_Events.f
  rw [if_pos rfl]
  exact Events_l0 l hl l.length k 0 (by omega) (by omega)
theorem good_small {l : List S53} {typ : Int} {host : ByteArray} (h : goodB l typ host = true) : l.length ≤ 16 ∧ host.size ≤ 64 ∧ ∀ x ∈ l, x.f0.size ≤ 64 := by
  obtain ⟨h1, h2, h3⟩ := good_ok h
  have hn : ∀ x ∈ l, x.f0.size ≤ 64 := fun x hx => (name_size (h2.2 x hx).1).2
  refine ⟨h1, ?_, hn⟩
  rcases (hold_iff l typ host).mp h3 with ⟨_, e⟩ | ⟨_, _, e⟩ | ⟨_, e⟩
  · rw [e]; decide
  · obtain ⟨x, hx, e⟩ := (reg_iff l host).mp e
    rw [← e]
    exact hn x hx
  · rw [e.1]; decide
theorem keeps_good {l : List S53} {typ : Int} {host : ByteArray} {gen : Int} {apt : Bool} {c : S31} {r : List S53 × Int × ByteArray × Int × Bool × List S46 × Int} (hg : goodB l typ host = true) (h : Keeps l typ host gen apt c r) : goodB r.1 r.2.1 r.2.2.1 = true := by
  by_cases hc : r.2.2.2.2.2.2 = 1
  · exact (h.2.1 hc).2.1
  · obtain ⟨e1, e2, e3, _⟩ := h.1 hc
    rw [e1, e2, e3]
    exact hg
theorem plays_l0 (x0 : List S31) (hq : ∀ c ∈ x0, (Lit.int .i64 c.f0).wf = true) : ∀ (d k i : Nat) (l : List S53) (t : Int) (o : ByteArray) (g : Int) (b : Bool), i + d = 60 → 2 * d + 1002 ≤ k → goodB l t o = true → headgatelaw11_ResvPlays.l0 k x0 (i : Int) l t o g b l t o g b = some true
  | d, 0, i, l, t, o, g, b, hi, hk, hg => by omega
  | d, 1, i, l, t, o, g, b, hi, hk, hg => by omega
  | d, k + 2, i, l, t, o, g, b, hi, hk, hg => by
    have hw0 : headgatelaw11_ResvPlays.j1 (k + 1) x0 (i : Int) false l t o g b l t o g b = some true := by
      rw [headgatelaw11_ResvPlays.j1, if_neg (by decide), wakes_ok k (by omega)]
      rfl
    rw [headgatelaw11_ResvPlays.l0]
    by_cases hlt : (i : Int) < (x0.length : Int)
    case neg => rw [if_neg hlt]; exact hw0
    rw [if_pos hlt]
    by_cases h60 : (i : Int) < 60
    case neg => rw [decide_eq_false h60]; exact hw0
    rw [decide_eq_true h60, headgatelaw11_ResvPlays.j1, if_pos rfl, if_pos (by omega), if_pos hlt]
    have hcm : rd_T31 x0 (i : Int) ∈ x0 := by
      unfold rd_T31
      have hn : i < x0.length := by omega
      rw [Int.toNat_natCast, List.getD_eq_getElem?_getD, List.getElem?_eq_getElem hn]
      exact List.getElem_mem hn
    have hw := hq _ hcm
    generalize rd_T31 x0 (i : Int) = c at hw ⊢
    unfold headgatelaw11_large.f
    rw [Option.bind_some]
    split
    · rw [wakes_ok k (by omega)]; rfl
    obtain ⟨s1, s2, s3⟩ := good_small hg
    have s3' : ∀ x ∈ l, x.f0.size ≤ 5000 := fun x hx => by have := s3 x hx; omega
    obtain ⟨r, hr, hK⟩ := do_keeps k l t o g b c (by omega) (by omega) s3' hw
    have hD : resv_Do.f k l t o g b c.f0 c.f1 c.f2 c.f3 c.f4 c.f5 c.f6 c.f7 c.f8 c.f9 c.f10 c.f11 c.f12 c.f13 = some r := hr
    have hR : headgateref11_Do.f k l t o g b c.f0 c.f1 c.f2 c.f3 c.f4 c.f5 c.f6 c.f7 c.f8 c.f9 c.f10 c.f11 c.f12 c.f13 = some r := (do_same_ref k (by omega) l t o g b c (by omega) (by omega) s3' hw).trans hr
    have hg2 := keeps_good hg hK
    obtain ⟨n1, n2, n3⟩ := good_small hg2
    have n4 := hK.2.2.2
    rw [hD, Option.bind_some, hR, Option.bind_some, if_pos rfl, tables_eq k r.1 _ _ _ _ (by omega) (by omega), Option.bind_some, if_pos rfl, Events_same k _ (by omega) (by omega), Option.bind_some, if_pos rfl, Good_spec _ _ _ _ _ (by omega) (fun x hx => by have := n3 x hx; omega), hg2, Option.bind_some, if_pos rfl, w64 (by omega) (by omega)]
    cases d with
    | zero => omega
    | succ d => exact plays_l0 x0 hq d k (i + 1) _ _ _ _ _ (by omega) (by omega) hg2
theorem good_none : goodB [] 0 (⟨#[]⟩ : ByteArray) = true := by
  unfold goodB
  rw [if_neg (by decide), if_pos (show okAll_ [] from fun i hi => absurd hi (Nat.not_lt_zero i))]
  exact (hold_iff _ _ _).mpr (Or.inl ⟨rfl, rfl⟩)
theorem ResvPlays (x0 : List S31) (h0 : (x0.length ≤ 9223372036854775807 ∧ ∀ y0 ∈ x0, Q31 y0)) : ∃ k, headgatelaw11_ResvPlays.f k x0 = some true := by
  refine ⟨1200, ?_⟩
  unfold headgatelaw11_ResvPlays.f
  exact plays_l0 x0 (fun c hc => (h0.2 c hc).1) 60 1200 0 [] 0 (⟨#[]⟩ : ByteArray) 0 false (by decide) (by decide) good_none
end Go.Proofs.YtjogkfcjlljjcaaDoor.Pure
