/- The plain law ResvClears: what its functions tell, over numbers and lists alone. -/
import Derived.Test.YtjogkfcjlljjcaaDoorXaResvClears
import Derived.Test.YtjogkfcjlljjcaaDoorLaResvClears
namespace Go.Proofs.YtjogkfcjlljjcaaDoor.Pure
open Go.RowKit Go.Proofs.YtjogkfcjlljjcaaDoor.P Go.Proofs.YtjogkfcjlljjcaaDoorW.PrintWords Go.Proofs.YtjogkfcjlljjcaaDoorW.PrintLast Go.Proofs.YtjogkfcjlljjcaaDoorW.PrintMore Go.Proofs.YtjogkfcjlljjcaaDoor.Num
set_option linter.unusedVariables false
set_option linter.unusedSimpArgs false

theorem tables_same (k : Nat) (l : List S53) (t : Int) (o : ByteArray) (g : Int) (b : Bool) (hl : l.length ≤ 300) (hk : 310 ≤ k) : headgatekeep_Tables.f k l t o g b l t o g b = some true := by
  obtain ⟨z, hz, hi⟩ := Tables_spec k l t o g b l t o g b hl hk
  rw [hz, hi.mpr ⟨rfl, rfl, rfl, rfl, rfl⟩]
theorem others_length {l : List S53} (ho : okL l) {h : ByteArray} (hr : reg l h = true) : (l.filter fun x => !decide (x.f0 = h)).length + 1 = l.length := by
  induction l with
  | nil => exact absurd (reg_pos hr) (Nat.not_lt_zero _)
  | cons y l ih =>
    have hp := List.pairwise_cons.mp ho.1
    have ho2 : okL l := ⟨hp.2, fun x hx => ho.2 x (List.mem_cons_of_mem _ hx)⟩
    by_cases e : y.f0 = h
    · have hf : (l.filter fun x => !decide (x.f0 = h)) = l := by
        rw [List.filter_eq_self]
        intro x hx
        have := hp.1 x hx
        rw [e] at this
        rw [decide_eq_false (fun z => this z.symm)]
        rfl
      rw [List.filter_cons_of_neg (by rw [decide_eq_true e]; decide), hf]
      rfl
    · have hr2 : reg l h = true := by
        obtain ⟨x, hx, he⟩ := (reg_iff _ _).mp hr
        rcases List.mem_cons.mp hx with rfl | hx
        · exact absurd he e
        · exact (reg_iff _ _).mpr ⟨x, hx, he⟩
      rw [List.filter_cons_of_pos (by rw [decide_eq_false e]; rfl), List.length_cons, List.length_cons]
      have := ih ho2 hr2
      omega
theorem told_others {l : List S53} (ho : okL l) {c : S31} (hr : reg l c.f2 = true) (why : Int) : (told c (fun _ _ => true) why l l.length).length + 1 = l.length := by
  have e := others_length ho hr
  unfold told
  rw [List.length_map, List.take_length]
  simp only [tl_beq, Bool.and_true]
  exact e
theorem good_nil : goodB [] 0 (⟨#[]⟩ : ByteArray) = true := good_mk (Nat.zero_le _) ⟨List.Pairwise.nil, fun x hx => (List.not_mem_nil hx).elim⟩ ((hold_iff _ _ _).mpr (Or.inl ⟨rfl, rfl⟩))
theorem mod6 (x : Int) : ∃ m, headgatekeep_Mod.f x 6 = some m ∧ 0 ≤ m ∧ m < 6 := by
  unfold headgatekeep_Mod.f
  rw [if_neg (by decide), if_neg (by decide)]
  refine ⟨_, rfl, ?_⟩
  have h1 : -6 < Int.tmod x 6 ∧ Int.tmod x 6 < 6 := by
    constructor
    · exact Int.neg_lt_of_neg_lt (by have := Int.tmod_lt_of_pos (-x) (show (0 : Int) < 6 by decide); rw [Int.neg_tmod] at this; omega)
    · exact Int.tmod_lt_of_pos x (by decide)
  rw [w64 (by omega) (by omega)]
  have h2 : 0 ≤ Int.tmod x 6 + 6 := by omega
  rw [Int.tmod_eq_emod_of_nonneg h2]
  omega
theorem clears_j1 (k : Nat) (hk : 900 ≤ k) (x1 : ByteArray) (x2 key : Int) (g : Int) (b : Bool) (hn : nameB x1 = true) (h0 : key ≠ 0) : headgatelaw11_ResvClears.j1 (k + 1) x1 x2 key false [] 0 (⟨#[]⟩ : ByteArray) g b = some true := by
  rw [headgatelaw11_ResvClears.j1, if_neg (by decide)]
  obtain ⟨m, hm, m0, m6⟩ := mod6 x2
  rw [hm, Option.bind_some]
  obtain ⟨ty, hty⟩ : ∃ ty, ty = wrap64 (1 + m) := ⟨_, rfl⟩
  have hty2 : 1 ≤ ty ∧ ty ≤ 6 := by rw [hty, w64 (by omega) (by omega)]; omega
  rw [← hty]
  have hone : okL [(⟨x1, key⟩ : S53)] := ⟨List.pairwise_singleton _ _, fun x hx => by rw [List.mem_singleton.mp hx]; exact ⟨hn, h0⟩⟩
  have hreg : reg [(⟨x1, key⟩ : S53)] x1 = true := (reg_iff _ _).mpr ⟨_, List.mem_singleton_self _, rfl⟩
  have hgood : goodB [(⟨x1, key⟩ : S53)] 0 (⟨#[]⟩ : ByteArray) = true := good_mk (show 1 ≤ 16 by decide) hone ((hold_iff _ _ _).mpr (Or.inl ⟨rfl, rfl⟩))
  have h201 : [(⟨x1, key⟩ : S53)].length ≤ 201 := by simp
  have hkey : keyL [(⟨x1, key⟩ : S53)] x1 = key := keyL_mem hone (List.mem_singleton_self _)
  have hkn : keyL ([] : List S53) x1 = 0 := keyL_none rfl
  have d1 : resv_Do.f k [] 0 (⟨#[]⟩ : ByteArray) g b 8 0 x1 0 0 (⟨#[]⟩ : ByteArray) false ([] : List S100) 0 key 0 0 false 0 = some ([(⟨x1, key⟩ : S53)], 0, (⟨#[]⟩ : ByteArray), (g + 1) % 4294967296, b, [], 1) := by
    unfold resv_Do.f
    rw [do_good k [] 0 (⟨#[]⟩ : ByteArray) g b _ (by omega) good_nil hn (show (Lit.int .i64 8).wf = true by decide) (show (8 : Int) ≤ 8 ∧ (8 : Int) ≤ 12 by decide), if_pos rfl, reg_eq _ _ _ _ _ _ _ ⟨List.Pairwise.nil, fun x hx => (List.not_mem_nil hx).elim⟩]
    dsimp only
    rw [hkn, if_neg (by decide), if_neg h0, if_pos rfl, if_neg (by decide)]
    unfold aptP
    rfl
  have d2 : resv_Do.f k [(⟨x1, key⟩ : S53)] 0 (⟨#[]⟩ : ByteArray) ((g + 1) % 4294967296) b 9 0 x1 0 0 (⟨#[]⟩ : ByteArray) false ([] : List S100) key 0 0 ty false 0 = some ([(⟨x1, key⟩ : S53)], ty, (if ty = 5 ∨ ty = 6 then (⟨#[]⟩ : ByteArray) else x1), (g + 1) % 4294967296, b, [], 1) := by
    unfold resv_Do.f
    rw [do_good k _ 0 (⟨#[]⟩ : ByteArray) _ b _ (by omega) hgood hn (show (Lit.int .i64 9).wf = true by decide) (show (8 : Int) ≤ 9 ∧ (9 : Int) ≤ 12 by decide), if_neg (show ¬ (9 : Int) = 8 by decide), if_pos rfl, rsv_eq k _ _ _ _ _ _ _ (by omega) h201]
    dsimp only
    rw [hkey]
    have hasks : asksP key ⟨9, 0, x1, 0, 0, (⟨#[]⟩ : ByteArray), false, [], key, 0, 0, ty, false, 0⟩ = true := by
      unfold asksP
      rw [bne_iff_ne.mpr h0]
      simp
    rw [show typed ty = true from decide_eq_true hty2, if_neg (by decide), hasks, if_neg (by decide), if_pos rfl]
    rfl
  rw [d1, Option.bind_some]
  dsimp only
  rw [d2, Option.bind_some]
  dsimp only
  have hh : holds [(⟨x1, key⟩ : S53)] ty (if ty = 5 ∨ ty = 6 then (⟨#[]⟩ : ByteArray) else x1) x1 = true := by
    unfold holds
    rw [if_pos (show typed ty = true from decide_eq_true hty2)]
    by_cases h5 : ty = 5 ∨ ty = 6
    · rw [if_pos h5]
      exact hreg
    · rw [if_neg h5, if_neg h5]
      exact decide_eq_true rfl
  rw [if_pos rfl, if_pos rfl, Holds_spec k _ _ _ _ _ _ h201 (by omega), Option.bind_some, hh, if_pos rfl, if_pos rfl, May_spec k _ _ _ _ _ _ _ h201 (by omega), Option.bind_some]
  have hm : may [(⟨x1, key⟩ : S53)] ty (if ty = 5 ∨ ty = 6 then (⟨#[]⟩ : ByteArray) else x1) x1 3 = true := by
    unfold may
    rw [if_pos (show typed ty = true from decide_eq_true hty2), if_neg (by decide), if_pos (by decide), hh]
    rfl
  rw [hm, if_pos rfl, wakes_ok k (by omega)]
  rfl
theorem clears_j0 (k : Nat) (hk : 1000 ≤ k) (x1 : ByteArray) (x2 : Int) (z : Bool) (l : List S53) (t : Int) (o : ByteArray) (g : Int) (b : Bool) (h : z = true ∨ (goodB l t o = true ∧ nameB x1 = true ∧ keyL l x1 ≠ 0)) : headgatelaw11_ResvClears.j0 (k + 1) x1 x2 z l t o g b = some true := by
  rw [headgatelaw11_ResvClears.j0]
  cases z
  case true => rw [if_pos rfl, wakes_ok k (by omega)]; rfl
  obtain ⟨hg, hn, h0⟩ := h.resolve_left (by decide)
  obtain ⟨hl, hok, _⟩ := good_ok hg
  rw [if_neg (by decide), refKey_spec k l t o g b x1 (by omega) (by omega), Option.bind_some, Copy_spec l t o g b (by omega), Option.bind_some]
  dsimp only
  have hr : reg l x1 = true := by
    cases hr : reg l x1 with
    | true => rfl
    | false => exact absurd (keyL_none hr) h0
  unfold resv_Do.f
  rw [do_good k l t o g b _ (by omega) hg hn (show (Lit.int .i64 11).wf = true by decide) (show (8 : Int) ≤ 11 ∧ (11 : Int) ≤ 12 by decide), if_neg (show ¬ (11 : Int) = 8 by decide), if_neg (show ¬ (11 : Int) = 9 by decide), if_neg (show ¬ (11 : Int) = 10 by decide), if_pos rfl]
  unfold do_clr
  dsimp only
  have hasks : asksP (keyL l x1) ⟨11, 0, x1, 0, 0, (⟨#[]⟩ : ByteArray), false, [], keyL l x1, 0, 0, 0, false, 0⟩ = true := by
    unfold asksP
    rw [bne_iff_ne.mpr h0]
    simp
  have ht := told_others hok (c := ⟨11, 0, x1, 0, 0, (⟨#[]⟩ : ByteArray), false, [], keyL l x1, 0, 0, 0, false, 0⟩) hr 4
  rw [hasks, if_neg (by decide), Option.bind_some]
  dsimp only
  rw [if_pos rfl, if_pos (show ((([] : List S53).length : Int) = 0) from rfl), if_pos rfl, if_pos (by rw [w64 (by omega) (by omega)]; omega), if_pos rfl, show (b != b) = false by simp]
  obtain ⟨k, rfl⟩ : ∃ m, k = m + 1 := ⟨k - 1, by omega⟩
  exact clears_j1 k (by omega) x1 x2 _ _ b hn h0
theorem ResvClears (x0 : S27) (x1 : ByteArray) (x2 : Int) (h0 : Q27 x0) (h1 : x1.size ≤ 9223372036854775807) (h2 : (Lit.int .i64 x2).wf = true) : ∃ k, headgatelaw11_ResvClears.f k x0.f0 x0.f1.f0 x0.f1.f1 x0.f2 x0.f3 x1 x2 = some true := by
  refine ⟨1101, ?_⟩
  obtain ⟨z, hz, hzl⟩ := Large_spec 1101 x0.f0 x0.f1.f0 x0.f1.f1 x0.f2 x0.f3 (by decide)
  unfold headgatelaw11_ResvClears.f
  rw [hz, Option.bind_some]
  cases z
  · rw [if_neg (by decide), ref_Good_spec _ _ _ _ _ 1101 (by decide), Option.bind_some]
    cases hg : goodB x0.f0 x0.f1.f0 x0.f1.f1
    · rw [if_neg (by decide)]
      exact clears_j0 1100 (by decide) _ _ _ _ _ _ _ _ (Or.inl rfl)
    · rw [if_pos rfl, ref_Name_spec 1101 x1 (by decide), Option.bind_some]
      cases hn : nameB x1
      · rw [if_neg (by decide)]
        exact clears_j0 1100 (by decide) _ _ _ _ _ _ _ _ (Or.inl rfl)
      · have hl := (good_ok hg).1
        rw [if_pos rfl, refKey_spec 1101 _ _ _ _ _ x1 (by omega) (by decide), Option.bind_some]
        refine clears_j0 1100 (by decide) _ _ _ _ _ _ _ _ ?_
        by_cases hk : keyL x0.f0 x1 = 0
        · exact Or.inl (beq_iff_eq.mpr hk)
        · exact Or.inr ⟨hg, hn, hk⟩
  · rw [if_pos rfl]
    exact clears_j0 1100 (by decide) _ _ _ _ _ _ _ _ (Or.inl rfl)
end Go.Proofs.YtjogkfcjlljjcaaDoor.Pure
