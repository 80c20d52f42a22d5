/- The plain law ResvTwice: what its functions tell, over numbers and lists alone. -/
import Derived.Test.YtjogkfcjlljjcaaDoorXaResvTwice
import Derived.Test.YtjogkfcjlljjcaaDoorLaResvTwice
namespace Go.Proofs.YtjogkfcjlljjcaaDoor.Pure
open Go.RowKit Go.Proofs.YtjogkfcjlljjcaaDoor.P Go.Proofs.YtjogkfcjlljjcaaDoorW.PrintWords Go.Proofs.YtjogkfcjlljjcaaDoorW.PrintLast Go.Proofs.YtjogkfcjlljjcaaDoorW.PrintMore Go.Proofs.YtjogkfcjlljjcaaDoor.Num
set_option linter.unusedVariables false
set_option linter.unusedSimpArgs false

theorem tables_same (k : Nat) (l : List S53) (t : Int) (o : ByteArray) (g : Int) (b : Bool) (hl : l.length ≤ 300) (hk : 310 ≤ k) : headgatekeep_Tables.f k l t o g b l t o g b = some true := by
  obtain ⟨z, hz, hi⟩ := Tables_spec k l t o g b l t o g b hl hk
  rw [hz, hi.mpr ⟨rfl, rfl, rfl, rfl, rfl⟩]
theorem others_length {l : List S53} (ho : okL l) {h : ByteArray} (hr : reg l h = true) : (l.filter fun x => !decide (x.f0 = h)).length + 1 = l.length := by
  induction l with
  | nil => exact absurd (reg_pos hr) (Nat.not_lt_zero _)
  | cons y l ih =>
    have hp := List.pairwise_cons.mp ho.1
    have ho2 : okL l := ⟨hp.2, fun x hx => ho.2 x (List.mem_cons_of_mem _ hx)⟩
    by_cases e : y.f0 = h
    · have hf : (l.filter fun x => !decide (x.f0 = h)) = l := by
        rw [List.filter_eq_self]
        intro x hx
        have := hp.1 x hx
        rw [e] at this
        rw [decide_eq_false (fun z => this z.symm)]
        rfl
      rw [List.filter_cons_of_neg (by rw [decide_eq_true e]; decide), hf]
      rfl
    · have hr2 : reg l h = true := by
        obtain ⟨x, hx, he⟩ := (reg_iff _ _).mp hr
        rcases List.mem_cons.mp hx with rfl | hx
        · exact absurd he e
        · exact (reg_iff _ _).mpr ⟨x, hx, he⟩
      rw [List.filter_cons_of_pos (by rw [decide_eq_false e]; rfl), List.length_cons, List.length_cons]
      have := ih ho2 hr2
      omega
theorem told_others {l : List S53} (ho : okL l) {c : S31} (hr : reg l c.f2 = true) (why : Int) : (told c (fun _ _ => true) why l l.length).length + 1 = l.length := by
  have e := others_length ho hr
  unfold told
  rw [List.length_map, List.take_length]
  simp only [tl_beq, Bool.and_true]
  exact e
theorem mod6 (x : Int) : ∃ m, headgatekeep_Mod.f x 6 = some m ∧ 0 ≤ m ∧ m < 6 := by
  unfold headgatekeep_Mod.f
  rw [if_neg (by decide), if_neg (by decide)]
  refine ⟨_, rfl, ?_⟩
  have h1 : -6 < Int.tmod x 6 ∧ Int.tmod x 6 < 6 := by
    constructor
    · exact Int.neg_lt_of_neg_lt (by have := Int.tmod_lt_of_pos (-x) (show (0 : Int) < 6 by decide); rw [Int.neg_tmod] at this; omega)
    · exact Int.tmod_lt_of_pos x (by decide)
  rw [w64 (by omega) (by omega)]
  have h2 : 0 ≤ Int.tmod x 6 + 6 := by omega
  rw [Int.tmod_eq_emod_of_nonneg h2]
  omega
theorem twice_j2 (k : Nat) (hk : 600 ≤ k) (ev : List S46) (n : Int) (l : List S53) (t : Int) (o : ByteArray) (g : Int) (b : Bool) (hl : l.length ≤ 16) (hn : (ev.length : Int) = n) : headgatelaw11_ResvTwice.j2 (k + 1) ev 1 n l t o g b l t o g b = some true := by
  rw [headgatelaw11_ResvTwice.j2, if_pos rfl, tables_same k l t o g b (by omega) (by omega), Option.bind_some, if_pos rfl, if_pos hn, wakes_ok k (by omega)]
  rfl
theorem twice_j0 (k : Nat) (hk : 1100 ≤ k) (x1 : ByteArray) (x2 : Int) (z : Bool) (l : List S53) (t : Int) (o : ByteArray) (g : Int) (b : Bool) (h : z = true ∨ (goodB l t o = true ∧ keyL l x1 ≠ 0 ∧ t = 0)) : headgatelaw11_ResvTwice.j0 (k + 1 + 1 + 1) x1 x2 z l t o g b = some true := by
  rw [headgatelaw11_ResvTwice.j0]
  cases z
  case true => rw [if_pos rfl, wakes_ok (k + 1 + 1) (by omega)]; rfl
  obtain ⟨hg, h0, rfl⟩ := h.resolve_left (by decide)
  obtain ⟨hl, hok, hho⟩ := good_ok hg
  have ho : o = (⟨#[]⟩ : ByteArray) := by
    rcases (hold_iff _ _ _).mp hho with z | z | z
    · exact z.2
    · exact absurd z.1 (by decide)
    · rcases z.1 with q | q <;> exact absurd q (by decide)
  subst ho
  have hr : reg l x1 = true := by
    cases hr : reg l x1 with
    | true => rfl
    | false => exact absurd (keyL_none hr) h0
  have hn : nameB x1 = true := by
    obtain ⟨x, hx, rfl⟩ := (reg_iff _ _).mp hr
    exact (hok.2 x hx).1
  obtain ⟨m, hm, m0, m6⟩ := mod6 x2
  obtain ⟨ty, hty⟩ : ∃ ty, ty = wrap64 (1 + m) := ⟨_, rfl⟩
  have hty2 : 1 ≤ ty ∧ ty ≤ 6 := by rw [hty, w64 (by omega) (by omega)]; omega
  rw [if_neg (by decide), refKey_spec (k + 1 + 1) l 0 _ g b x1 (by omega) (by omega), Option.bind_some, hm, Option.bind_some, Copy_spec l 0 _ g b (by omega), Option.bind_some, ← hty]
  dsimp only
  obtain ⟨c, hc⟩ : ∃ c : S31, c = ⟨9, 0, x1, 0, 0, (⟨#[]⟩ : ByteArray), false, [], keyL l x1, 0, 0, ty, false, 0⟩ := ⟨_, rfl⟩
  obtain ⟨c2, hc2⟩ : ∃ c2 : S31, c2 = ⟨10, 0, x1, 0, 0, (⟨#[]⟩ : ByteArray), false, [], keyL l x1, 0, 0, ty, false, 0⟩ := ⟨_, rfl⟩
  have e2 : c.f2 = x1 := by rw [hc]
  have e0 : c.f0 = 9 := by rw [hc]
  have e11 : c.f11 = ty := by rw [hc]
  have hasks : asksP (keyL l c.f2) c = true := by
    unfold asksP
    rw [e2, show c.f8 = keyL l x1 by rw [hc], bne_iff_ne.mpr h0]
    simp
  have f2 : c2.f2 = x1 := by rw [hc2]
  have f0 : c2.f0 = 10 := by rw [hc2]
  have f11 : c2.f11 = ty := by rw [hc2]
  have hasks2 : asksP (keyL l c2.f2) c2 = true := by
    unfold asksP
    rw [f2, show c2.f8 = keyL l x1 by rw [hc2], bne_iff_ne.mpr h0]
    simp
  have htt : typed ty = true := decide_eq_true hty2
  obtain ⟨o2, ho2⟩ : ∃ o2, o2 = takenBy c := ⟨_, rfl⟩
  have htk := taken_ok (l := l) (c := c) (by rw [e11]; exact htt) (by rw [e2]; exact hr)
  rw [e11, ← ho2] at htk
  have hg2 : goodB l ty o2 = true := good_mk hl hok htk
  have hh : holds l ty o2 x1 = true := by
    unfold holds
    rw [htt, if_pos rfl, ho2]
    unfold takenBy
    rw [e11, e2]
    by_cases h5 : ty = 5 ∨ ty = 6
    · rw [if_pos h5, hr]
    · rw [if_neg h5, if_neg h5]
      exact decide_eq_true rfl
  have d1 : ∀ K, 300 ≤ K → resv_Do.f K l 0 (⟨#[]⟩ : ByteArray) g b 9 0 x1 0 0 (⟨#[]⟩ : ByteArray) false ([] : List S100) (keyL l x1) 0 0 ty false 0 = some (l, ty, o2, g, b, [], 1) := by
    intro K hK
    have hD : resv_Do.f K l 0 (⟨#[]⟩ : ByteArray) g b 9 0 x1 0 0 (⟨#[]⟩ : ByteArray) false ([] : List S100) (keyL l x1) 0 0 ty false 0 = do_f K l 0 (⟨#[]⟩ : ByteArray) g b c := by rw [hc]; rfl
    rw [hD, do_good K l 0 _ g b c (by omega) hg (by rw [e2]; exact hn) (by rw [e0]; decide) (by rw [e0]; decide), e0, if_neg (by decide), if_pos rfl, rsv_eq K l 0 _ g b c _ (by omega) (by omega), hasks, e11, htt, if_neg (by decide), if_neg (by decide), if_pos rfl, ho2]
  have d2 : ∀ K, 300 ≤ K → resv_Do.f K l ty o2 g b 9 0 x1 0 0 (⟨#[]⟩ : ByteArray) false ([] : List S100) (keyL l x1) 0 0 ty false 0 = some (l, ty, o2, g, b, [], 1) := by
    intro K hK
    have hD : resv_Do.f K l ty o2 g b 9 0 x1 0 0 (⟨#[]⟩ : ByteArray) false ([] : List S100) (keyL l x1) 0 0 ty false 0 = do_f K l ty o2 g b c := by rw [hc]; rfl
    rw [hD, do_good K l ty o2 g b c (by omega) hg2 (by rw [e2]; exact hn) (by rw [e0]; decide) (by rw [e0]; decide), e0, if_neg (by decide), if_pos rfl, rsv_eq K l ty o2 g b c _ (by omega) (by omega), hasks, e11, htt, if_neg (by decide), if_neg (by decide), if_neg (by omega), e2, hh, if_pos (by simp)]
    rfl
  have d3 : ∀ K, 300 ≤ K → resv_Do.f K l ty o2 g b 10 0 x1 0 0 (⟨#[]⟩ : ByteArray) false ([] : List S100) (keyL l x1) 0 0 ty false 0 = some (l, 0, (⟨#[]⟩ : ByteArray), g, b, (if silent ty = true then [] else told c2 (fun _ _ => true) 3 l l.length), 1) := by
    intro K hK
    have hD : resv_Do.f K l ty o2 g b 10 0 x1 0 0 (⟨#[]⟩ : ByteArray) false ([] : List S100) (keyL l x1) 0 0 ty false 0 = do_f K l ty o2 g b c2 := by rw [hc2]; rfl
    rw [hD, do_good K l ty o2 g b c2 (by omega) hg2 (by rw [f2]; exact hn) (by rw [f0]; decide) (by rw [f0]; decide), f0, if_neg (by decide), if_neg (by decide), if_pos rfl, rel_eq K l ty o2 g b c2 _ (by omega) (by omega), hasks2, f11, f2, hh, if_neg (by decide), if_neg (by decide), if_neg (by simp)]
  rw [d1 _ (by omega), Option.bind_some]
  dsimp only
  rw [Copy_spec l ty o2 g b (by omega), Option.bind_some]
  dsimp only
  rw [d2 _ (by omega), Option.bind_some]
  dsimp only
  rw [if_pos rfl, if_pos rfl, if_pos (show ((([] : List S46).length : Int) = 0) from rfl), tables_same _ l ty o2 g b (by omega) (by omega), Option.bind_some, if_pos rfl, show (g != g) = false by simp, headgatelaw11_ResvTwice.j1, if_neg (by decide), Copy_spec l ty o2 g b (by omega), Option.bind_some]
  dsimp only
  rw [d3 _ (by omega), Option.bind_some]
  dsimp only
  have hto := told_others hok (c := c2) (by rw [f2]; exact hr) 3
  by_cases h3 : ty < 3
  · rw [if_pos h3]
    have hs : silent ty = true := by
      unfold silent
      by_cases q : ty = 1
      · rw [q]; rfl
      · rw [show ty = 2 by omega]; rfl
    rw [hs, if_pos rfl]
    exact twice_j2 k (by omega) _ _ l 0 _ g b hl rfl
  · rw [if_neg h3]
    have hs : silent ty = false := by
      unfold silent
      rw [beq_eq_false_iff_ne.mpr (show ty ≠ 1 by omega), beq_eq_false_iff_ne.mpr (show ty ≠ 2 by omega)]
      rfl
    rw [hs, if_neg (by decide)]
    exact twice_j2 k (by omega) _ _ l 0 _ g b hl (by rw [w64 (by omega) (by omega)]; omega)
theorem ResvTwice (x0 : S27) (x1 : ByteArray) (x2 : Int) (h0 : Q27 x0) (h1 : x1.size ≤ 9223372036854775807) (h2 : (Lit.int .i64 x2).wf = true) : ∃ k, headgatelaw11_ResvTwice.f k x0.f0 x0.f1.f0 x0.f1.f1 x0.f2 x0.f3 x1 x2 = some true := by
  refine ⟨1203, ?_⟩
  obtain ⟨z, hz, hzl⟩ := Large_spec 1203 x0.f0 x0.f1.f0 x0.f1.f1 x0.f2 x0.f3 (by decide)
  unfold headgatelaw11_ResvTwice.f
  rw [hz, Option.bind_some]
  cases z
  · rw [if_neg (by decide), ref_Good_spec _ _ _ _ _ 1203 (by decide), Option.bind_some]
    cases hg : goodB x0.f0 x0.f1.f0 x0.f1.f1
    · rw [if_neg (by decide)]
      exact twice_j0 1200 (by decide) _ _ _ _ _ _ _ _ (Or.inl rfl)
    · have hl := (good_ok hg).1
      rw [if_pos rfl, refKey_spec 1203 _ _ _ _ _ x1 (by omega) (by decide), Option.bind_some]
      by_cases hk : keyL x0.f0 x1 = 0
      · rw [if_pos hk]
        exact twice_j0 1200 (by decide) _ _ _ _ _ _ _ _ (Or.inl rfl)
      · rw [if_neg hk]
        refine twice_j0 1200 (by decide) _ _ _ _ _ _ _ _ ?_
        by_cases ht : x0.f1.f0 = 0
        · exact Or.inr ⟨hg, hk, ht⟩
        · exact Or.inl (bne_iff_ne.mpr ht)
  · rw [if_pos rfl]
    exact twice_j0 1200 (by decide) _ _ _ _ _ _ _ _ (Or.inl rfl)
end Go.Proofs.YtjogkfcjlljjcaaDoor.Pure
