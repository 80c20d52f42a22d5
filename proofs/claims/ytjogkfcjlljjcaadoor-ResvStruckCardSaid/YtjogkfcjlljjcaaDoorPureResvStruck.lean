/- The plain law ResvStruck: what its functions tell, over numbers and lists alone. -/
import Derived.Test.YtjogkfcjlljjcaaDoorXaResvStruck
import Derived.Test.YtjogkfcjlljjcaaDoorLaResvStruck
namespace Go.Proofs.YtjogkfcjlljjcaaDoor.Pure
open Go.RowKit Go.Proofs.YtjogkfcjlljjcaaDoor.P Go.Proofs.YtjogkfcjlljjcaaDoorW.PrintWords Go.Proofs.YtjogkfcjlljjcaaDoorW.PrintLast Go.Proofs.YtjogkfcjlljjcaaDoorW.PrintMore Go.Proofs.YtjogkfcjlljjcaaDoor.Num
set_option linter.unusedVariables false
set_option linter.unusedSimpArgs false

theorem tables_same (k : Nat) (l : List S53) (t : Int) (o : ByteArray) (g : Int) (b : Bool) (hl : l.length ≤ 300) (hk : 310 ≤ k) : headgatekeep_Tables.f k l t o g b l t o g b = some true := by
  obtain ⟨z, hz, hi⟩ := Tables_spec k l t o g b l t o g b hl hk
  rw [hz, hi.mpr ⟨rfl, rfl, rfl, rfl, rfl⟩]
theorem mod6 (x : Int) : ∃ m, headgatekeep_Mod.f x 6 = some m ∧ 0 ≤ m ∧ m < 6 := by
  unfold headgatekeep_Mod.f
  rw [if_neg (by decide), if_neg (by decide)]
  refine ⟨_, rfl, ?_⟩
  have h1 : -6 < Int.tmod x 6 ∧ Int.tmod x 6 < 6 := by
    constructor
    · exact Int.neg_lt_of_neg_lt (by have := Int.tmod_lt_of_pos (-x) (show (0 : Int) < 6 by decide); rw [Int.neg_tmod] at this; omega)
    · exact Int.tmod_lt_of_pos x (by decide)
  rw [w64 (by omega) (by omega)]
  have h2 : 0 ≤ Int.tmod x 6 + 6 := by omega
  rw [Int.tmod_eq_emod_of_nonneg h2]
  omega
theorem rd46 (l : List S46) (i : Nat) (h : i < l.length) : rd_T46 l (i : Int) = l[i] := by
  unfold rd_T46
  rw [List.getD_eq_getElem?_getD, Int.toNat_natCast, List.getElem?_eq_getElem h]
  rfl
theorem regs_same (k : Nat) (l : List S53) (hl : l.length ≤ 300) (hk : 310 ≤ k) : headgatekeep_Regs.f k l l = some true := by
  obtain ⟨z, hz, hx⟩ := regs_l0 l l rfl (by omega) l.length k 0 (by omega) (by omega)
  have hz' : headgatekeep_Regs.l0 k l l 0 = some z := hz
  unfold headgatekeep_Regs.f
  rw [if_pos rfl, hz', hx.mpr rfl]
/-- Who stays. -/
def stays (h : ByteArray) (other : Int) (x : S53) : Bool := decide (x.f0 = h) || x.f1 != other
theorem stays_eq (c : S31) (x : S53) : (!struckP c false x.f0 x.f1) = stays c.f2 c.f10 x := by
  unfold struckP stays
  rw [tl_beq, bne]
  cases decide (x.f0 = c.f2) <;> cases (x.f1 == c.f10) <;> rfl
theorem told_rest (c : S31) (pred : ByteArray → Int → Bool) (why : Int) (l : List S53) (i : Nat) : ∃ rest, told c pred why l l.length = told c pred why l i ++ rest := by
  unfold told
  refine ⟨((l.drop i).filter fun x => !(x.f0.toList == c.f2.toList) && pred x.f0 x.f1).map fun x => ⟨x.f0, why⟩, ?_⟩
  rw [List.take_length, ← List.map_append, ← List.filter_append, List.take_append_drop]
theorem struck_l0 (l : List S53) (t : Int) (o : ByteArray) (g : Int) (b : Bool) (c : S31) (ev : List S46) (code : Int) (l2 : List S53) (t2 : Int) (o2 : ByteArray) (g2 : Int) (b2 : Bool) (hl : l.length ≤ 16)
    (h : (code = 1 ∧ ev = told c (struckP c false) 2 l l.length ∧ l2 = l.filter (stays c.f2 c.f10) ∧ g2 = (g + 1) % 4294967296 ∧ b2 = b) ∨ (code = 2 ∧ l2 = l ∧ t2 = t ∧ o2 = o ∧ g2 = g ∧ b2 = b ∧ ∀ x ∈ l, stays c.f2 c.f10 x = true)) :
    ∀ (d k i : Nat), i + d = l.length → 900 + 2 * d ≤ k → headgatelaw11_ResvStruck.l0 k c.f2 c.f10 ev code ((told c (struckP c false) 2 l i).length : Int) ((l.take i).filter (stays c.f2 c.f10)) (i : Int) l t o g b l2 t2 o2 g2 b2 = some true := by
  intro d
  induction d with
  | zero =>
    intro k i hi hk
    obtain ⟨k, rfl⟩ : ∃ m, k = m + 1 := ⟨k - 1, by omega⟩
    have hil : i = l.length := by omega
    subst hil
    rw [headgatelaw11_ResvStruck.l0, if_neg (by omega), List.take_length]
    rcases h with ⟨rfl, rfl, rfl, rfl, rfl⟩ | ⟨rfl, rfl, rfl, rfl, rfl, rfl, hs⟩
    · rw [if_pos rfl, if_pos rfl, regs_same k _ (by have := List.length_filter_le (stays c.f2 c.f10) l; omega) (by omega), Option.bind_some, if_pos rfl, if_pos rfl, if_pos (by simp), wakes_ok k (by omega)]
      rfl
    · have h0 : told c (struckP c false) 2 l2 l2.length = [] := by
        unfold told
        rw [List.map_eq_nil_iff, List.filter_eq_nil_iff]
        intro x hx
        have := hs x (List.mem_of_mem_take hx)
        rw [← stays_eq] at this
        intro z
        rw [Bool.and_eq_true] at z
        rw [z.2] at this
        cases this
      rw [if_neg (by decide), if_pos rfl, h0, if_pos (show ((([] : List S46).length : Int) = 0) from rfl), tables_same k _ _ _ _ _ (by omega) (by omega), Option.bind_some, if_pos rfl, wakes_ok k (by omega)]
      rfl
  | succ d ih =>
    intro k i hi hk
    obtain ⟨k, rfl⟩ : ∃ m, k = m + 1 + 1 := ⟨k - 2, by omega⟩
    have hlt : i < l.length := by omega
    have hfl : ((l.take i).filter (stays c.f2 c.f10)).length < 5864062014805 := by
      have := List.length_filter_le (stays c.f2 c.f10) (l.take i)
      rw [List.length_take] at this
      omega
    have hn := told_le c (struckP c false) 2 l i
    have hts := told_succ c (struckP c false) 2 l i hlt
    rw [rd_at l i hlt] at hts
    have hfs : (l.take (i + 1)).filter (stays c.f2 c.f10) = (l.take i).filter (stays c.f2 c.f10) ++ (if stays c.f2 c.f10 l[i] = true then [l[i]] else []) := by
      rw [List.take_add_one, List.getElem?_eq_getElem hlt, List.filter_append]
      congr 1
      simp only [Option.toList_some, List.filter_cons, List.filter_nil]
    have hst := stays_eq c l[i]
    rw [headgatelaw11_ResvStruck.l0, if_pos (by omega), if_pos (by omega), rd_at l i hlt]
    have hi1 : ((i : Int) + 1) = ((i + 1 : Nat) : Int) := by omega
    have hj2 : ∀ z, (if (l[i]).f0.toList = c.f2.toList then (headgatelaw11_ResvStruck.j2 (k + 1) c.f2 c.f10 ev code ((told c (struckP c false) 2 l i).length : Int) ((l.take i).filter (stays c.f2 c.f10)) (i : Int) true l t o g b l2 t2 o2 g2 b2) else (headgatelaw11_ResvStruck.j2 (k + 1) c.f2 c.f10 ev code ((told c (struckP c false) 2 l i).length : Int) ((l.take i).filter (stays c.f2 c.f10)) (i : Int) ((l[i]).f1 != c.f10) l t o g b l2 t2 o2 g2 b2)) = z ↔ headgatelaw11_ResvStruck.j2 (k + 1) c.f2 c.f10 ev code ((told c (struckP c false) 2 l i).length : Int) ((l.take i).filter (stays c.f2 c.f10)) (i : Int) (stays c.f2 c.f10 l[i]) l t o g b l2 t2 o2 g2 b2 = z := by
      intro z
      unfold stays
      by_cases e : (l[i]).f0.toList = c.f2.toList
      · rw [if_pos e, decide_eq_true (tl_inj.mp e), Bool.true_or]
      · rw [if_neg e, decide_eq_false (fun q => e (by rw [q])), Bool.false_or]
    rw [hj2, headgatelaw11_ResvStruck.j2]
    cases hz : stays c.f2 c.f10 l[i]
    · rw [hz] at hst hfs
      have hsk : struckP c false (l[i]).f0 (l[i]).f1 = true := by
        cases q : struckP c false (l[i]).f0 (l[i]).f1 with
        | true => rfl
        | false => rw [q] at hst; cases hst
      have hne : ((l[i]).f0.toList == c.f2.toList) = false := by
        cases q : ((l[i]).f0.toList == c.f2.toList) with
        | false => rfl
        | true => unfold struckP at hsk; rw [q] at hsk; cases hsk
      rw [hsk, hne, if_pos (by decide)] at hts
      rw [if_neg (by decide), List.append_nil] at hfs
      have hl1 : (told c (struckP c false) 2 l (i + 1)).length = (told c (struckP c false) 2 l i).length + 1 := by rw [hts, List.length_append]; rfl
      have hn1 : (((told c (struckP c false) 2 l i).length : Int) + 1) = ((told c (struckP c false) 2 l (i + 1)).length : Int) := by omega
      rw [if_neg (by decide)]
      rcases h with ⟨rfl, rfl, rfl, rfl, rfl⟩ | ⟨rfl, rfl, rfl, rfl, rfl, rfl, hs⟩
      · obtain ⟨rest, hrest⟩ := told_rest c (struckP c false) 2 l (i + 1)
        have hlen : (told c (struckP c false) 2 l i).length < (told c (struckP c false) 2 l l.length).length := by
          rw [hrest, List.length_append, hl1]
          omega
        have hget : (told c (struckP c false) 2 l l.length)[(told c (struckP c false) 2 l i).length]'hlen = ⟨(l[i]).f0, 2⟩ := by
          simp only [hrest, hts, List.append_assoc]
          rw [List.getElem_append_right (Nat.le_refl _)]
          simp
        rw [if_pos rfl, if_neg (by omega), if_pos (by omega), if_pos (by omega), if_pos (by omega), if_pos (by omega), rd46 _ _ hlen, hget, rd_at l i hlt, if_pos rfl, if_pos rfl, w64 (by omega) (by omega), w64 (by omega) (by omega), hi1, hn1, ← hfs]
        exact ih k (i + 1) (by omega) (by omega)
      · have := hs _ (List.getElem_mem hlt)
        rw [hz] at this
        cases this
    · rw [hz] at hst hfs
      have hsk : struckP c false (l[i]).f0 (l[i]).f1 = false := by
        cases q : struckP c false (l[i]).f0 (l[i]).f1 with
        | false => rfl
        | true => rw [q] at hst; cases hst
      rw [hsk, Bool.and_false, if_neg (by decide), List.append_nil] at hts
      rw [if_pos rfl] at hfs
      rw [if_pos rfl, if_pos (by omega), if_pos (by omega), if_pos hfl, w64 (by omega) (by omega), hi1, rd_at l i hlt, show (⟨(l[i]).f0, (l[i]).f1⟩ : S53) = l[i] from rfl, ← hfs, ← hts]
      exact ih k (i + 1) (by omega) (by omega)
theorem struck_j0 (k : Nat) (hk : 1100 ≤ k) (x1 : ByteArray) (x7 x8 : Int) (z : Bool) (l : List S53) (t : Int) (o : ByteArray) (g : Int) (b : Bool) (h : z = true ∨ (goodB l t o = true ∧ keyL l x1 ≠ 0 ∧ x7 ≠ 0)) : headgatelaw11_ResvStruck.j0 (k + 1) x1 x7 x8 z l t o g b = some true := by
  rw [headgatelaw11_ResvStruck.j0]
  cases z
  case true => rw [if_pos rfl, wakes_ok k (by omega)]; rfl
  obtain ⟨hg, h0, h7⟩ := h.resolve_left (by decide)
  obtain ⟨hl, hok, _⟩ := good_ok hg
  have hr : reg l x1 = true := by
    cases hr : reg l x1 with
    | true => rfl
    | false => exact absurd (keyL_none hr) h0
  have hn : nameB x1 = true := by
    obtain ⟨x, hx, rfl⟩ := (reg_iff _ _).mp hr
    exact (hok.2 x hx).1
  obtain ⟨m, hm, m0, m6⟩ := mod6 x8
  obtain ⟨ty, hty⟩ : ∃ ty, ty = wrap64 (1 + m) := ⟨_, rfl⟩
  have hty2 : 1 ≤ ty ∧ ty ≤ 6 := by rw [hty, w64 (by omega) (by omega)]; omega
  rw [if_neg (by decide), refKey_spec k l t o g b x1 (by omega) (by omega), Option.bind_some, hm, Option.bind_some, Copy_spec l t o g b (by omega), Option.bind_some, ← hty]
  dsimp only
  obtain ⟨c, hc⟩ : ∃ c : S31, c = ⟨12, 0, x1, 0, 0, (⟨#[]⟩ : ByteArray), false, [], keyL l x1, 0, x7, ty, false, 0⟩ := ⟨_, rfl⟩
  have hD : resv_Do.f k l t o g b 12 0 x1 0 0 (⟨#[]⟩ : ByteArray) false ([] : List S100) (keyL l x1) 0 x7 ty false 0 = do_f k l t o g b c := by rw [hc]; rfl
  have e2 : c.f2 = x1 := by rw [hc]
  have e10 : c.f10 = x7 := by rw [hc]
  have e0 : c.f0 = 12 := by rw [hc]
  have e11 : c.f11 = ty := by rw [hc]
  have e8 : c.f8 = keyL l x1 := by rw [hc]
  clear hc
  have hasks : asksP (keyL l c.f2) c = true := by
    unfold asksP
    rw [e2, e8, bne_iff_ne.mpr h0]
    simp
  rw [hD, do_good k l t o g b c (by omega) hg (by rw [e2]; exact hn) (by rw [e0]; decide) (by rw [e0]; decide), e0, if_neg (by decide), if_neg (by decide), if_neg (by decide), if_neg (by decide), pre_eq k l t o g b c _ (by omega) (by omega), hasks, e11, show typed ty = true from decide_eq_true hty2, if_neg (by decide), if_neg (by decide), e10, show (x7 == 0) = false from beq_eq_false_iff_ne.mpr h7, Bool.and_false, if_neg (by decide)]
  have hfe : (l.filter fun x => !struckP c false x.f0 x.f1) = l.filter (stays c.f2 c.f10) := by
    congr 1
    funext x
    exact stays_eq c x
  have hstart : ∀ (ev : List S46) (code : Int) (l2 : List S53) (t2 : Int) (o2 : ByteArray) (g2 : Int) (b2 : Bool), ((code = 1 ∧ ev = told c (struckP c false) 2 l l.length ∧ l2 = l.filter (stays c.f2 c.f10) ∧ g2 = (g + 1) % 4294967296 ∧ b2 = b) ∨ (code = 2 ∧ l2 = l ∧ t2 = t ∧ o2 = o ∧ g2 = g ∧ b2 = b ∧ ∀ x ∈ l, stays c.f2 c.f10 x = true)) → headgatelaw11_ResvStruck.l0 k x1 x7 ev code 0 [] 0 l t o g b l2 t2 o2 g2 b2 = some true := by
    intro ev code l2 t2 o2 g2 b2 hh
    have := struck_l0 l t o g b c ev code l2 t2 o2 g2 b2 hl hh l.length k 0 (by omega) (by omega)
    rw [← e2, ← e10]
    exact this
  by_cases q1 : o.toList ≠ ([] : List UInt8) ∧ keyL l o = x7
  · rw [if_pos q1, Option.bind_some]
    exact hstart _ _ _ _ _ _ _ (Or.inl ⟨rfl, rfl, hfe, rfl, rfl⟩)
  rw [if_neg q1, if_neg h7]
  cases q2 : decide (0 ≤ idxP (struckP c false) l)
  · rw [if_pos rfl]
    refine hstart _ _ _ _ _ _ _ (Or.inr ⟨rfl, rfl, rfl, rfl, rfl, rfl, ?_⟩)
    intro x hx
    rw [← stays_eq]
    unfold idxP at q2
    cases hf : l.findIdx? (fun x => struckP c false x.f0 x.f1) with
    | none =>
      rw [List.findIdx?_eq_none_iff.mp hf x hx]
      rfl
    | some j =>
      rw [hf] at q2
      exact absurd (Int.natCast_nonneg j) (of_decide_eq_false q2)
  · rw [if_neg (by decide), Option.bind_some]
    exact hstart _ _ _ _ _ _ _ (Or.inl ⟨rfl, rfl, hfe, rfl, rfl⟩)
theorem ResvStruck (x0 : S27) (x1 : ByteArray) (x2 : S50) (h0 : Q27 x0) (h1 : x1.size ≤ 9223372036854775807) (h2 : Q50 x2) : ∃ k, headgatelaw11_ResvStruck.f k x0.f0 x0.f1.f0 x0.f1.f1 x0.f2 x0.f3 x1 x2.f0 x2.f1 = some true := by
  refine ⟨1201, ?_⟩
  obtain ⟨z, hz, hzl⟩ := Large_spec 1201 x0.f0 x0.f1.f0 x0.f1.f1 x0.f2 x0.f3 (by decide)
  unfold headgatelaw11_ResvStruck.f
  rw [hz, Option.bind_some]
  cases z
  · rw [if_neg (by decide), ref_Good_spec _ _ _ _ _ 1201 (by decide), Option.bind_some]
    cases hg : goodB x0.f0 x0.f1.f0 x0.f1.f1
    · rw [if_neg (by decide)]
      exact struck_j0 1200 (by decide) _ _ _ _ _ _ _ _ _ (Or.inl rfl)
    · have hl := (good_ok hg).1
      rw [if_pos rfl, refKey_spec 1201 _ _ _ _ _ x1 (by omega) (by decide), Option.bind_some]
      by_cases hk : keyL x0.f0 x1 = 0
      · rw [if_pos hk]
        exact struck_j0 1200 (by decide) _ _ _ _ _ _ _ _ _ (Or.inl rfl)
      · rw [if_neg hk]
        refine struck_j0 1200 (by decide) _ _ _ _ _ _ _ _ _ ?_
        by_cases h7 : x2.f0 = 0
        · exact Or.inl (beq_iff_eq.mpr h7)
        · exact Or.inr ⟨hg, hk, h7⟩
  · rw [if_pos rfl]
    exact struck_j0 1200 (by decide) _ _ _ _ _ _ _ _ _ (Or.inl rfl)
end Go.Proofs.YtjogkfcjlljjcaaDoor.Pure
