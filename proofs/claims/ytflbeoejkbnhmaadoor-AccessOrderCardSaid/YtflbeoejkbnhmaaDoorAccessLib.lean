/- What the table's functions and their counterparts answer, where the table is not large. -/
import Derived.Test.YtflbeoejkbnhmaaDoorNum
import Derived.Test.YtflbeoejkbnhmaaDoorPx2
import Derived.Test.YtflbeoejkbnhmaaDoorPx1
import Derived.Test.YtflbeoejkbnhmaaDoorPx3
import Derived.Test.YtflbeoejkbnhmaaDoorPx4
namespace Go.Proofs.YtflbeoejkbnhmaaDoor.Pure
open Go.RowKit Go.Proofs.YtflbeoejkbnhmaaDoor.P Go.Proofs.YtflbeoejkbnhmaaDoorW.PrintWords Go.Proofs.YtflbeoejkbnhmaaDoorW.PrintLast Go.Proofs.YtflbeoejkbnhmaaDoorW.PrintMore Go.Proofs.YtflbeoejkbnhmaaDoor.Num
set_option linter.unusedVariables false
set_option linter.unusedSimpArgs false

/-- Is the host among those registered? -/
def reg (l : List S37) (h : ByteArray) : Bool := l.any fun r => decide (r.f0.toList = h.toList)
/-- The kinds of a reservation. -/
def typed (t : Int) : Bool := decide (1 ≤ t ∧ t ≤ 6)
def changes (c : Int) : Bool := decide (c = 3 ∨ c = 4 ∨ c = 5 ∨ c = 6 ∨ c = 7)
/-- Does the host hold the reservation? -/
def holds (l : List S37) (t : Int) (o h : ByteArray) : Bool :=
  if typed t then (if t = 5 ∨ t = 6 then reg l h else decide (h.toList = o.toList)) else false
/-- May the host do what is asked? -/
def may (l : List S37) (t : Int) (o h : ByteArray) (c : Int) : Bool :=
  if typed t then
    (if c = 2 then (holds l t o h || (if t = 1 ∨ t = 3 ∨ t = 5 then true else if 3 ≤ t then reg l h else false))
     else if changes c then (holds l t o h || (if 3 ≤ t then reg l h else false)) else true)
  else true

theorem rd_at (l : List S37) (i : Nat) (h : i < l.length) : rd_T37 l (i : Int) = l[i] := by
  unfold rd_T37
  rw [List.getD_eq_getElem?_getD, Int.toNat_natCast, List.getElem?_eq_getElem h]
  rfl

theorem registered_l0 (h : ByteArray) (l : List S37) (hl : l.length ≤ 1000) : ∀ (n k i : Nat), i + n = l.length → n + 1 ≤ k → access_registered.l0 k h l (l.length : Int) (i : Int) = some ((l.drop i).any fun r => decide (r.f0.toList = h.toList))
  | 0, k + 1, i, hi, hk => by
    show (if (i : Int) < (l.length : Int) then _ else some false) = _
    rw [if_neg (by omega), List.drop_eq_nil_of_le (by omega)]
    rfl
  | n + 1, k + 1, i, hi, hk => by
    have hlt : i < l.length := by omega
    show (if (i : Int) < (l.length : Int) then (if 0 ≤ (i : Int) then (if (i : Int) < (l.length : Int) then (if ((rd_T37 l i).f0).toList = h.toList then (some true) else (access_registered.l0 k h l (l.length : Int) (wrap64 ((i : Int) + 1)))) else none) else none) else some false) = _
    rw [if_pos (by omega), if_pos (by omega), if_pos (by omega), rd_at l i hlt, List.drop_eq_getElem_cons hlt, List.any_cons]
    by_cases hc : (l[i]).f0.toList = h.toList
    · rw [if_pos hc, decide_eq_true hc]
      rfl
    · rw [if_neg hc, decide_eq_false hc, w64 (by omega) (by omega)]
      exact registered_l0 h l hl n k (i + 1) (by omega) (by omega)

theorem registered_spec (k : Nat) (l : List S37) (t : Int) (o : ByteArray) (g : Int) (b : Bool) (h : ByteArray) (hl : l.length ≤ 201) (hk : 210 ≤ k) : access_registered.f k l t o g b h = some (reg l h) :=
  registered_l0 h l (by omega) l.length k 0 (by omega) (by omega)

theorem ref_l0 (h : ByteArray) (l : List S37) (t : Int) (o : ByteArray) (g : Int) (b : Bool) (hl : l.length ≤ 1000) : ∀ (n k i : Nat), i + n = l.length → n + 1 ≤ k → headgateref10_Registered.l0 k h (i : Int) l t o g b = some ((l.drop i).any fun r => decide (r.f0.toList = h.toList))
  | 0, k + 1, i, hi, hk => by
    show (if (i : Int) < (l.length : Int) then _ else some false) = _
    rw [if_neg (by omega), List.drop_eq_nil_of_le (by omega)]
    rfl
  | n + 1, k + 1, i, hi, hk => by
    have hlt : i < l.length := by omega
    show (if (i : Int) < (l.length : Int) then (if 0 ≤ (i : Int) then (if ((rd_T37 l i).f0).toList = h.toList then (some true) else (headgateref10_Registered.l0 k h (wrap64 ((i : Int) + 1)) l t o g b)) else none) else some false) = _
    rw [if_pos (by omega), if_pos (by omega), rd_at l i hlt, List.drop_eq_getElem_cons hlt, List.any_cons]
    by_cases hc : (l[i]).f0.toList = h.toList
    · rw [if_pos hc, decide_eq_true hc]
      rfl
    · rw [if_neg hc, decide_eq_false hc, w64 (by omega) (by omega)]
      exact ref_l0 h l t o g b hl n k (i + 1) (by omega) (by omega)

theorem ref_spec (k : Nat) (l : List S37) (t : Int) (o : ByteArray) (g : Int) (b : Bool) (h : ByteArray) (hl : l.length ≤ 201) (hk : 210 ≤ k) : headgateref10_Registered.f k l t o g b h = some (reg l h) :=
  ref_l0 h l t o g b (by omega) l.length k 0 (by omega) (by omega)

theorem Type_spec (t : Int) : access_Type.f t = some (typed t) := by
  unfold access_Type.f typed
  by_cases h : t ≥ 1
  · rw [if_pos h]
    congr 1
    rw [decide_eq_decide]
    omega
  · rw [if_neg h, decide_eq_false (by omega)]
theorem refType_spec (t : Int) : headgateref10_Type.f t = some (typed t) := by
  unfold headgateref10_Type.f typed
  by_cases h : t ≥ 1
  · rw [if_pos h]
    congr 1
    rw [decide_eq_decide]
    omega
  · rw [if_neg h, decide_eq_false (by omega)]
theorem Changes_spec (c : Int) : access_Changes.f c = some (changes c) := by
  unfold access_Changes.f changes
  by_cases h3 : c = 3
  · rw [if_pos h3, decide_eq_true (by omega)]
  by_cases h5 : c = 5
  · rw [if_neg h3, if_pos h5, decide_eq_true (by omega)]
  by_cases h6 : c = 6
  · rw [if_neg h3, if_neg h5, if_pos h6, decide_eq_true (by omega)]
  by_cases h7 : c = 7
  · rw [if_neg h3, if_neg h5, if_neg h6, if_pos h7, decide_eq_true (by omega)]
  by_cases h4 : c = 4
  · rw [if_neg h3, if_neg h5, if_neg h6, if_neg h7, if_pos h4, decide_eq_true (by omega)]
  · rw [if_neg h3, if_neg h5, if_neg h6, if_neg h7, if_neg h4, decide_eq_false (by omega)]
theorem refChanges_spec (c : Int) : headgateref10_Changes.f c = some (changes c) := by
  unfold headgateref10_Changes.f changes
  by_cases h3 : c = 3
  · rw [if_pos h3, decide_eq_true (by omega)]
  by_cases h5 : c = 5
  · rw [if_neg h3, if_pos h5, decide_eq_true (by omega)]
  by_cases h6 : c = 6
  · rw [if_neg h3, if_neg h5, if_pos h6, decide_eq_true (by omega)]
  by_cases h7 : c = 7
  · rw [if_neg h3, if_neg h5, if_neg h6, if_pos h7, decide_eq_true (by omega)]
  rw [if_neg h3, if_neg h5, if_neg h6, if_neg h7]
  congr 1
  by_cases h4 : c = 4
  · rw [decide_eq_true (by omega), h4]
    rfl
  · rw [decide_eq_false (by omega)]
    exact beq_eq_false_iff_ne.mpr h4

theorem typed_cases {t : Int} (h : typed t = true) : t = 1 ∨ t = 2 ∨ t = 3 ∨ t = 4 ∨ t = 5 ∨ t = 6 := by
  have := of_decide_eq_true h
  omega

theorem beq_dec (a b : List UInt8) : (a == b) = decide (a = b) := by
  by_cases h : a = b
  · rw [h]
    simp
  · rw [decide_eq_false h]
    exact beq_eq_false_iff_ne.mpr h

theorem Holds_spec (k : Nat) (l : List S37) (t : Int) (o : ByteArray) (g : Int) (b : Bool) (h : ByteArray) (hl : l.length ≤ 201) (hk : 210 ≤ k) : access_Holds.f k l t o g b h = some (holds l t o h) := by
  unfold access_Holds.f
  rw [Type_spec, Option.bind_some]
  unfold holds
  cases ht : typed t with
  | false => rfl
  | true =>
    rw [if_pos rfl, if_pos rfl, registered_spec k l t o g b h hl hk]
    rcases typed_cases ht with rfl | rfl | rfl | rfl | rfl | rfl
    all_goals first
      | (rw [if_pos (by decide), if_pos (by decide), if_pos (by decide +kernel), if_neg (by decide), beq_dec])
      | (rw [if_pos (by decide), if_pos (by decide), if_neg (by decide +kernel), if_pos (by decide)]; rfl)

theorem refHolds_spec (k : Nat) (l : List S37) (t : Int) (o : ByteArray) (g : Int) (b : Bool) (h : ByteArray) (hl : l.length ≤ 201) (hk : 220 ≤ k) : headgateref10_Holds.f k l t o g b h = some (holds l t o h) := by
  obtain ⟨k, rfl⟩ := Nat.exists_eq_add_of_le' (show 1 ≤ k by omega)
  have hr := ref_spec k l t o g b h hl (by omega)
  have hj : ∀ z, headgateref10_Holds.j0 (k + 1) h t z l t o g b = if z = true then (some (o.toList == h.toList)) else (if t = 5 then ((headgateref10_Registered.f k l t o g b h).bind fun t140 => (some t140)) else (if t = 6 then ((headgateref10_Registered.f k l t o g b h).bind fun t141 => (some t141)) else (some false))) := fun z => rfl
  have hs : (o.toList == h.toList) = decide (h.toList = o.toList) := by
    rw [beq_dec, decide_eq_decide]
    exact eq_comm
  unfold headgateref10_Holds.f holds
  simp only [hj, hr, hs, Option.bind_some]
  by_cases ht : typed t = true
  · rw [if_pos ht]
    rcases typed_cases ht with rfl | rfl | rfl | rfl | rfl | rfl <;> simp
  · rw [if_neg ht]
    have h6 : ¬(1 ≤ t ∧ t ≤ 6) := fun hh => ht (decide_eq_true hh)
    rw [if_neg (by omega), if_neg (by omega), if_neg (by omega)]
    have h4 : (t == 4) = false := beq_eq_false_iff_ne.mpr (by omega)
    rw [h4, if_neg (by decide), if_neg (by omega), if_neg (by omega)]

theorem May_spec (k : Nat) (l : List S37) (t : Int) (o : ByteArray) (g : Int) (b : Bool) (h : ByteArray) (c : Int) (hl : l.length ≤ 201) (hk : 220 ≤ k) : access_May.f k l t o g b h c = some (may l t o h c) := by
  obtain ⟨k, rfl⟩ := Nat.exists_eq_add_of_le' (show 1 ≤ k by omega)
  have hr := registered_spec k l t o g b h hl (by omega)
  have hj : ∀ z, access_May.j0 (k + 1) h c z l t o g b = if z = true then (some true) else (if 0 ≤ t then (if t < 7 then ((access_Changes.f c).bind fun t117 => (if t117 = true then (if (Go.bits .and .i64 (rd G_access_lets.tab t) 4) = 0 then (some false) else ((access_registered.f k l t o g b h).bind fun t118 => (some t118))) else (if (Go.bits .and .i64 (rd G_access_lets.tab t) 1) = 0 then (if (Go.bits .and .i64 (rd G_access_lets.tab t) 2) = 0 then (some false) else ((access_registered.f k l t o g b h).bind fun t119 => (some t119))) else (some true)))) else (none)) else (none)) := fun z => rfl
  unfold access_May.f may
  simp only [hj, hr, Type_spec, Changes_spec, Holds_spec (k + 1) l t o g b h hl (by omega), access_Reads.f, Option.bind_some]
  cases ht : typed t with
  | false => simp
  | true =>
    rw [if_pos rfl, if_pos rfl]
    by_cases h2 : c = 2
    · subst h2
      have hc2 : changes 2 = false := by decide
      rw [if_pos (by decide), if_pos rfl, hc2]
      cases hh : holds l t o h with
      | true => rfl
      | false =>
        rcases typed_cases ht with rfl | rfl | rfl | rfl | rfl | rfl
        · rw [if_neg (by decide), if_pos (by decide), if_pos (by decide), if_neg (by decide), if_neg (by decide +kernel)]; rfl
        · rw [if_neg (by decide), if_pos (by decide), if_pos (by decide), if_neg (by decide), if_pos (by decide +kernel), if_pos (by decide +kernel)]; rfl
        · rw [if_neg (by decide), if_pos (by decide), if_pos (by decide), if_neg (by decide), if_neg (by decide +kernel)]; rfl
        · rw [if_neg (by decide), if_pos (by decide), if_pos (by decide), if_neg (by decide), if_pos (by decide +kernel), if_neg (by decide +kernel)]; rfl
        · rw [if_neg (by decide), if_pos (by decide), if_pos (by decide), if_neg (by decide), if_neg (by decide +kernel)]; rfl
        · rw [if_neg (by decide), if_pos (by decide), if_pos (by decide), if_neg (by decide), if_pos (by decide +kernel), if_neg (by decide +kernel)]; rfl
    · have h2' : (c == 2) = false := beq_eq_false_iff_ne.mpr h2
      rw [h2', if_neg (by decide), if_neg h2]
      cases hc : changes c with
      | false => rfl
      | true =>
        rw [if_pos rfl, if_pos rfl]
        cases hh : holds l t o h with
        | true => rfl
        | false =>
          rcases typed_cases ht with rfl | rfl | rfl | rfl | rfl | rfl
          · rw [if_neg (by decide), if_pos (by decide), if_pos (by decide), if_pos rfl, if_pos (by decide +kernel)]; rfl
          · rw [if_neg (by decide), if_pos (by decide), if_pos (by decide), if_pos rfl, if_pos (by decide +kernel)]; rfl
          · rw [if_neg (by decide), if_pos (by decide), if_pos (by decide), if_pos rfl, if_neg (by decide +kernel)]; rfl
          · rw [if_neg (by decide), if_pos (by decide), if_pos (by decide), if_pos rfl, if_neg (by decide +kernel)]; rfl
          · rw [if_neg (by decide), if_pos (by decide), if_pos (by decide), if_pos rfl, if_neg (by decide +kernel)]; rfl
          · rw [if_neg (by decide), if_pos (by decide), if_pos (by decide), if_pos rfl, if_neg (by decide +kernel)]; rfl

theorem refMay_spec (k : Nat) (l : List S37) (t : Int) (o : ByteArray) (g : Int) (b : Bool) (h : ByteArray) (c : Int) (hl : l.length ≤ 201) (hk : 230 ≤ k) : headgateref10_May.f k l t o g b h c = some (may l t o h c) := by
  obtain ⟨k, rfl⟩ := Nat.exists_eq_add_of_le' (show 1 ≤ k by omega)
  have hr := ref_spec k l t o g b h hl (by omega)
  have hj : ∀ z, headgateref10_May.j0 (k + 1) h c t z l t o g b = if z = true then (some true) else ((headgateref10_Reads.f c).bind fun t148 => (if t148 = true then (if t = 1 then (some true) else (if t = 3 then (some true) else (if t = 5 then (some true) else (if t ≥ 3 then ((headgateref10_Registered.f k l t o g b h).bind fun t149 => (some t149)) else (some false))))) else (if t ≥ 3 then ((headgateref10_Registered.f k l t o g b h).bind fun t150 => (some t150)) else (some false)))) := fun z => rfl
  unfold headgateref10_May.f may
  simp only [hj, hr, refType_spec, refChanges_spec, refHolds_spec (k + 1) l t o g b h hl (by omega), headgateref10_Reads.f, Option.bind_some]
  cases ht : typed t with
  | false => simp
  | true =>
    rw [if_pos rfl, if_pos rfl]
    by_cases h2 : c = 2
    · subst h2
      rw [if_pos (by decide), if_pos rfl]
      cases hh : holds l t o h with
      | true => rfl
      | false =>
        rw [if_neg (by decide), if_pos (by decide)]
        rcases typed_cases ht with rfl | rfl | rfl | rfl | rfl | rfl <;> rfl
    · have h2' : (c == 2) = false := beq_eq_false_iff_ne.mpr h2
      rw [h2', if_neg (by decide), if_neg h2]
      cases hc : changes c with
      | false => rfl
      | true =>
        rw [if_pos rfl, if_pos rfl]
        cases hh : holds l t o h with
        | true => rfl
        | false =>
          rw [if_neg (by decide), if_neg (by decide)]
          rcases typed_cases ht with rfl | rfl | rfl | rfl | rfl | rfl <;> rfl

theorem large_l0 (l : List S37) (t : Int) (o : ByteArray) (g : Int) (b : Bool) (hl : l.length ≤ 1000) : ∀ (n k i : Nat), i + n = l.length → n + 1 ≤ k → ∃ z, headgatelaw10_Large.l0 k (i : Int) l t o g b = some z
  | 0, k + 1, i, hi, hk => ⟨false, by
    show (if (i : Int) < (l.length : Int) then _ else some false) = _
    rw [if_neg (by omega)]⟩
  | n + 1, k + 1, i, hi, hk => by
    show ∃ z, (if (i : Int) < (l.length : Int) then (if 0 ≤ (i : Int) then (if (((rd_T37 l i).f0).size : Int) > 1000 then (some true) else (headgatelaw10_Large.l0 k (wrap64 ((i : Int) + 1)) l t o g b)) else none) else some false) = some z
    rw [if_pos (by omega), if_pos (by omega), w64 (by omega) (by omega)]
    split
    · exact ⟨_, rfl⟩
    · exact large_l0 l t o g b hl n k (i + 1) (by omega) (by omega)

theorem Large_spec (k : Nat) (l : List S37) (t : Int) (o : ByteArray) (g : Int) (b : Bool) (hk : 220 ≤ k) : ∃ z, headgatelaw10_Large.f k l t o g b = some z ∧ (z = false → l.length ≤ 200) := by
  obtain ⟨k, rfl⟩ := Nat.exists_eq_add_of_le' (show 1 ≤ k by omega)
  unfold headgatelaw10_Large.f
  split
  · exact ⟨true, rfl, fun h => by cases h⟩
  · have hl : l.length ≤ 200 := by omega
    show ∃ z, (if (decide ((o.size : Int) > 1000)) = true then (some true) else (headgatelaw10_Large.l0 k 0 l t o g b)) = some z ∧ _
    split
    · exact ⟨true, rfl, fun h => by cases h⟩
    · obtain ⟨z, hz⟩ := large_l0 l t o g b (by omega) l.length k 0 (by omega) (by omega)
      exact ⟨z, hz, fun _ => hl⟩

theorem Copy_spec (l : List S37) (t : Int) (o : ByteArray) (g : Int) (b : Bool) (hl : l.length ≤ 200) : headgatekeep_CopyTable.f l t o g b = some (l, t, o, g, b) := by
  unfold headgatekeep_CopyTable.f
  rw [Option.bind_some, if_pos (by simp; omega)]
  rfl

theorem regs_l0 (l : List S37) (hl : l.length ≤ 1000) : ∀ (n k i : Nat), i + n = l.length → n + 1 ≤ k → headgatekeep_Regs.l0 k l l (i : Int) = some true
  | 0, k + 1, i, hi, hk => by
    show (if (i : Int) < (l.length : Int) then _ else some true) = _
    rw [if_neg (by omega)]
  | n + 1, k + 1, i, hi, hk => by
    show (if (i : Int) < (l.length : Int) then (if 0 ≤ (i : Int) then (if (i : Int) < (l.length : Int) then (if ((rd_T37 l i).f0).toList = ((rd_T37 l i).f0).toList then (if ((rd_T37 l i).f1) = ((rd_T37 l i).f1) then (headgatekeep_Regs.l0 k l l (wrap64 ((i : Int) + 1))) else (some false)) else (some false)) else (none)) else (none)) else (some true)) = _
    rw [if_pos (by omega), if_pos (by omega), if_pos (by omega), if_pos rfl, if_pos rfl, w64 (by omega) (by omega)]
    exact regs_l0 l hl n k (i + 1) (by omega) (by omega)

theorem Tables_spec (k : Nat) (l : List S37) (t : Int) (o : ByteArray) (g : Int) (b : Bool) (hl : l.length ≤ 200) (hk : 210 ≤ k) : headgatekeep_Tables.f k l t o g b l t o g b = some true := by
  unfold headgatekeep_Tables.f headgatekeep_Regs.f
  have h := regs_l0 l (by omega) l.length k 0 (by omega) (by omega)
  have h' : headgatekeep_Regs.l0 k l l 0 = some true := h
  rw [if_pos rfl, h', Option.bind_some, if_pos rfl, if_pos rfl, if_pos rfl, if_pos rfl]
  cases b <;> rfl

theorem wakes_ok (k : Nat) (hk : 230 ≤ k) : headgatelaw10_wakes.f k = some true := by
  unfold headgatelaw10_wakes.f
  rw [Option.bind_some, May_spec k _ _ _ _ _ _ _ (by decide) (by omega), Option.bind_some, May_spec k _ _ _ _ _ _ _ (by decide) (by omega), May_spec k _ _ _ _ _ _ _ (by decide) (by omega), Holds_spec k _ _ _ _ _ _ (by decide) (by omega), Type_spec]
  have e1 : may [⟨⟨#[97]⟩, 1⟩, ⟨⟨#[98]⟩, 2⟩] 1 ⟨#[97]⟩ ⟨#[98]⟩ 2 = true := by decide +kernel
  have e2 : may [⟨⟨#[97]⟩, 1⟩, ⟨⟨#[98]⟩, 2⟩] 1 ⟨#[97]⟩ ⟨#[98]⟩ 3 = false := by decide +kernel
  have e3 : may [⟨⟨#[97]⟩, 1⟩, ⟨⟨#[98]⟩, 2⟩] 1 ⟨#[97]⟩ ⟨#[97]⟩ 3 = true := by decide +kernel
  have e4 : holds [⟨⟨#[97]⟩, 1⟩, ⟨⟨#[98]⟩, 2⟩] 1 ⟨#[97]⟩ ⟨#[97]⟩ = true := by decide +kernel
  have e5 : typed 6 = true := by decide
  rw [if_pos e1, Option.bind_some, if_neg (by rw [e2]; decide), Option.bind_some, if_pos e3, Option.bind_some, if_pos e4, Option.bind_some, e5]
end Go.Proofs.YtflbeoejkbnhmaaDoor.Pure
