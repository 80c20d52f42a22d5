/- Tables: which are large, copies, which are alike; which hosts are registered, as the document tells it. -/
import Derived.Test.YtmpicpenbhdbhaaDoorNum
import Derived.Test.YtmpicpenbhdbhaaDoorNameRef
import Derived.Test.YtmpicpenbhdbhaaDoorPx1
import Derived.Test.YtmpicpenbhdbhaaDoorPx5
import Derived.Test.YtmpicpenbhdbhaaDoorPx6
import Derived.Test.YtmpicpenbhdbhaaDoorPx9
namespace Go.Proofs.YtmpicpenbhdbhaaDoor.Pure
open Go.RowKit Go.Proofs.YtmpicpenbhdbhaaDoor.P Go.Proofs.YtmpicpenbhdbhaaDoorW.PrintWords Go.Proofs.YtmpicpenbhdbhaaDoorW.PrintLast Go.Proofs.YtmpicpenbhdbhaaDoorW.PrintMore Go.Proofs.YtmpicpenbhdbhaaDoor.Num
set_option linter.unusedVariables false
set_option linter.unusedSimpArgs false

theorem rd_at (l : List S48) (i : Nat) (h : i < l.length) : rd_T48 l (i : Int) = l[i] := by
  unfold rd_T48
  rw [List.getD_eq_getElem?_getD, Int.toNat_natCast, List.getElem?_eq_getElem h]
  rfl
def reg (l : List S48) (h : ByteArray) : Bool := l.any fun r => decide (r.f0.toList = h.toList)
theorem ref_l0 (h : ByteArray) (l : List S48) (t : Int) (o : ByteArray) (g : Int) (b : Bool) (hl : l.length ≤ 1000) : ∀ (n k i : Nat), i + n = l.length → n + 1 ≤ k → headgateref10_Registered.l0 k h (i : Int) l t o g b = some ((l.drop i).any fun r => decide (r.f0.toList = h.toList))
  | 0, k + 1, i, hi, hk => by
    show (if (i : Int) < (l.length : Int) then _ else some false) = _
    rw [if_neg (by omega), List.drop_eq_nil_of_le (by omega)]
    rfl
  | n + 1, k + 1, i, hi, hk => by
    have hlt : i < l.length := by omega
    show (if (i : Int) < (l.length : Int) then (if 0 ≤ (i : Int) then (if ((rd_T48 l i).f0).toList = h.toList then (some true) else (headgateref10_Registered.l0 k h (wrap64 ((i : Int) + 1)) l t o g b)) else none) else some false) = _
    rw [if_pos (by omega), if_pos (by omega), rd_at l i hlt, List.drop_eq_getElem_cons hlt, List.any_cons]
    by_cases hc : (l[i]).f0.toList = h.toList
    · rw [if_pos hc, decide_eq_true hc]
      rfl
    · rw [if_neg hc, decide_eq_false hc, w64 (by omega) (by omega)]
      exact ref_l0 h l t o g b hl n k (i + 1) (by omega) (by omega)
theorem ref_spec (k : Nat) (l : List S48) (t : Int) (o : ByteArray) (g : Int) (b : Bool) (h : ByteArray) (hl : l.length ≤ 201) (hk : 210 ≤ k) : headgateref10_Registered.f k l t o g b h = some (reg l h) :=
  ref_l0 h l t o g b (by omega) l.length k 0 (by omega) (by omega)
/-- A large table's parts. -/
theorem large_l0 (l : List S48) (t : Int) (o : ByteArray) (g : Int) (b : Bool) (hl : l.length ≤ 1000) : ∀ (n k i : Nat), i + n = l.length → n + 1 ≤ k → ∃ z, headgatelaw10_Large.l0 k (i : Int) l t o g b = some z ∧ (z = false → ∀ x ∈ l.drop i, x.f0.size ≤ 1000)
  | 0, k + 1, i, hi, hk => ⟨false, by
    show (if (i : Int) < (l.length : Int) then _ else some false) = _
    rw [if_neg (by omega)], fun _ x hx => by rw [List.drop_eq_nil_of_le (by omega)] at hx; cases hx⟩
  | n + 1, k + 1, i, hi, hk => by
    show ∃ z, (if (i : Int) < (l.length : Int) then (if 0 ≤ (i : Int) then (if (((rd_T48 l i).f0).size : Int) > 1000 then (some true) else (headgatelaw10_Large.l0 k (wrap64 ((i : Int) + 1)) l t o g b)) else none) else some false) = some z ∧ _
    have hlt : i < l.length := by omega
    rw [if_pos (by omega), if_pos (by omega), w64 (by omega) (by omega), rd_at l i hlt]
    split
    · exact ⟨_, rfl, fun h => by cases h⟩
    · rename_i hs
      obtain ⟨z, hz, hx⟩ := large_l0 l t o g b hl n k (i + 1) (by omega) (by omega)
      refine ⟨z, hz, fun h x hm => ?_⟩
      rw [List.drop_eq_getElem_cons hlt, List.mem_cons] at hm
      rcases hm with rfl | hm
      · omega
      · exact hx h x hm
theorem Large_spec (k : Nat) (l : List S48) (t : Int) (o : ByteArray) (g : Int) (b : Bool) (hk : 220 ≤ k) : ∃ z, headgatelaw10_Large.f k l t o g b = some z ∧ (z = false → l.length ≤ 200 ∧ o.size ≤ 1000 ∧ ∀ x ∈ l, x.f0.size ≤ 1000) := by
  obtain ⟨k, rfl⟩ := Nat.exists_eq_add_of_le' (show 1 ≤ k by omega)
  unfold headgatelaw10_Large.f
  split
  · exact ⟨true, rfl, fun h => by cases h⟩
  · have hl : l.length ≤ 200 := by omega
    show ∃ z, (if (decide ((o.size : Int) > 1000)) = true then (some true) else (headgatelaw10_Large.l0 k 0 l t o g b)) = some z ∧ _
    split
    · exact ⟨true, rfl, fun h => by cases h⟩
    · rename_i ho
      obtain ⟨z, hz, hx⟩ := large_l0 l t o g b (by omega) l.length k 0 (by omega) (by omega)
      exact ⟨z, hz, fun h => ⟨hl, by have : ¬ ((o.size : Int) > 1000) := fun x => ho (decide_eq_true x); omega, hx h⟩⟩
theorem Copy_spec (l : List S48) (t : Int) (o : ByteArray) (g : Int) (b : Bool) (hl : l.length ≤ 200) : headgatekeep_CopyTable.f l t o g b = some (l, t, o, g, b) := by
  unfold headgatekeep_CopyTable.f
  rw [Option.bind_some, if_pos (by simp; omega)]
  rfl
theorem regs_l0 (l m : List S48) (e : l.length = m.length) (hl : l.length ≤ 1000) : ∀ (n k i : Nat), i + n = l.length → n + 1 ≤ k → ∃ z, headgatekeep_Regs.l0 k l m (i : Int) = some z ∧ (z = true ↔ l.drop i = m.drop i)
  | 0, k + 1, i, hi, hk => by
    refine ⟨true, ?_, ?_⟩
    · show (if (i : Int) < (l.length : Int) then _ else some true) = _
      rw [if_neg (by omega)]
    · rw [List.drop_eq_nil_of_le (by omega), List.drop_eq_nil_of_le (by omega)]
      simp
  | n + 1, k + 1, i, hi, hk => by
    have h1 : i < l.length := by omega
    have h2 : i < m.length := by omega
    show ∃ z, (if (i : Int) < (l.length : Int) then (if 0 ≤ (i : Int) then (if (i : Int) < (m.length : Int) then (if ((rd_T48 l i).f0).toList = ((rd_T48 m i).f0).toList then (if ((rd_T48 l i).f1) = ((rd_T48 m i).f1) then (headgatekeep_Regs.l0 k l m (wrap64 ((i : Int) + 1))) else (some false)) else (some false)) else (none)) else (none)) else (some true)) = some z ∧ _
    rw [if_pos (by omega), if_pos (by omega), if_pos (by omega), rd_at l i h1, rd_at m i h2, List.drop_eq_getElem_cons h1, List.drop_eq_getElem_cons h2]
    by_cases c1 : (l[i]).f0.toList = (m[i]).f0.toList
    · rw [if_pos c1]
      by_cases c2 : (l[i]).f1 = (m[i]).f1
      · rw [if_pos c2, w64 (by omega) (by omega)]
        obtain ⟨z, hz, hx⟩ := regs_l0 l m e hl n k (i + 1) (by omega) (by omega)
        refine ⟨z, hz, hx.trans ?_⟩
        have : l[i] = m[i] := by
          have c1' := (toList_inj' _ _).mp c1
          cases h3 : l[i]
          cases h4 : m[i]
          rw [h3, h4] at c1' c2
          simp only at c1' c2
          rw [c1', c2]
        rw [this, List.cons_inj_right]
      · rw [if_neg c2]
        exact ⟨false, rfl, by simp only [Bool.false_eq_true, false_iff, List.cons.injEq, not_and]; intro h; exact absurd (congrArg S48.f1 h) c2⟩
    · rw [if_neg c1]
      exact ⟨false, rfl, by simp only [Bool.false_eq_true, false_iff, List.cons.injEq, not_and]; intro h; exact absurd (congrArg (fun x => x.f0.toList) h) c1⟩
theorem Tables_spec (k : Nat) (l : List S48) (t : Int) (o : ByteArray) (g : Int) (b : Bool) (l' : List S48) (t' : Int) (o' : ByteArray) (g' : Int) (b' : Bool) (hl : l.length ≤ 300) (hk : 310 ≤ k) : ∃ z, headgatekeep_Tables.f k l t o g b l' t' o' g' b' = some z ∧ (z = true ↔ (l = l' ∧ t = t' ∧ o = o' ∧ g = g' ∧ b = b')) := by
  unfold headgatekeep_Tables.f headgatekeep_Regs.f
  by_cases e : l.length = l'.length
  · obtain ⟨z, hz, hx⟩ := regs_l0 l l' e (by omega) l.length k 0 (by omega) (by omega)
    simp only [List.drop_zero] at hx
    have hz' : headgatekeep_Regs.l0 k l l' 0 = some z := hz
    rw [if_pos (by omega), hz', Option.bind_some]
    by_cases h1 : l = l'
    · rw [if_pos (hx.mpr h1)]
      by_cases h2 : t = t'
      · rw [if_pos h2]
        by_cases h3 : o = o'
        · rw [if_pos (by rw [h3])]
          by_cases h4 : g = g'
          · rw [if_pos h4]
            refine ⟨_, rfl, ?_⟩
            rw [beq_iff_eq]
            exact ⟨fun h5 => ⟨h1, h2, h3, h4, h5⟩, fun z => z.2.2.2.2⟩
          · rw [if_neg h4]
            exact ⟨false, rfl, fun z => Bool.noConfusion z, fun z => absurd z.2.2.2.1 h4⟩
        · rw [if_neg (fun z => h3 ((toList_inj' _ _).mp z))]
          exact ⟨false, rfl, fun z => Bool.noConfusion z, fun z => absurd z.2.2.1 h3⟩
      · rw [if_neg h2]
        exact ⟨false, rfl, fun z => Bool.noConfusion z, fun z => absurd z.2.1 h2⟩
    · rw [if_neg (fun z => h1 (hx.mp z))]
      exact ⟨false, rfl, fun z => Bool.noConfusion z, fun z => absurd z.1 h1⟩
  · rw [if_neg (by omega), Option.bind_some, if_neg (by decide)]
    exact ⟨false, rfl, fun z => Bool.noConfusion z, fun z => absurd (by rw [z.1]) e⟩
/-- What a good table is. -/
def goodB (l : List S48) (typ : Int) (host : ByteArray) : Bool := if (l.length : Int) > 16 then false else if okAll_ l then holdOk_ l typ host else false
theorem Good_spec (l : List S48) (typ : Int) (host : ByteArray) (gen : Int) (apt : Bool) (hh : host.size ≤ 5000) (hl : ∀ x ∈ l, x.f0.size ≤ 5000) : resv_Good.f l typ host gen apt = some (goodB l typ host) := by
  unfold resv_Good.f goodB
  rw [if_pos ⟨by omega, fun x hx => by have := hl x hx; omega⟩]
theorem good_iff (l : List S48) (typ : Int) (host : ByteArray) : goodB l typ host = true ↔ l.length ≤ 16 ∧ okAll_ l ∧ holdOk_ l typ host = true := by
  unfold goodB
  by_cases h1 : (l.length : Int) > 16
  · rw [if_pos h1]
    exact ⟨fun h => Bool.noConfusion h, fun h => by omega⟩
  · rw [if_neg h1]
    by_cases h2 : okAll_ l
    · rw [if_pos h2]
      exact ⟨fun h => ⟨by omega, h2, h⟩, fun h => h.2.2⟩
    · rw [if_neg h2]
      exact ⟨fun h => Bool.noConfusion h, fun h => absurd h.2.1 h2⟩
theorem data_toList (a b : ByteArray) : a.data.toList = b.data.toList ↔ a.toList = b.toList := by
  rw [toList_inj']
  exact ⟨fun h => ByteArray.ext (Array.toList_inj.mp h), fun h => by rw [h]⟩
theorem mem_hosts (l : List S48) (i : Nat) (h : ByteArray) : h.data.toList ∈ hosts_ l i ↔ ∃ j, j < i ∧ ∃ hj : j < l.length, (l[j]).f0 = h := by
  unfold hosts_
  rw [List.mem_map]
  constructor
  · rintro ⟨x, hx, he⟩
    obtain ⟨j, hj, rfl⟩ := List.getElem_of_mem hx
    have hj1 : j < i := by have := hj; rw [List.length_take] at this; omega
    have hj2 : j < l.length := by have := hj; rw [List.length_take] at this; omega
    refine ⟨j, hj1, hj2, ?_⟩
    rw [List.getElem_take] at he
    exact ByteArray.ext (Array.toList_inj.mp he)
  · rintro ⟨j, hj, hl, rfl⟩
    refine ⟨l[j], ?_, rfl⟩
    rw [List.mem_take_iff_getElem]
    exact ⟨j, by omega, rfl⟩
theorem ok_at (l : List S48) (i : Nat) (hi : i < l.length) : okAt_ l i ↔ (∀ j, ∀ hj : j < i, (l[j]'(by omega)).f0 ≠ (l[i]).f0) ∧ nameB (l[i]).f0 = true ∧ (l[i]).f1 ≠ 0 := by
  unfold okAt_
  rw [rd_at l i hi, mem_hosts]
  refine and_congr_left' ?_
  exact ⟨fun h j hj e => h ⟨j, hj, by omega, e⟩, fun h ⟨j, hj, _, e⟩ => h j hj e⟩
theorem name_size {s : ByteArray} (h : nameB s = true) : 1 ≤ s.size ∧ s.size ≤ 64 := by
  unfold nameB at h
  rw [Bool.and_eq_true] at h
  have := of_decide_eq_true h.1
  exact ⟨this.1, this.2.1⟩
theorem reg_hosts (l : List S48) (h : ByteArray) : reg l h = decide (h.data.toList ∈ hosts_ l l.length) := by
  rw [Bool.eq_iff_iff, decide_eq_true_iff, mem_hosts]
  unfold reg
  rw [List.any_eq_true]
  constructor
  · rintro ⟨x, hx, he⟩
    obtain ⟨j, hj, rfl⟩ := List.getElem_of_mem hx
    exact ⟨j, hj, hj, (toList_inj' _ _).mp (of_decide_eq_true he)⟩
  · rintro ⟨j, _, hj, rfl⟩
    exact ⟨l[j], List.getElem_mem hj, decide_eq_true rfl⟩
end Go.Proofs.YtmpicpenbhdbhaaDoor.Pure
