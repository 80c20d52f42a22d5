/- What the document's Good and Encode make of a table. -/
import Derived.Test.YtmpicpenbhdbhaaDoorImageLib
namespace Go.Proofs.YtmpicpenbhdbhaaDoor.Pure
open Go.RowKit Go.Proofs.YtmpicpenbhdbhaaDoor.P Go.Proofs.YtmpicpenbhdbhaaDoorW.PrintWords Go.Proofs.YtmpicpenbhdbhaaDoorW.PrintLast Go.Proofs.YtmpicpenbhdbhaaDoorW.PrintMore Go.Proofs.YtmpicpenbhdbhaaDoor.Num
set_option linter.unusedVariables false
set_option linter.unusedSimpArgs false

theorem alone_spec (t : Int) : headgateref11_alone.f t = some (decide (1 ≤ t ∧ t ≤ 4)) := by
  unfold headgateref11_alone.f
  by_cases h : t ≥ 1
  · rw [if_pos h]
    by_cases h2 : t ≤ 4
    · rw [decide_eq_true h2, decide_eq_true ⟨h, h2⟩]
    · rw [decide_eq_false h2, decide_eq_false (fun z => h2 z.2)]
  · rw [if_neg h, decide_eq_false (fun z => h z.1)]
theorem refType_spec (t : Int) : headgateref10_Type.f t = some (decide (1 ≤ t ∧ t ≤ 6)) := by
  unfold headgateref10_Type.f
  by_cases h : t ≥ 1
  · rw [if_pos h]
    by_cases h2 : t ≤ 6
    · rw [decide_eq_true h2, decide_eq_true ⟨h, h2⟩]
    · rw [decide_eq_false h2, decide_eq_false (fun z => h2 z.2)]
  · rw [if_neg h, decide_eq_false (fun z => h z.1)]
theorem good_end (l : List S48) (typ : Int) (host : ByteArray) (gen : Int) (apt : Bool) (hl : l.length ≤ 16) (k : Nat) (hk : 220 ≤ k) : headgateref11_Good.l0 k (l.length : Int) l typ host gen apt = some (holdOk_ l typ host) := by
  obtain ⟨k, rfl⟩ : ∃ q, k = q + 1 := ⟨k - 1, by omega⟩
  rw [headgateref11_Good.l0, if_neg (by omega)]
  unfold holdOk_
  by_cases h0 : typ = 0
  · rw [if_pos h0, if_pos h0]
  · rw [if_neg h0, if_neg h0, alone_spec, Option.bind_some]
    by_cases h1 : 1 ≤ typ ∧ typ ≤ 4
    · rw [decide_eq_true h1, if_pos rfl, ref_spec k l typ host gen apt host (by omega) (by omega), Option.bind_some, if_neg (show ¬ (typ < 1 ∨ 6 < typ) by omega), if_neg (show ¬ (typ = 5 ∨ typ = 6) by omega), reg_hosts]
    · rw [decide_eq_false h1, if_neg (by decide), refType_spec, Option.bind_some]
      by_cases h2 : 1 ≤ typ ∧ typ ≤ 6
      · rw [decide_eq_true h2, if_pos rfl, if_neg (show ¬ (typ < 1 ∨ 6 < typ) by omega), if_pos (show typ = 5 ∨ typ = 6 by omega)]
        by_cases h3 : host.toList = ([] : List UInt8)
        · rw [if_pos h3, beq_iff_eq.mpr h3, Bool.true_and]
          congr 1
          rw [decide_eq_decide]
          omega
        · rw [if_neg h3, beq_eq_false_iff_ne.mpr h3, Bool.false_and]
      · rw [decide_eq_false h2, if_neg (by decide), if_pos (by omega)]
open Classical in
theorem good_l1 (l : List S48) (typ : Int) (host : ByteArray) (gen : Int) (apt : Bool) (hl : l.length ≤ 16) (i : Nat) (hi : i < l.length) (R : Bool) (K : Nat) (hR : ∀ k, K ≤ k → headgateref11_Good.l0 k ((i + 1 : Nat) : Int) l typ host gen apt = some R) : ∀ (n k j : Nat), j + n = i → K + n + 1 ≤ k →
    headgateref11_Good.l1 k (i : Int) (j : Int) l typ host gen apt = some (if ∃ j', j ≤ j' ∧ j' < i ∧ (rd_T48 l (j' : Int)).f0.toList = (rd_T48 l (i : Int)).f0.toList then false else R)
  | 0, k + 1, j, hj, hk => by
    rw [headgateref11_Good.l1, if_neg (by omega), if_neg (fun ⟨j', h1, h2, _⟩ => by omega), w64 (by omega) (by omega)]
    exact hR k (by omega)
  | n + 1, k + 1, j, hj, hk => by
    rw [headgateref11_Good.l1, if_pos (by omega), if_pos (by omega), if_pos (by omega), if_pos (by omega), if_pos (by omega)]
    by_cases hc : (rd_T48 l (j : Int)).f0.toList = (rd_T48 l (i : Int)).f0.toList
    · rw [if_pos hc, if_pos ⟨j, Nat.le_refl _, by omega, hc⟩]
    · rw [if_neg hc, w64 (by omega) (by omega)]
      have := good_l1 l typ host gen apt hl i hi R K hR n k (j + 1) (by omega) (by omega)
      have e : (∃ j', j ≤ j' ∧ j' < i ∧ (rd_T48 l (j' : Int)).f0.toList = (rd_T48 l (i : Int)).f0.toList) ↔ (∃ j', j + 1 ≤ j' ∧ j' < i ∧ (rd_T48 l (j' : Int)).f0.toList = (rd_T48 l (i : Int)).f0.toList) := by
        constructor
        · rintro ⟨j', h1, h2, h3⟩
          by_cases h4 : j' = j
          · subst h4; exact absurd h3 hc
          · exact ⟨j', by omega, h2, h3⟩
        · rintro ⟨j', h1, h2, h3⟩
          exact ⟨j', by omega, h2, h3⟩
      simp only [e]
      exact this
theorem okAt_dup (l : List S48) (i : Nat) (hi : i < l.length) : (∃ j', 0 ≤ j' ∧ j' < i ∧ (rd_T48 l (j' : Int)).f0.toList = (rd_T48 l (i : Int)).f0.toList) ↔ (rd_T48 l (i : Int)).f0.data.toList ∈ hosts_ l i := by
  rw [rd_at l i hi, mem_hosts]
  constructor
  · rintro ⟨j, _, h2, h3⟩
    have hj : j < l.length := by omega
    rw [rd_at l j hj] at h3
    exact ⟨j, h2, hj, (toList_inj' _ _).mp h3⟩
  · rintro ⟨j, h2, hj, h3⟩
    exact ⟨j, Nat.zero_le _, h2, by rw [rd_at l j hj, h3]⟩
open Classical in
theorem good_l0 (l : List S48) (typ : Int) (host : ByteArray) (gen : Int) (apt : Bool) (hl : l.length ≤ 16) : ∀ (n k i : Nat), i + n = l.length → 220 + 30 * n ≤ k →
    headgateref11_Good.l0 k (i : Int) l typ host gen apt = some (if ∀ j, i ≤ j → j < l.length → okAt_ l j then holdOk_ l typ host else false)
  | 0, k, i, hi, hk => by
    have : i = l.length := by omega
    subst this
    rw [good_end l typ host gen apt hl k (by omega), if_pos (fun j h1 h2 => by omega)]
  | n + 1, k, i, hi, hk => by
    obtain ⟨k, rfl⟩ : ∃ q, k = q + 2 := ⟨k - 2, by omega⟩
    have hlt : i < l.length := by omega
    have ih := fun k' (hk' : 220 + 30 * n ≤ k') => good_l0 l typ host gen apt hl n k' (i + 1) (by omega) hk'
    have e1 := good_l1 l typ host gen apt hl i hlt _ (220 + 30 * n) ih i k 0 (by omega) (by omega)
    have split_ : (∀ j, i ≤ j → j < l.length → okAt_ l j) ↔ okAt_ l i ∧ (∀ j, i + 1 ≤ j → j < l.length → okAt_ l j) := by
      constructor
      · exact fun h => ⟨h i (Nat.le_refl _) hlt, fun j h1 h2 => h j (by omega) h2⟩
      · rintro ⟨h1, h2⟩ j h3 h4
        by_cases h5 : j = i
        · subst h5; exact h1
        · exact h2 j (by omega) h4
    rw [headgateref11_Good.l0, if_pos (by omega), if_pos (by omega), ref_Name_spec (k + 1) _ (by omega), Option.bind_some]
    have hok : okAt_ l i = ((rd_T48 l (i : Int)).f0.data.toList ∉ hosts_ l i ∧ nameB (rd_T48 l (i : Int)).f0 = true ∧ (rd_T48 l (i : Int)).f1 ≠ 0) := rfl
    by_cases hn : nameB (rd_T48 l (i : Int)).f0 = true
    · rw [if_pos hn]
      by_cases hk0 : (rd_T48 l (i : Int)).f1 = 0
      · rw [beq_iff_eq.mpr hk0, headgateref11_Good.j1, if_pos rfl, if_neg]
        intro h
        have := (split_.mp h).1
        rw [hok] at this
        exact this.2.2 hk0
      · rw [beq_eq_false_iff_ne.mpr hk0, headgateref11_Good.j1, if_neg (by decide)]
        refine e1.trans (congrArg some ?_)
        by_cases hd : (rd_T48 l (i : Int)).f0.data.toList ∈ hosts_ l i
        · rw [if_pos ((okAt_dup l i hlt).mpr hd), if_neg]
          intro h
          have := (split_.mp h).1
          rw [hok] at this
          exact this.1 hd
        · rw [if_neg (fun h => hd ((okAt_dup l i hlt).mp h))]
          have h1 : okAt_ l i := by rw [hok]; exact ⟨hd, hn, hk0⟩
          by_cases h2 : ∀ j, i + 1 ≤ j → j < l.length → okAt_ l j
          · rw [if_pos h2, if_pos (split_.mpr ⟨h1, h2⟩)]
          · rw [if_neg h2, if_neg (fun h => h2 (split_.mp h).2)]
    · rw [if_neg hn, headgateref11_Good.j1, if_pos rfl, if_neg]
      intro h
      have := (split_.mp h).1
      rw [hok] at this
      exact hn this.2.1
theorem ref_Good_spec (l : List S48) (typ : Int) (host : ByteArray) (gen : Int) (apt : Bool) (k : Nat) (hk : 800 ≤ k) : headgateref11_Good.f k l typ host gen apt = some (goodB l typ host) := by
  unfold headgateref11_Good.f goodB
  by_cases h : (l.length : Int) > 16
  · rw [if_pos h, if_pos h]
  · rw [if_neg h, if_neg h]
    have := good_l0 l typ host gen apt (by omega) l.length k 0 (by omega) (by omega)
    refine this.trans (congrArg some ?_)
    have e : (∀ j, 0 ≤ j → j < l.length → okAt_ l j) ↔ okAll_ l := ⟨fun h j hj => h j (Nat.zero_le _) hj, fun h j _ hj => h j hj⟩
    by_cases h2 : okAll_ l
    · rw [if_pos (e.mpr h2), if_pos h2]
    · rw [if_neg (fun z => h2 (e.mp z)), if_neg h2]
theorem ref_enc_l0 (l : List S48) (typ : Int) (host : ByteArray) (gen : Int) (apt : Bool) (hl : l.length ≤ 16) (hok : okAll_ l) : ∀ (n k i : Nat) (x : Int), i + n = l.length → x = (if pos l host ≤ i then (pos l host : Int) else 0) →
    headgateref12_Encode.l0 (k + n + 1) x (i : Int) l typ host gen apt = (if apt = true then headgateref12_Encode.j1 k (pos l host : Int) 1 l typ host gen apt else headgateref12_Encode.j1 k (pos l host : Int) 0 l typ host gen apt)
  | 0, k, i, x, hi, hx => by
    have := pos_le l host
    rw [if_pos (by omega)] at hx
    rw [headgateref12_Encode.l0, if_neg (by omega), hx]
  | n + 1, k, i, x, hi, hx => by
    have hlt : i < l.length := by omega
    have hsm := (ok_small hok l[i] (List.getElem_mem hlt)).2
    rw [show k + (n + 1) + 1 = (k + n + 1) + 1 by omega, headgateref12_Encode.l0, if_pos (by omega), w64 (by omega) (by omega)]
    have hmiss : (l[i]).f0 ≠ host → pos l host ≠ i + 1 := fun h1 h2 => by
      obtain ⟨_, h3⟩ := pos_hit h2
      exact h1 h3
    by_cases h0 : host.toList = ([] : List UInt8)
    · rw [if_pos h0]
      refine ref_enc_l0 l typ host gen apt hl hok n k (i + 1) x (by omega) ?_
      have hne : (l[i]).f0 ≠ host := fun e => by
        rw [e] at hsm
        have : host.size = 0 := by
          have e2 : host = (⟨#[]⟩ : ByteArray) := (toList_inj' _ _).mp (by rw [h0, ByteArray.toList_eq])
          rw [e2]; rfl
        omega
      have := hmiss hne
      rw [hx]
      by_cases h2 : pos l host ≤ i
      · rw [if_pos h2, if_pos (by omega)]
      · rw [if_neg h2, if_neg (by omega)]
    · rw [if_neg h0, if_pos (by omega), rd_at l i hlt]
      by_cases hc : (l[i]).f0.toList = host.toList
      · rw [if_pos hc]
        have hp := pos_of hok hlt ((toList_inj' _ _).mp hc)
        exact ref_enc_l0 l typ host gen apt hl hok n k (i + 1) _ (by omega) (by rw [if_pos (by omega), hp]; omega)
      · rw [if_neg hc]
        refine ref_enc_l0 l typ host gen apt hl hok n k (i + 1) x (by omega) ?_
        have := hmiss (fun e => hc (by rw [e]))
        rw [hx]
        by_cases h2 : pos l host ≤ i
        · rw [if_pos h2, if_pos (by omega)]
        · rw [if_neg h2, if_neg (by omega)]
theorem ref_Encode_spec (l : List S48) (typ : Int) (host : ByteArray) (gen : Int) (apt : Bool) (hw : wideT l gen) (k : Nat) (hk : 6000 ≤ k) :
    headgateref12_Encode.f k l typ host gen apt = some (if goodB l typ host = true then (encT l typ host gen apt, 0) else (⟨#[]⟩, 1)) := by
  unfold headgateref12_Encode.f
  rw [ref_Good_spec l typ host gen apt k (by omega), Option.bind_some]
  by_cases hg : goodB l typ host = true
  · rw [if_pos hg, if_pos hg]
    obtain ⟨h1, h2, h3⟩ := (good_iff l typ host).mp hg
    obtain ⟨q, rfl⟩ : ∃ q, k = q + l.length + 1 := ⟨k - l.length - 1, by omega⟩
    have h := ref_enc_l0 l typ host gen apt h1 h2 l.length q 0 0 (by omega) (by
      by_cases h : pos l host ≤ 0
      · rw [if_pos h]; omega
      · rw [if_neg h])
    refine (show headgateref12_Encode.l0 (q + l.length + 1) 0 0 l typ host gen apt = _ from h).trans ?_
    rw [ref_enc_j1 l typ host gen apt _ 1 h1 (ok_small h2) hw q (by omega), ref_enc_j1 l typ host gen apt _ 0 h1 (ok_small h2) hw q (by omega)]
    unfold encT
    cases apt <;> rfl
  · rw [if_neg hg, if_neg hg]
end Go.Proofs.YtmpicpenbhdbhaaDoor.Pure
