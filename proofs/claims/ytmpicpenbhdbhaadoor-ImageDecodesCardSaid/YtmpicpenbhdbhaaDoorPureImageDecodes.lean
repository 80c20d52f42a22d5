/- The table of any text is the one that the document tells, or the text is no image. -/
import Derived.Test.YtmpicpenbhdbhaaDoorPx11
import Derived.Test.YtmpicpenbhdbhaaDoorRq
import Derived.Test.YtmpicpenbhdbhaaDoorImageWakes
import Derived.Test.YtmpicpenbhdbhaaDoorImageRef
namespace Go.Proofs.YtmpicpenbhdbhaaDoor.Pure
open Go.RowKit Go.Proofs.YtmpicpenbhdbhaaDoor.P Go.Proofs.YtmpicpenbhdbhaaDoorW.PrintWords Go.Proofs.YtmpicpenbhdbhaaDoorW.PrintLast Go.Proofs.YtmpicpenbhdbhaaDoorW.PrintMore Go.Proofs.YtmpicpenbhdbhaaDoor.Num
set_option linter.unusedVariables false
set_option linter.unusedSimpArgs false

theorem bt_w (s : ByteArray) (i : Int) : wrap64 (bt s i) = bt s i := by
  have := bt_bounds s i
  exact w64 (by omega) (by omega)
theorem there8 (s : ByteArray) (a : Nat) : there s (a : Int) 8 = decide (a + 8 ≤ s.size) := by
  unfold there
  rw [decide_eq_decide]
  omega
/-- The end: whose host is it, and is it the text's own image? -/
theorem ref_dec_end (s : ByteArray) (h16 : 16 ≤ s.size) (hm : s.size ≤ 10000) (l : List S48) (typ gen : Int) (on : Bool) (hw : wideT l gen) (x7 x8 : Int) (k : Nat) (hk : 6010 ≤ k) :
    ∃ r, headgateref12_Decode.j1 k s x7 x8 false l typ (⟨#[]⟩ : ByteArray) gen on = some r ∧ okR s r := by
  obtain ⟨k, rfl⟩ : ∃ q, k = q + 1 := ⟨k - 1, by omega⟩
  have hfin : ∀ hh : ByteArray, ∃ r, (headgateref12_Encode.f k l typ hh gen on).bind (fun bt => if bt.2 = 0 then (if bt.1.toList = s.toList then (some (l, typ, hh, gen, on, 0)) else (some (([] : List S48), 0, (⟨#[]⟩ : ByteArray), 0, false, 61))) else (some (([] : List S48), 0, (⟨#[]⟩ : ByteArray), 0, false, 61))) = some r ∧ okR s r := by
    intro hh
    rw [ref_Encode_spec l typ hh gen on hw k (by omega), Option.bind_some]
    by_cases hg : goodB l typ hh = true
    · rw [if_pos hg, if_pos rfl]
      by_cases he : (encT l typ hh gen on).toList = s.toList
      · rw [if_pos he]
        exact ⟨_, rfl, Or.inr ⟨l, typ, hh, gen, on, rfl, hg, hw, (toList_inj' _ _).mp he⟩⟩
      · rw [if_neg he]
        exact ⟨_, rfl, Or.inl rfl⟩
    · rw [if_neg hg, if_neg (show ¬ ((1 : Int) = 0) by decide)]
      exact ⟨_, rfl, Or.inl rfl⟩
  have hb := bt_bounds s 9
  rw [headgateref12_Decode.j1, if_neg (by decide), if_pos (show (9 : Int) < (s.size : Int) by omega), bt_w]
  by_cases h0 : bt s 9 > 0
  · rw [if_pos h0]
    by_cases h1 : bt s 9 > (l.length : Int)
    · rw [if_pos h1]
      exact ⟨_, rfl, Or.inl rfl⟩
    · rw [if_neg h1, w64 (by omega) (by omega), if_pos (show 0 ≤ bt s 9 - 1 by omega), if_pos (show bt s 9 - 1 < (l.length : Int) by omega)]
      exact hfin _
  · rw [if_neg h0]
    exact hfin _
theorem ref_dec_l0 (s : ByteArray) (h16 : 16 ≤ s.size) (hm : s.size ≤ 10000) (typ gen : Int) (on : Bool) (hg : 0 ≤ gen ∧ gen < 4294967296) : ∀ (n k i a : Nat) (l : List S48), i + n = 17 → 6020 + 3 * n ≤ k → a ≤ s.size → l.length = i → (∀ x ∈ l, 0 ≤ x.f1 ∧ x.f1 < 18446744073709551616) →
    ∃ r, headgateref12_Decode.l0 k s (a : Int) (i : Int) l typ (⟨#[]⟩ : ByteArray) gen on = some r ∧ okR s r
  | n, k, i, a, l, hi, hk, ha, hl, hx => by
    obtain ⟨k, rfl⟩ : ∃ q, k = q + 2 := ⟨k - 2, by omega⟩
    have hend := fun x7 x8 => ref_dec_end s h16 hm l typ gen on ⟨hg.1, hg.2, hx⟩ x7 x8 (k + 1) (by omega)
    rw [headgateref12_Decode.l0, if_pos (show (11 : Int) < (s.size : Int) by omega), bt_w]
    by_cases c1 : (i : Int) < bt s 11
    · rw [if_pos c1]
      match n, hi, hk with
      | 0, hi, hk =>
        rw [decide_eq_false (by omega)]
        exact hend _ _
      | n + 1, hi, hk =>
        rw [decide_eq_true (by omega), headgateref12_Decode.j1, if_pos rfl, ref_Big_spec s _ _ (by omega) k (by omega), Option.bind_some, there8]
        by_cases c2 : a + 8 ≤ s.size
        · rw [decide_eq_true c2, if_pos rfl, if_pos rfl, w64 (n := (a : Int) + 9) (by omega) (by omega)]
          by_cases c3 : (a : Int) + 9 > (s.size : Int)
          · rw [if_pos c3]
            exact ⟨_, rfl, Or.inl rfl⟩
          · have hb := bt_bounds s ((a : Int) + 8)
            rw [if_neg c3, w64 (n := (a : Int) + 8) (by omega) (by omega), if_pos (show 0 ≤ (a : Int) + 8 by omega), if_pos (show (a : Int) + 8 < (s.size : Int) by omega), bt_w, w64 (n := (s.size : Int) - a) (by omega) (by omega), w64 (n := (s.size : Int) - a - 9) (by omega) (by omega)]
            by_cases c4 : bt s ((a : Int) + 8) > (s.size : Int) - a - 9
            · rw [if_pos c4]
              exact ⟨_, rfl, Or.inl rfl⟩
            · rw [if_neg c4, if_pos (show 0 ≤ (a : Int) + 9 by omega), w64 (n := (a : Int) + 9 + bt s ((a : Int) + 8)) (by omega) (by omega), if_pos (by omega), if_pos (by omega), if_pos (show l.length < 5864062014805 by omega), w64 (n := 9 + bt s ((a : Int) + 8)) (by omega) (by omega), w64 (n := (a : Int) + (9 + bt s ((a : Int) + 8))) (by omega) (by omega), w64 (n := (i : Int) + 1) (by omega) (by omega)]
              obtain ⟨c, hc⟩ : ∃ c : Nat, bt s ((a : Int) + 8) = c := ⟨_, (Int.toNat_of_nonneg hb.1).symm⟩
              rw [hc] at c4 hb ⊢
              have hbe := be_bounds s (a : Int) 8
              rw [p8] at hbe
              have := ref_dec_l0 s h16 hm typ gen on hg n k (i + 1) (a + (9 + c)) (l ++ [(⟨s.extract ((a : Int) + 9).toNat ((a : Int) + 9 + (c : Int)).toNat, be s (a : Int) (8 : Int).toNat⟩ : S48)]) (by omega) (by omega) (by omega) (by rw [List.length_append, hl]; rfl) (fun x hx' => by
                rcases List.mem_append.mp hx' with h | h
                · exact hx x h
                · rw [List.mem_singleton] at h
                  rw [h]
                  exact hbe)
              exact this
        · rw [decide_eq_false c2]
          simp only [Bool.false_eq_true, if_false]
          exact ⟨_, rfl, Or.inl rfl⟩
    · rw [if_neg c1]
      exact hend _ _
theorem ref_Decode_any (k : Nat) (hk : 7000 ≤ k) (s : ByteArray) (hm : s.size ≤ 10000) : ∃ r, headgateref12_Decode.f k s = some r ∧ okR s r := by
  unfold headgateref12_Decode.f
  by_cases h16 : (s.size : Int) < 16
  · rw [if_pos h16]
    exact ⟨_, rfl, Or.inl rfl⟩
  · have hbe := be_bounds s 4 4
    rw [p4] at hbe
    rw [if_neg h16, ref_Big_spec s _ _ (by omega) k (by omega), Option.bind_some, if_pos (show (8 : Int) < (s.size : Int) by omega), if_pos (show (10 : Int) < (s.size : Int) by omega)]
    rw [if_pos (by unfold there; exact decide_eq_true ⟨by omega, by omega, by omega, by omega⟩)]
    exact ref_dec_l0 s (by omega) hm _ _ _ ⟨by omega, by omega⟩ 17 k 0 12 [] rfl (by omega) (by omega) rfl (fun x hx => by cases hx)
theorem be_at (A B : ByteArray) (v : Int) (n : Nat) (h0 : 0 ≤ v) (h1 : v < p n) : be (A ++ (strOfNums (beL v n) ++ B)) (A.size : Int) n = v := by
  have hs : (strOfNums (beL v n)).size = n := by rw [strOfNums_size, beL_length]
  rw [be_same _ (strOfNums (beL v n)) (A.size : Int) 0 n (fun i hi => by
    rw [bt_append_right _ _ _ (by omega) (by rw [ByteArray.size_append, hs]; omega), bt_append_left _ _ _ (by omega) (by rw [hs]; omega)]
    congr 1
    omega), be_beL v n h0 h1]
theorem bt_one (A B : ByteArray) (x : Int) (i : Int) (h : i = (A.size : Int)) : bt (A ++ (strOfNums [x % 256] ++ B)) i = x % 256 := by
  subst h
  have hs : (strOfNums [x % 256]).size = 1 := by rw [strOfNums_size]; rfl
  rw [bt_append_right _ _ _ (by omega) (by rw [ByteArray.size_append, hs]; omega), bt_append_left _ _ _ (by omega) (by rw [hs]; omega), Int.sub_self]
  exact strOfNums_get [x % 256] 0 (by simp) (by simp only [List.getElem_cons_zero]; omega)
theorem ref_regs (s D : ByteArray) (hm : s.size ≤ 10000) (h12 : 12 ≤ s.size) (l : List S48) (hl : l.length ≤ 16) (hs : small l) (hw : ∀ x ∈ l, 0 ≤ x.f1 ∧ x.f1 < 18446744073709551616) (hb : bt s 11 = (l.length : Int)) (typ gen : Int) (on : Bool) : ∀ (n k i : Nat) (P : ByteArray), i + n = l.length → 20 ≤ k → s = P ++ (regsW (l.drop i) ++ D) →
    ∃ x7 x8, headgateref12_Decode.l0 (k + 2 * n + 1) s (P.size : Int) (i : Int) (l.take i) typ (⟨#[]⟩ : ByteArray) gen on = headgateref12_Decode.j1 k s x7 x8 false l typ (⟨#[]⟩ : ByteArray) gen on
  | 0, k, i, P, hi, hk, he => by
    refine ⟨(P.size : Int), (i : Int), ?_⟩
    rw [headgateref12_Decode.l0, if_pos (show (11 : Int) < (s.size : Int) by omega), bt_w, hb, if_neg (by omega), List.take_of_length_le (by omega)]
  | n + 1, k, i, P, hi, hk, he => by
    have hlt : i < l.length := by omega
    have hx := hs l[i] (List.getElem_mem hlt)
    have hy := hw l[i] (List.getElem_mem hlt)
    have e1 : s = P ++ (strOfNums (beL l[i].f1 8) ++ (strOfNums [(l[i].f0.size : Int) % 256] ++ (l[i].f0 ++ (regsW (l.drop (i + 1)) ++ D)))) := by
      rw [he, List.drop_eq_getElem_cons hlt]
      show P ++ ((((strOfNums (beL l[i].f1 8) ++ strOfNums [(l[i].f0.size : Int) % 256]) ++ l[i].f0) ++ regsW (l.drop (i + 1))) ++ D) = _
      simp only [ByteArray.append_assoc]
    have s8 : (strOfNums (beL l[i].f1 8)).size = 8 := by rw [strOfNums_size, beL_length]
    have s1 : (strOfNums [(l[i].f0.size : Int) % 256]).size = 1 := by rw [strOfNums_size]; rfl
    have hsz : s.size = P.size + (8 + (1 + (l[i].f0.size + (regsW (l.drop (i + 1)) ++ D).size))) := by
      have := congrArg ByteArray.size e1
      rw [ByteArray.size_append, ByteArray.size_append, ByteArray.size_append, ByteArray.size_append, s8, s1] at this
      exact this
    have hbe : be s (P.size : Int) (8 : Int).toNat = l[i].f1 := by
      have := be_at P (strOfNums [(l[i].f0.size : Int) % 256] ++ (l[i].f0 ++ (regsW (l.drop (i + 1)) ++ D))) l[i].f1 8 hy.1 (by rw [p8]; exact hy.2)
      rw [← e1] at this
      exact this
    have hbt : bt s ((P.size : Int) + 8) = (l[i].f0.size : Int) := by
      have := bt_one (P ++ strOfNums (beL l[i].f1 8)) (l[i].f0 ++ (regsW (l.drop (i + 1)) ++ D)) (l[i].f0.size : Int) ((P.size : Int) + 8) (by rw [ByteArray.size_append, s8]; omega)
      rw [ByteArray.append_assoc, ← e1] at this
      rw [this]
      omega
    have hcut : s.extract ((P.size : Int) + 9).toNat ((P.size : Int) + 9 + (l[i].f0.size : Int)).toNat = l[i].f0 := by
      have := cut_mid ((P ++ strOfNums (beL l[i].f1 8)) ++ strOfNums [(l[i].f0.size : Int) % 256]) l[i].f0 (regsW (l.drop (i + 1)) ++ D) ((P.size : Int) + 9).toNat ((P.size : Int) + 9 + (l[i].f0.size : Int)).toNat (by rw [ByteArray.size_append, ByteArray.size_append, s8, s1]; omega) (by rw [ByteArray.size_append, ByteArray.size_append, s8, s1]; omega)
      rw [ByteArray.append_assoc, ByteArray.append_assoc, ← e1] at this
      exact this
    have e2 : s = (P ++ regW l[i]) ++ (regsW (l.drop (i + 1)) ++ D) := by
      rw [e1]
      show _ = (P ++ ((strOfNums (beL l[i].f1 8) ++ strOfNums [(l[i].f0.size : Int) % 256]) ++ l[i].f0)) ++ _
      simp only [ByteArray.append_assoc]
    obtain ⟨x7, x8, ih⟩ := ref_regs s D hm h12 l hl hs hw hb typ gen on n k (i + 1) (P ++ regW l[i]) (by omega) hk e2
    refine ⟨x7, x8, ?_⟩
    rw [← ih, show k + 2 * (n + 1) + 1 = (k + 2 * n + 1) + 2 by omega, headgateref12_Decode.l0, if_pos (show (11 : Int) < (s.size : Int) by omega), bt_w, hb, if_pos (by omega), decide_eq_true (by omega), headgateref12_Decode.j1, if_pos rfl, ref_Big_spec s _ _ (by omega) _ (by omega), Option.bind_some, there8, decide_eq_true (by omega), if_pos rfl, if_pos rfl, hbe]
    rw [w64 (n := (P.size : Int) + 9) (by omega) (by omega), if_neg (by omega), w64 (n := (P.size : Int) + 8) (by omega) (by omega), if_pos (show 0 ≤ (P.size : Int) + 8 by omega), if_pos (show (P.size : Int) + 8 < (s.size : Int) by omega), bt_w, hbt, w64 (n := (s.size : Int) - (P.size : Int)) (by omega) (by omega), w64 (n := (s.size : Int) - (P.size : Int) - 9) (by omega) (by omega), if_neg (by omega), if_pos (show 0 ≤ (P.size : Int) + 9 by omega), w64 (n := (P.size : Int) + 9 + (l[i].f0.size : Int)) (by omega) (by omega), if_pos (by omega), if_pos (by omega), if_pos (show (l.take i).length < 5864062014805 by rw [List.length_take]; omega), w64 (n := 9 + (l[i].f0.size : Int)) (by omega) (by omega), w64 (n := (P.size : Int) + (9 + (l[i].f0.size : Int))) (by omega) (by omega), w64 (n := (i : Int) + 1) (by omega) (by omega), hcut]
    have et : l.take i ++ [(⟨l[i].f0, l[i].f1⟩ : S48)] = l.take (i + 1) := by
      rw [List.take_add_one, List.getElem?_eq_getElem hlt]
      rfl
    have ep : ((P ++ regW l[i]).size : Int) = (P.size : Int) + (9 + (l[i].f0.size : Int)) := by
      rw [ByteArray.size_append, regW_size]
      omega
    rw [et, ep]
    rfl
/-- What was kept is read as it was by the document's reader, too. -/
theorem ref_Decode_img (k : Nat) (hk : 7000 ≤ k) (l : List S48) (typ : Int) (host : ByteArray) (gen : Int) (apt : Bool) (hg : goodB l typ host = true) (hw : wideT l gen) : headgateref12_Decode.f k (encT l typ host gen apt) = some (l, typ, host, gen, apt, 0) := by
  obtain ⟨h16, hok, hh⟩ := (good_iff l typ host).mp hg
  have hp := pos_le l host
  have ht := hold_typ hh
  have hsm := ok_small hok
  obtain ⟨s, hs⟩ : ∃ s, s = encT l typ host gen apt := ⟨_, rfl⟩
  obtain ⟨D, hD⟩ : ∃ D, D = dig (bodyW l typ (pos l host : Int) (onOf apt) gen) := ⟨_, rfl⟩
  have hDs : D.size = 4 := by rw [hD]; exact dig_size _
  have e0 : s = headW typ (pos l host : Int) (onOf apt) (l.length : Int) gen ++ (regsW l ++ D) := by
    rw [hs, hD]
    show (headW typ (pos l host : Int) (onOf apt) (l.length : Int) gen ++ regsW l) ++ _ = _
    rw [ByteArray.append_assoc]
    rfl
  have hon : onOf apt % 256 = onOf apt := by cases apt <;> rfl
  have e1 := head_split typ (pos l host : Int) (onOf apt) (l.length : Int) gen (regsW l ++ D)
  rw [← e0] at e1
  have hr := regsW_size l (fun x hx => (hsm x hx).1)
  have hsz : s.size = 12 + ((regsW l).size + 4) := by
    rw [e0, ByteArray.size_append, headW_size, ByteArray.size_append, hDs]
  have s4 : (strOfNums (beL gen 4)).size = 4 := by rw [strOfNums_size, beL_length]
  have sm : magic.size = 4 := rfl
  have s1 : ∀ x : Int, (strOfNums [x]).size = 1 := fun x => by rw [strOfNums_size]; rfl
  have b4 : be s 4 4 = gen := by
    have := be_at magic (strOfNums [typ % 256] ++ (strOfNums [((pos l host : Nat) : Int) % 256] ++ (strOfNums [onOf apt] ++ (strOfNums [(l.length : Int) % 256] ++ (regsW l ++ D))))) gen 4 hw.1 (by rw [p4]; exact hw.2.1)
    rw [← e1] at this
    exact this
  have b8 : bt s 8 = typ := by
    have := bt_one (magic ++ strOfNums (beL gen 4)) (strOfNums [((pos l host : Nat) : Int) % 256] ++ (strOfNums [onOf apt] ++ (strOfNums [(l.length : Int) % 256] ++ (regsW l ++ D)))) typ 8 (by rw [ByteArray.size_append, s4, sm]; rfl)
    rw [ByteArray.append_assoc, ← e1] at this
    rw [this]
    omega
  have b9 : bt s 9 = (pos l host : Int) := by
    have := bt_one ((magic ++ strOfNums (beL gen 4)) ++ strOfNums [typ % 256]) (strOfNums [onOf apt] ++ (strOfNums [(l.length : Int) % 256] ++ (regsW l ++ D))) ((pos l host : Nat) : Int) 9 (by rw [ByteArray.size_append, ByteArray.size_append, s4, sm, s1]; rfl)
    rw [ByteArray.append_assoc, ByteArray.append_assoc, ← e1] at this
    rw [this]
    omega
  have b10 : bt s 10 = onOf apt := by
    have := bt_one (((magic ++ strOfNums (beL gen 4)) ++ strOfNums [typ % 256]) ++ strOfNums [((pos l host : Nat) : Int) % 256]) (strOfNums [(l.length : Int) % 256] ++ (regsW l ++ D)) (onOf apt) 10 (by rw [ByteArray.size_append, ByteArray.size_append, ByteArray.size_append, s4, sm, s1, s1]; rfl)
    rw [ByteArray.append_assoc, ByteArray.append_assoc, ByteArray.append_assoc, hon, ← e1] at this
    exact this
  have b11 : bt s 11 = (l.length : Int) := by
    have := bt_one ((((magic ++ strOfNums (beL gen 4)) ++ strOfNums [typ % 256]) ++ strOfNums [((pos l host : Nat) : Int) % 256]) ++ strOfNums [onOf apt]) (regsW l ++ D) (l.length : Int) 11 (by rw [ByteArray.size_append, ByteArray.size_append, ByteArray.size_append, ByteArray.size_append, s4, sm, s1, s1, s1]; rfl)
    rw [ByteArray.append_assoc, ByteArray.append_assoc, ByteArray.append_assoc, ByteArray.append_assoc, ← e1] at this
    rw [this]
    omega
  have ha : (onOf apt == 1) = apt := by cases apt <;> rfl
  obtain ⟨q, rfl⟩ : ∃ q, k = (q + 1) + 2 * l.length + 1 := ⟨k - 2 * l.length - 2, by omega⟩
  obtain ⟨x7, x8, hreg⟩ := ref_regs s D (by omega) (by omega) l h16 hsm hw.2.2 b11 typ gen apt l.length (q + 1) 0 (headW typ (pos l host : Int) (onOf apt) (l.length : Int) gen) (by omega) (by omega) (by rw [List.drop_zero]; exact e0)
  rw [headW_size, List.take_zero] at hreg
  rw [← hs]
  unfold headgateref12_Decode.f
  rw [if_neg (by omega), ref_Big_spec s _ _ (by omega) _ (by omega), Option.bind_some, if_pos (show (8 : Int) < (s.size : Int) by omega), if_pos (show (10 : Int) < (s.size : Int) by omega), if_pos (by unfold there; exact decide_eq_true ⟨by omega, by omega, by omega, by omega⟩), b8, b10, ha, w64 (by omega) (by omega)]
  show headgateref12_Decode.l0 _ s 12 0 [] typ (⟨#[]⟩ : ByteArray) (be s 4 4 % 4294967296) apt = _
  rw [b4, Int.emod_eq_of_lt hw.1 hw.2.1]
  refine hreg.trans ?_
  have hfin : (headgateref12_Encode.f q l typ host gen apt).bind (fun bt => if bt.2 = 0 then (if bt.1.toList = s.toList then (some (l, typ, host, gen, apt, (0 : Int))) else (some (([] : List S48), 0, (⟨#[]⟩ : ByteArray), 0, false, 61))) else (some (([] : List S48), 0, (⟨#[]⟩ : ByteArray), 0, false, 61))) = some (l, typ, host, gen, apt, (0 : Int)) := by
    rw [ref_Encode_spec l typ host gen apt hw q (by omega), Option.bind_some, if_pos hg, if_pos rfl, if_pos (by rw [hs])]
  have hho := hold_host hok hh
  rw [headgateref12_Decode.j1, if_neg (by decide), if_pos (show (9 : Int) < (s.size : Int) by omega), bt_w, b9]
  by_cases h0 : ((pos l host : Nat) : Int) > 0
  · rw [if_pos h0] at hho ⊢
    rw [if_neg (by omega), w64 (by omega) (by omega), if_pos (show 0 ≤ ((pos l host : Nat) : Int) - 1 by omega), if_pos (show ((pos l host : Nat) : Int) - 1 < (l.length : Int) by omega), hho]
    exact hfin
  · rw [if_neg h0] at hho ⊢
    subst hho
    exact hfin

theorem ImageDecodes (x0 : ByteArray) (h0 : x0.size ≤ 9223372036854775807) : ∃ k, headgatelaw12_ImageDecodes.f k x0 = some true := by
  refine ⟨8000, ?_⟩
  unfold headgatelaw12_ImageDecodes.f
  rw [wakes_ok _ (by decide)]
  by_cases hs : (x0.size : Int) > 5000
  · rw [if_pos hs]; rfl
  · rw [if_neg hs]
    have key : ∃ r, image_Decode.f 8000 x0 = some r ∧ headgateref12_Decode.f 8000 x0 = some r ∧ r.1.length ≤ 300 := by
      obtain ⟨r, h1, h2⟩ := Decode_any 8000 (by decide) x0
      obtain ⟨q, h3, h4⟩ := ref_Decode_any 8000 (by decide) x0 (by omega)
      rcases h2 with h2 | ⟨l, typ, host, gen, apt, h2, hg, hw, he⟩
      · rcases h4 with h4 | ⟨l, typ, host, gen, apt, h4, hg, hw, he⟩
        · exact ⟨r, h1, by rw [h3, h4, h2], by rw [h2]; exact Nat.zero_le _⟩
        · have hz := hold_size hg
          have := Decode_img 8000 (by decide) l typ host gen apt (by omega) hg hw
          rw [he] at this
          refine ⟨_, this, by rw [h3, h4], ?_⟩
          have := ((good_iff l typ host).mp hg).1
          show l.length ≤ 300
          omega
      · have := ref_Decode_img 8000 (by decide) l typ host gen apt hg hw
        rw [he] at this
        refine ⟨r, h1, by rw [this, h2], ?_⟩
        have := ((good_iff l typ host).mp hg).1
        rw [h2]
        show l.length ≤ 300
        omega
    obtain ⟨r, h1, h2, h3⟩ := key
    obtain ⟨t, ht, hti⟩ := Tables_spec 8000 r.1 r.2.1 r.2.2.1 r.2.2.2.1 r.2.2.2.2.1 r.1 r.2.1 r.2.2.1 r.2.2.2.1 r.2.2.2.2.1 h3 (by decide)
    rw [h1, Option.bind_some, h2, Option.bind_some, ht, Option.bind_some, if_pos (hti.mpr ⟨rfl, rfl, rfl, rfl, rfl⟩), if_pos rfl]
    rfl

end Go.Proofs.YtmpicpenbhdbhaaDoor.Pure
