/- What the program's reading of the second transport's messages answers. -/
import Derived.Test.YtkbjhblffbcleaaDoorTpduLib
import Derived.Test.YtkbjhblffbcleaaDoorPx3
namespace Go.Proofs.YtkbjhblffbcleaaDoor.Pure
open Go.RowKit Go.Proofs.YtkbjhblffbcleaaDoor.P Go.Proofs.YtkbjhblffbcleaaDoorW.PrintWords Go.Proofs.YtkbjhblffbcleaaDoorW.PrintLast Go.Proofs.YtkbjhblffbcleaaDoorW.PrintMore Go.Proofs.YtkbjhblffbcleaaDoor.Num
set_option linter.unusedVariables false
set_option linter.unusedSimpArgs false

abbrev Res := Int × Int × ByteArray × ByteArray × Int × Int
def none_ (e : Int) : Res := (0, 0, ⟨#[]⟩, ⟨#[]⟩, 0, e)
/-- How many bytes of data a message of so many bytes has. -/
def nst (t N : Int) (h d : Bool) : Int := if 0 < N - aD t h then N - al t 1 h d + 1 else N - aD t h
def fl12 (s : ByteArray) : Int := Go.bits .and .i64 (bt s 1) 12
/-- Behind the first eight bytes, where these are right. -/
def restT (s : ByteArray) (t fl n : Int) (h d : Bool) : Res :=
  if h = true ∧ 3 < t ∧ aD t h ≤ s.size ∧ ¬ (s.extract (8 + szT t).toNat (aD t h).toNat = dig (s.extract 0 (8 + szT t).toNat)) then none_ 201
  else if (s.size : Int) < al t n h d then none_ 0
  else (t, fl, s.extract 8 (8 + szT t).toNat, s.extract (aD t h).toNat (aD t h + n).toNat, al t n h d,
    if d = true ∧ 3 < t ∧ 0 < n ∧ ¬ (s.extract (aD t h + n).toNat (al t n h d).toNat = dig (s.extract (aD t h).toNat (aD t h + n).toNat)) then 51 else 0)
/-- Are the first eight bytes right? -/
def okF (s : ByteArray) (t fl n N : Int) (h d : Bool) : Prop := szT t ≠ 0 ∧ 0 ≤ n ∧ n ≤ mxT t ∧ al t n h d = N ∧ bt s 1 = flg t fl n h d ∧ bt s 2 = 8 + szT t ∧ bt s 3 = atD t n h
instance (s : ByteArray) (t fl n N : Int) (h d : Bool) : Decidable (okF s t fl n N h d) := by unfold okF; exact inferInstance
def getT (s : ByteArray) (h d : Bool) : Res :=
  if s.size < 8 then none_ 0
  else if okF s (bt s 0) (fl12 s) (nst (bt s 0) (le s 4 4) h d) (le s 4 4) h d then restT s (bt s 0) (fl12 s) (nst (bt s 0) (le s 4 4) h d) h d
  else none_ 200

theorem al_one (t n : Int) (h d : Bool) (hn : 0 < n) : al t n h d = al t 1 h d + (n - 1) := by
  unfold al
  by_cases hc : d = true ∧ 3 < t
  · rw [if_pos ⟨hc.1, hc.2, hn⟩, if_pos ⟨hc.1, hc.2, by omega⟩]; omega
  · rw [if_neg (fun z => hc ⟨z.1, z.2.1⟩), if_neg (fun z => hc ⟨z.1, z.2.1⟩)]; omega
theorem al_zero (t : Int) (h d : Bool) : al t 0 h d = aD t h := by
  unfold al
  rw [if_neg (fun z => absurd z.2.2 (by omega))]
  omega
theorem nst_of (t n N : Int) (h d : Bool) (hn : 0 ≤ n) (ha : al t n h d = N) : n = nst t N h d := by
  unfold nst
  have hb := al_bounds t n h d
  by_cases h0 : 0 < n
  · have h1 := al_one t n h d h0
    rw [if_pos (by omega)]
    omega
  · have : n = 0 := by omega
    subst this
    rw [al_zero] at ha
    rw [if_neg (by omega)]
    omega
theorem nst_bounds (t N : Int) (h d : Bool) (h0 : 0 ≤ N) (h1 : N < 4294967296) : -200 ≤ nst t N h d ∧ nst t N h d < 4294967296 := by
  have hz := szT_cases t
  have ha := aD_bounds t h
  have hb := al_bounds t 1 h d
  unfold nst
  split <;> omega
theorem fl12_cases (s : ByteArray) : fl12 s = 0 ∨ fl12 s = 4 ∨ fl12 s = 8 ∨ fl12 s = 12 := by
  unfold fl12
  have hb := bt_bounds s 1
  obtain ⟨m, hm⟩ : ∃ m : Nat, bt s 1 = m := ⟨(bt s 1).toNat, by omega⟩
  rw [hm]
  have hm2 : m < 256 := by omega
  have : ∀ m : Fin 256, Go.bits .and .i64 (m.val : Int) 12 = 0 ∨ Go.bits .and .i64 (m.val : Int) 12 = 4 ∨ Go.bits .and .i64 (m.val : Int) 12 = 8 ∨ Go.bits .and .i64 (m.val : Int) 12 = 12 := by decide +kernel
  exact this ⟨m, hm2⟩

theorem t14_spec (k : Nat) (s : ByteArray) (t0 fl : Int) (Hd D : ByteArray) (lo : Int) (md : Bool) (hs : s.size ≤ 100000) (hD : D.size ≤ 100000) (h4 : md = true → 4 ≤ lo) (hlo : lo ≤ (s.size : Int)) (hl0 : 0 ≤ lo) (hk : 20 ≤ k) :
    tpdu_Get.t14 k s t0 fl Hd D lo md = some (t0, fl, Hd, D, lo, if md = true ∧ ¬ (s.extract (lo - 4).toNat lo.toNat = dig D) then 51 else 0) := by
  have e1 : wrap64 (lo - 4) = lo - 4 := w64 (by omega) (by omega)
  unfold tpdu_Get.t14
  rw [e1]
  cases md with
  | false => rw [if_neg (by decide), if_neg (fun z => absurd z.1 (by decide))]
  | true =>
    have := h4 rfl
    rw [if_pos rfl, if_pos (by omega), Right_spec _ _ (by omega) _ (by omega), Option.bind_some]
    by_cases hd : s.extract (lo - 4).toNat lo.toNat = dig D
    · rw [hd, if_pos (by simp), if_neg (fun z => z.2 rfl)]
    · rw [if_neg (by rw [beq_iff_eq]; exact fun z => hd ((toList_inj' _ _).mp z)), if_pos ⟨rfl, hd⟩]
theorem t11_spec (k : Nat) (s : ByteArray) (t fl n : Int) (h d : Bool) (hs : s.size ≤ 100000) (h8 : 8 ≤ s.size) (ht : wrap64 (bt s 0) = t) (hn : 0 ≤ n) (hn1 : n ≤ 100000) (hz : szT t ≠ 0) (hk : 20 ≤ k) :
    tpdu_Get.t11 k s fl n (8 + szT t) (atD t n h) (al t n h d) (d && decide (3 < t) && decide (0 < n)) = some (if (s.size : Int) < al t n h d then none_ 0 else
      (t, fl, s.extract 8 (8 + szT t).toNat, s.extract (aD t h).toNat (aD t h + n).toNat, al t n h d,
    if d = true ∧ 3 < t ∧ 0 < n ∧ ¬ (s.extract (aD t h + n).toNat (al t n h d).toNat = dig (s.extract (aD t h).toNat (aD t h + n).toNat)) then 51 else 0)) := by
  have hz' := szT_cases t
  have ha := aD_bounds t h
  have hb := al_bounds t n h d
  have e2 : (d && decide (3 < t) && decide (0 < n)) = decide (d = true ∧ 3 < t ∧ 0 < n) := by
    cases d <;> by_cases h3 : 3 < t <;> by_cases h0 : 0 < n <;> simp [h3, h0]
  have e4 : d = true ∧ 3 < t ∧ 0 < n → al t n h d - 4 = aD t h + n := fun hc => by
    unfold al
    rw [if_pos hc]
    omega
  unfold tpdu_Get.t11
  rw [ht]
  by_cases hl : (s.size : Int) < al t n h d
  · rw [if_pos hl, if_pos hl]; rfl
  · rw [if_neg hl, if_neg hl, if_pos ⟨by omega, by omega, by omega⟩]
    have hsz : ∀ a b : Nat, (s.extract a b).size ≤ 100000 := fun a b => by rw [ByteArray.size_extract]; omega
    by_cases h0 : 0 < n
    · have e3 : atD t n h = aD t h := if_pos h0
      have e5 : wrap64 (aD t h + n) = aD t h + n := w64 (by omega) (by omega)
      rw [if_pos h0, e3, e5, if_pos ⟨by omega, by omega, by omega⟩, e2, t14_spec k s t fl _ _ _ _ hs (hsz _ _) (fun z => by omega) (by omega) (by omega) hk]
      congr 1
      by_cases hc : d = true ∧ 3 < t ∧ 0 < n
      · rw [e4 hc]
        simp only [decide_eq_true_eq, hc, true_and, and_self, hc.1, hc.2.1, hc.2.2]
      · rw [if_neg (fun z => hc (of_decide_eq_true z.1)), if_neg (fun z => hc ⟨z.1, z.2.1, z.2.2.1⟩)]
    · have n0 : n = 0 := by omega
      have hc : ¬ (d = true ∧ 3 < t ∧ 0 < n) := fun z => h0 z.2.2
      have e6 : s.extract (aD t h).toNat (aD t h + n).toNat = ⟨#[]⟩ := by
        apply empty_of
        rw [ByteArray.size_extract]
        omega
      rw [if_neg h0, e2, t14_spec k s t fl _ _ _ _ hs (by decide) (fun z => absurd (of_decide_eq_true z) hc) (by omega) (by omega) hk, if_neg (fun z => hc (of_decide_eq_true z.1)), if_neg (fun z => hc ⟨z.1, z.2.1, z.2.2.1⟩), e6]
theorem t10_spec (k : Nat) (s : ByteArray) (t fl n : Int) (h d : Bool) (hs : s.size ≤ 100000) (h8 : 8 ≤ s.size) (ht : wrap64 (bt s 0) = t) (hn : 0 ≤ n) (hn1 : n ≤ 100000) (hz : szT t ≠ 0) (hk : 20 ≤ k) :
    tpdu_Get.t10 k s fl n (8 + szT t) (atD t n h) (al t n h d) (h && decide (3 < t)) (d && decide (3 < t) && decide (0 < n)) = some (restT s t fl n h d) := by
  have hz' := szT_cases t
  have e1 : wrap64 (8 + szT t + 4) = 8 + szT t + 4 := w64 (by omega) (by omega)
  have h11 := t11_spec k s t fl n h d hs h8 ht hn hn1 hz hk
  unfold tpdu_Get.t10 restT
  rw [h11, e1]
  by_cases hc : h = true ∧ 3 < t
  · have e2 : (h && decide (3 < t)) = true := by simp [hc.1, hc.2]
    have e3 : aD t h = 8 + szT t + 4 := by unfold aD; rw [if_pos hc]
    rw [if_pos e2]
    by_cases hl : 8 + szT t + 4 ≤ (s.size : Int)
    · rw [if_pos hl, if_pos ⟨by omega, by omega, by omega⟩, Right_spec _ _ (by rw [ByteArray.size_extract]; omega) _ (by omega), Option.bind_some]
      by_cases hd : s.extract (8 + szT t).toNat (8 + szT t + 4).toNat = dig (s.extract 0 (8 + szT t).toNat)
      · rw [if_pos (by rw [hd]; simp), if_neg (show ¬ (h = true ∧ 3 < t ∧ aD t h ≤ (s.size : Int) ∧ ¬ (s.extract (8 + szT t).toNat (aD t h).toNat = dig (s.extract 0 (8 + szT t).toNat))) from fun z => z.2.2.2 (by rw [e3]; exact hd))]
      · rw [if_neg (by rw [beq_iff_eq]; exact fun z => hd ((toList_inj' _ _).mp z)), if_pos ⟨hc.1, hc.2, by rw [e3]; exact hl, by rw [e3]; exact hd⟩]
        rfl
    · rw [if_neg hl, if_neg (show ¬ (h = true ∧ 3 < t ∧ aD t h ≤ (s.size : Int) ∧ ¬ (s.extract (8 + szT t).toNat (aD t h).toNat = dig (s.extract 0 (8 + szT t).toNat))) from fun z => hl (by have := z.2.2.1; rw [e3] at this; exact this))]
  · have e2 : ¬ (h && decide (3 < t)) = true := by simpa using hc
    rw [if_neg e2, if_neg (show ¬ (h = true ∧ 3 < t ∧ aD t h ≤ (s.size : Int) ∧ ¬ (s.extract (8 + szT t).toNat (aD t h).toNat = dig (s.extract 0 (8 + szT t).toNat))) from fun z => hc ⟨z.1, z.2.1⟩)]
theorem w_bt (s : ByteArray) (i : Int) : wrap64 (bt s i) = bt s i := by
  have := bt_bounds s i
  exact w64 (by omega) (by omega)
theorem t9_spec (k : Nat) (s : ByteArray) (t n N : Int) (h d b : Bool) (hs : s.size ≤ 100000) (h8 : 8 ≤ s.size) (ht : bt s 0 = t) (hn : n < 4294967296) (hN : 0 ≤ N) (hN1 : N < 4294967296) (hb : szT t ≠ 0 → b = decide (3 < t)) (hk : 20 ≤ k) :
    (tpdu_form_measure.f (szT t) (mxT t) b (if n < 0 then 0 else n) h d).bind (fun m => tpdu_Get.t9 k s N n (fl12 s) (szT t) (mxT t) m.1 m.2.1 m.2.2.1 m.2.2.2.1 m.2.2.2.2) =
      some (if okF s t (fl12 s) n N h d then restT s t (fl12 s) n h d else none_ 200) := by
  have hmx := mxT_bounds t
  by_cases hz : szT t = 0
  · rw [if_neg (show ¬ okF s t (fl12 s) n N h d from fun z => z.1 hz)]
    cases hm : tpdu_form_measure.f (szT t) (mxT t) b (if n < 0 then 0 else n) h d with
    | none => exact absurd hm (by unfold tpdu_form_measure.f; simp)
    | some m =>
      rw [Option.bind_some]
      unfold tpdu_Get.t9
      rw [if_pos hz]
      rfl
  · rw [hb hz, measure_spec t _ _ h d (by split <;> omega) (by split <;> omega), Option.bind_some]
    dsimp only
    unfold tpdu_Get.t9
    rw [if_neg hz]
    by_cases h1 : n < 0
    · rw [if_pos h1, if_neg (show ¬ okF s t (fl12 s) n N h d from fun z => absurd z.2.1 (by omega))]; rfl
    · rw [if_neg h1, if_neg h1]
      by_cases h2 : mxT t < n
      · rw [if_pos h2, if_neg (show ¬ okF s t (fl12 s) n N h d from fun z => absurd z.2.2.1 (by omega))]; rfl
      · rw [if_neg h2, w64 (n := N) (by omega) (by omega)]
        by_cases h3 : al t n h d = N
        · rw [if_pos h3, if_pos (by omega), flags_spec _ _ _ _ _ _ (fl12_cases s), Option.bind_some, flg_eq, w_bt, w_bt, w_bt]
          by_cases h4 : bt s 1 = flg t (fl12 s) n h d
          · rw [if_pos h4]
            by_cases h5 : bt s 2 = 8 + szT t
            · rw [if_pos h5]
              by_cases h6 : bt s 3 = atD t n h
              · rw [if_pos h6, if_pos (show okF s t (fl12 s) n N h d from ⟨hz, by omega, by omega, h3, h4, h5, h6⟩), t10_spec k s t _ n h d hs h8 (by rw [w_bt]; exact ht) (by omega) (by omega) hz hk]
              · rw [if_neg h6, if_neg (show ¬ okF s t (fl12 s) n N h d from fun z => h6 z.2.2.2.2.2.2)]; rfl
            · rw [if_neg h5, if_neg (show ¬ okF s t (fl12 s) n N h d from fun z => h5 z.2.2.2.2.2.1)]; rfl
          · rw [if_neg h4, if_neg (show ¬ okF s t (fl12 s) n N h d from fun z => h4 z.2.2.2.2.1)]; rfl
        · rw [if_neg h3, if_neg (show ¬ okF s t (fl12 s) n N h d from fun z => h3 z.2.2.2.1)]; rfl
theorem Get_spec (k : Nat) (s : ByteArray) (h d : Bool) (hs : s.size ≤ 100000) (hk : 20 ≤ k) : tpdu_Get.f k s h d = some (getT s h d) := by
  unfold tpdu_Get.f getT
  by_cases h8 : s.size < 8
  · rw [if_pos (by omega), if_pos h8]; rfl
  · have hb4 := le_bounds s 4 4
    have hp : p 4 = 4294967296 := by decide
    rw [if_neg (by omega), if_neg h8]
    obtain ⟨b, hF, hb⟩ := formOf_spec (bt s 0)
    rw [w_bt, hF, Option.bind_some, Little_spec _ _ _ (by omega) _ (by omega), if_pos (by unfold there; rw [decide_eq_true_eq]; omega), Option.bind_some]
    dsimp only
    have e4 : (4 : Int).toNat = 4 := rfl
    rw [e4, w64 (n := le s 4 4) (by omega) (by omega)]
    have key : ∀ n : Int, n < 4294967296 → n = nst (bt s 0) (le s 4 4) h d ∨ (szT (bt s 0) = 0) → tpdu_Get.t7 k s h d (le s 4 4) n (szT (bt s 0)) (mxT (bt s 0)) b =
        some (if okF s (bt s 0) (fl12 s) (nst (bt s 0) (le s 4 4) h d) (le s 4 4) h d then restT s (bt s 0) (fl12 s) (nst (bt s 0) (le s 4 4) h d) h d else none_ 200) := by
      intro n hn hq
      unfold tpdu_Get.t7
      rw [if_pos (by omega), w_bt]
      have := t9_spec k s (bt s 0) n (le s 4 4) h d b hs (by omega) rfl hn (by omega) (by omega) hb hk
      unfold fl12 at this ⊢
      rw [this]
      rcases hq with rfl | hq
      · rfl
      · rw [if_neg (fun z => z.1 hq), if_neg (fun z => z.1 hq)]
    have hz := szT_cases (bt s 0)
    have ha := aD_bounds (bt s 0) h
    have hal := al_bounds (bt s 0) 1 h d
    have hmeas : ∀ q : Int, ∃ m, tpdu_form_measure.f (szT (bt s 0)) (mxT (bt s 0)) b q h d = some m := fun q => by unfold tpdu_form_measure.f; exact ⟨_, rfl⟩
    by_cases hz0 : szT (bt s 0) = 0
    · obtain ⟨m0, hm0⟩ := hmeas 0
      obtain ⟨m1, hm1⟩ := hmeas 1
      rw [hm0, Option.bind_some, hm1, Option.bind_some]
      have hw : ∀ q : Int, wrap64 q < 9223372036854775808 := fun q => by unfold wrap64; omega
      have key2 : ∀ n : Int, tpdu_Get.t7 k s h d (le s 4 4) n (szT (bt s 0)) (mxT (bt s 0)) b = some (none_ 200) := fun n => by
        unfold tpdu_Get.t7
        rw [if_pos (by omega)]
        obtain ⟨m, hm⟩ := hmeas (if n < 0 then 0 else n)
        rw [hm, Option.bind_some]
        unfold tpdu_Get.t9
        rw [if_pos hz0]
        rfl
      rw [key2, key2, if_neg (show ¬ okF s (bt s 0) (fl12 s) (nst (bt s 0) (le s 4 4) h d) (le s 4 4) h d from fun z => z.1 hz0)]
      split <;> rfl
    · rw [hb hz0, measure_spec _ _ 0 h d (by omega) (by omega), Option.bind_some, measure_spec _ _ 1 h d (by omega) (by omega), Option.bind_some]
      dsimp only
      rw [al_zero, w64 (n := le s 4 4 - aD (bt s 0) h) (by omega) (by omega), w64 (n := le s 4 4 - al (bt s 0) 1 h d) (by omega) (by omega), w64 (n := le s 4 4 - al (bt s 0) 1 h d + 1) (by omega) (by omega), ← hb hz0]
      by_cases h0 : 0 < le s 4 4 - aD (bt s 0) h
      · rw [if_pos h0]
        exact key _ (by omega) (.inl (by unfold nst; rw [if_pos h0]))
      · rw [if_neg h0]
        exact key _ (by omega) (.inl (by unfold nst; rw [if_neg h0]))
end Go.Proofs.YtkbjhblffbcleaaDoor.Pure
