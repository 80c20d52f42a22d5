/- A name with any year and month and host. -/
import Derived.Test.YtgphjijejoagcaaPx2
import Derived.Test.YtgphjijejoagcaaNamesMake
namespace Go.Proofs.Ytgphjijejoagcaa.Pure
open Go.RowKit Go.Proofs.Ytgphjijejoagcaa.P Go.Proofs.YtgphjijejoagcaaW.PrintWords Go.Proofs.YtgphjijejoagcaaW.PrintLast Go.Proofs.YtgphjijejoagcaaW.PrintMore Go.Proofs.Ytgphjijejoagcaa.Num
set_option linter.unusedVariables false
set_option linter.unusedSimpArgs false

def D (n : Int) : ByteArray := strOfNums ([(wrap64 (48 + Int.tmod n 10)) % 256] : List Int)
theorem D_size (n : Int) : (D n).size = 1 := strOfNums_size _
def dig (x : Int) : Prop := 48 ≤ x ∧ x ≤ 57
theorem dig_of (n : Int) (h0 : 0 ≤ n) (h1 : n < 100000) : ∃ x, D n = strOfNums [x] ∧ dig x ∧ x = 48 + n % 10 := by
  refine ⟨48 + n % 10, ?_, ?_, rfl⟩
  · unfold D
    rw [Int.tmod_eq_emod_of_nonneg h0, w64 (by omega) (by omega), show (48 + n % 10) % 256 = 48 + n % 10 by omega]
  · unfold dig
    omega
theorem nums_append (a b : List Int) : strOfNums a ++ strOfNums b = strOfNums (a ++ b) := by
  apply ByteArray.ext
  apply Array.ext'
  rw [ByteArray.data_append, Array.toList_append, strOfNums_data, strOfNums_data, strOfNums_data, List.map_append]
theorem mark_of (d : Int) (h : dig d ∨ d = 45 ∨ d = 46) : mark_ 5 (UInt8.ofNat d.toNat).toNat = true := by
  unfold dig at h
  rw [UInt8.toNat_ofNat', mark5]
  apply decide_eq_true
  omega
def Q (d0 d1 d2 d3 e0 e1 : Int) : ByteArray := strOfNums [d0, d1, d2, d3, 45, e0, e1, 46]
theorem digit_of {x : Int} (h : dig x) : digit_ x = true := decide_eq_true h
theorem months (W w4 a : ByteArray) (d0 d1 d2 d3 e0 e1 M : Int) (wz : W.size = 4) (w0 : 97 ≤ bt W 0 ∧ bt W 0 ≤ 122) (wm : W.data.toList.all (fun c => mark_ 5 c.toNat) = true) (h0 : dig d0) (h1 : dig d1) (h2 : dig d2) (h3 : dig d3) (h4 : dig e0) (h5 : dig e1) (hM : (e0 - 48) * 10 + (e1 - 48) = M) :
    datedB (W ++ (Q d0 d1 d2 d3 e0 e1 ++ a)) w4 = ((W.toList == w4.toList) && (decide (1 ≤ M ∧ M ≤ 12) && asB a)) := by
  have qz : (Q d0 d1 d2 d3 e0 e1).size = 8 := strOfNums_size _
  have hz : (W ++ Q d0 d1 d2 d3 e0 e1).size = 12 := by rw [ByteArray.size_append, wz, qz]
  have g (i : Nat) (hi : i < 8) (x : Int) (hx : bt (Q d0 d1 d2 d3 e0 e1) (i : Int) = x) : bt (W ++ Q d0 d1 d2 d3 e0 e1) ((4 + i : Nat) : Int) = x := by
    rw [bt_append_right W _ _ (by omega) (by omega), wz, ← hx]
    congr 1
    omega
  have b (i : Nat) (hi : i < [d0, d1, d2, d3, 45, e0, e1, 46].length) (hb : 0 ≤ [d0, d1, d2, d3, 45, e0, e1, 46][i] ∧ [d0, d1, d2, d3, 45, e0, e1, 46][i] < 256) : bt (Q d0 d1 d2 d3 e0 e1) (i : Int) = [d0, d1, d2, d3, 45, e0, e1, 46][i] := strOfNums_get _ i hi hb
  have r : ∀ {x : Int}, dig x → 0 ≤ x ∧ x < 256 := fun h => by unfold dig at h; omega
  have c4 : bt (W ++ Q d0 d1 d2 d3 e0 e1) 4 = d0 := g 0 (by decide) _ (b 0 (by simp) (r h0))
  have c5 : bt (W ++ Q d0 d1 d2 d3 e0 e1) 5 = d1 := g 1 (by decide) _ (b 1 (by simp) (r h1))
  have c6 : bt (W ++ Q d0 d1 d2 d3 e0 e1) 6 = d2 := g 2 (by decide) _ (b 2 (by simp) (r h2))
  have c7 : bt (W ++ Q d0 d1 d2 d3 e0 e1) 7 = d3 := g 3 (by decide) _ (b 3 (by simp) (r h3))
  have c8 : bt (W ++ Q d0 d1 d2 d3 e0 e1) 8 = 45 := g 4 (by decide) _ (b 4 (by simp) (show (0 : Int) ≤ 45 ∧ (45 : Int) < 256 by decide))
  have c9 : bt (W ++ Q d0 d1 d2 d3 e0 e1) 9 = e0 := g 5 (by decide) _ (b 5 (by simp) (r h4))
  have c10 : bt (W ++ Q d0 d1 d2 d3 e0 e1) 10 = e1 := g 6 (by decide) _ (b 6 (by simp) (r h5))
  have c11 : bt (W ++ Q d0 d1 d2 d3 e0 e1) 11 = 46 := g 7 (by decide) _ (b 7 (by simp) (show (0 : Int) ≤ 46 ∧ (46 : Int) < 256 by decide))
  have c0 : bt (W ++ Q d0 d1 d2 d3 e0 e1) 0 = bt W 0 := bt_append_left W _ 0 (by decide) (by omega)
  have hm : (W ++ Q d0 d1 d2 d3 e0 e1).data.toList.all (fun c => mark_ 5 c.toNat) = true := by
    rw [ByteArray.data_append, Array.toList_append, List.all_append, wm, Bool.true_and]
    unfold Q
    rw [strOfNums_data]
    simp only [List.map_cons, List.map_nil, List.all_cons, List.all_nil, mark_of _ (.inl h0), mark_of _ (.inl h1), mark_of _ (.inl h2), mark_of _ (.inl h3), mark_of _ (.inl h4), mark_of _ (.inl h5), mark_of 45 (.inr (.inl rfl)), mark_of 46 (.inr (.inr rfl)), Bool.and_self]
  have ep : pre4 (W ++ Q d0 d1 d2 d3 e0 e1) w4 = (W.toList == w4.toList) := by
    unfold pre4
    rw [cut_left W _ 0 4 (by omega), ← wz, ByteArray.extract_zero_size]
  rw [← ByteArray.append_assoc, dated_front' _ a w4 hz (by rw [c0]; exact w0) hm (by rw [c4]; exact digit_of h0) (by rw [c5]; exact digit_of h1) (by rw [c6]; exact digit_of h2) (by rw [c7]; exact digit_of h3) c8 (by rw [c9]; exact digit_of h4) (by rw [c10]; exact digit_of h5) M (by rw [c9, c10]; exact hM) c11, ep]
theorem months_j0 (k : Nat) (a : ByteArray) (d0 d1 d2 d3 e0 e1 M : Int) (want : Bool) (ha : a.size ≤ 200) (h0 : dig d0) (h1 : dig d1) (h2 : dig d2) (h3 : dig d3) (h4 : dig e0) (h5 : dig e1) (hM : (e0 - 48) * 10 + (e1 - 48) = M) (hw : want = (decide (1 ≤ M ∧ M ≤ 12) && asB a)) :
    headgatelaw03_NamesMonths.j0 (k + 1) (Q d0 d1 d2 d3 e0 e1 ++ a) want = some true := by
  have qz : (Q d0 d1 d2 d3 e0 e1).size = 8 := strOfNums_size _
  have hz : (Q d0 d1 d2 d3 e0 e1 ++ a).size = 8 + a.size := by rw [ByteArray.size_append, qz]
  have ii : datedB (iqn4 ++ (Q d0 d1 d2 d3 e0 e1 ++ a)) iqn4 = want := by
    rw [months iqn4 iqn4 a d0 d1 d2 d3 e0 e1 M rfl (by decide +kernel) (by decide +kernel) h0 h1 h2 h3 h4 h5 hM, hw, show (iqn4.toList == iqn4.toList) = true by decide +kernel, Bool.true_and]
  have nn : datedB (nqn4 ++ (Q d0 d1 d2 d3 e0 e1 ++ a)) nqn4 = want := by
    rw [months nqn4 nqn4 a d0 d1 d2 d3 e0 e1 M rfl (by decide +kernel) (by decide +kernel) h0 h1 h2 h3 h4 h5 hM, hw, show (nqn4.toList == nqn4.toList) = true by decide +kernel, Bool.true_and]
  have i_n : datedB (iqn4 ++ (Q d0 d1 d2 d3 e0 e1 ++ a)) nqn4 = false := by
    rw [months iqn4 nqn4 a d0 d1 d2 d3 e0 e1 M rfl (by decide +kernel) (by decide +kernel) h0 h1 h2 h3 h4 h5 hM, show (iqn4.toList == nqn4.toList) = false by decide +kernel, Bool.false_and]
  have n_i : datedB (nqn4 ++ (Q d0 d1 d2 d3 e0 e1 ++ a)) iqn4 = false := by
    rw [months nqn4 iqn4 a d0 d1 d2 d3 e0 e1 M rfl (by decide +kernel) (by decide +kernel) h0 h1 h2 h3 h4 h5 hM, show (nqn4.toList == iqn4.toList) = false by decide +kernel, Bool.false_and]
  unfold iqn4 at ii i_n
  unfold nqn4 at nn n_i
  rw [headgatelaw03_NamesMonths.j0, if_pos (by omega), Iqn_spec, Nqn_spec, Iqn_spec, Nqn_spec]
  unfold iqn4 nqn4
  unfold iqn4 at n_i
  unfold nqn4 at i_n
  rw [ii, nn, i_n, n_i, Option.bind_some, if_pos (beq_self_eq_true _), Option.bind_some, if_pos (beq_self_eq_true _), Option.bind_some, if_neg (by decide), Option.bind_some, if_neg (by decide), wakes_ok]
  rfl

theorem NamesMonths (x0 : ByteArray) (x1 : Int) (x2 : Int) (h0 : x0.size ≤ 9223372036854775807) (h1 : (Lit.int .u16 x1).wf = true) (h2 : (Lit.int .u16 x2).wf = true) : ∃ k, headgatelaw03_NamesMonths.f k x0 x1 x2 = some true := by
  refine ⟨1, ?_⟩
  unfold headgatelaw03_NamesMonths.f
  rw [wakes_ok]
  by_cases hs : (x0.size : Int) > 200
  · rw [if_pos hs]
    rfl
  rw [if_neg hs]
  have hu1 : 0 ≤ x1 ∧ x1 ≤ 65535 := by
    simp [Lit.wf, IntKind.min, IntKind.max, IntKind.signed, IntKind.bits] at h1
    exact h1
  have hu2 : 0 ≤ x2 ∧ x2 ≤ 65535 := by
    simp [Lit.wf, IntKind.min, IntKind.max, IntKind.signed, IntKind.bits] at h2
    exact h2
  have ha : x0.size ≤ 200 := by omega
  clear h0 h1 h2
  have f (n : Int) : headgatelaw03_NamesMonths_1.f n = some (D n) := rfl
  have hD := D_size
  rw [w64 (n := x1) (by omega) (by omega), w64 (n := x2) (by omega) (by omega), Int.tmod_eq_emod_of_nonneg hu1.1, Int.tmod_eq_emod_of_nonneg hu2.1]
  have hy : 0 ≤ x1 % 10000 ∧ x1 % 10000 < 10000 := by omega
  have hm : 0 ≤ x2 % 100 ∧ x2 % 100 < 100 := by omega
  generalize x1 % 10000 = y at hy ⊢
  generalize x2 % 100 = m at hm ⊢
  rw [Int.tdiv_eq_ediv_of_nonneg hy.1, Int.tdiv_eq_ediv_of_nonneg hy.1, Int.tdiv_eq_ediv_of_nonneg hy.1, Int.tdiv_eq_ediv_of_nonneg hm.1, w64 (n := y / 1000) (by omega) (by omega), w64 (n := y / 100) (by omega) (by omega), w64 (n := y / 10) (by omega) (by omega), w64 (n := m / 10) (by omega) (by omega)]
  obtain ⟨d0, a0, p0, -⟩ := dig_of (y / 1000) (by omega) (by omega)
  obtain ⟨d1, a1, p1, -⟩ := dig_of (y / 100) (by omega) (by omega)
  obtain ⟨d2, a2, p2, -⟩ := dig_of (y / 10) (by omega) (by omega)
  obtain ⟨d3, a3, p3, -⟩ := dig_of y (by omega) (by omega)
  obtain ⟨e0, a4, p4, v4⟩ := dig_of (m / 10) (by omega) (by omega)
  obtain ⟨e1, a5, p5, v5⟩ := dig_of m (by omega) (by omega)
  have z (x : Int) : (strOfNums [x]).size = 1 := strOfNums_size _
  have z45 : (⟨#[45]⟩ : ByteArray).size = 1 := rfl
  have z46 : (⟨#[46]⟩ : ByteArray).size = 1 := rfl
  rw [f, f, f, f, f, f, a0, a1, a2, a3, a4, a5]
  rw [Option.bind_some, Option.bind_some, if_pos (by simp only [ByteArray.size_append, z]; decide), Option.bind_some, if_pos (by simp only [ByteArray.size_append, z]; decide), Option.bind_some, if_pos (by simp only [ByteArray.size_append, z]; decide), if_pos (by simp only [ByteArray.size_append, z]; decide), Option.bind_some, if_pos (by simp only [ByteArray.size_append, z, z45]; decide), Option.bind_some, if_pos (by simp only [ByteArray.size_append, z, z45]; decide), if_pos (by simp only [ByteArray.size_append, z, z45]; decide), if_pos (by simp only [ByteArray.size_append, z, z45, z46]; omega)]
  have eq : ((((((((strOfNums [d0] ++ strOfNums [d1]) ++ strOfNums [d2]) ++ strOfNums [d3]) ++ (⟨#[45]⟩ : ByteArray)) ++ strOfNums [e0]) ++ strOfNums [e1]) ++ (⟨#[46]⟩ : ByteArray)) ++ x0) = Q d0 d1 d2 d3 e0 e1 ++ x0 := by
    rw [show (⟨#[45]⟩ : ByteArray) = strOfNums [45] from rfl, show (⟨#[46]⟩ : ByteArray) = strOfNums [46] from rfl]
    simp only [nums_append, List.cons_append, List.nil_append]
    rfl
  rw [eq]
  have J := fun want => months_j0 0 x0 d0 d1 d2 d3 e0 e1 m want ha p0 p1 p2 p3 p4 p5 (by omega)
  unfold names_Name.f asB at *
  by_cases q1 : m ≥ 1
  · rw [if_pos q1]
    by_cases q2 : m ≤ 12
    · rw [if_pos q2, Option.bind_some]
      rw [decide_eq_true ⟨q1, q2⟩] at J
      cases hn : nameB x0
      · rw [if_neg (by decide)]
        exact J _ (by rw [hn, Bool.and_false]; rfl)
      · rw [if_pos rfl]
        refine J _ ?_
        rw [hn, Bool.and_true, Bool.true_and, decide_eq_decide]
        omega
    · rw [if_neg q2]
      exact J _ (by rw [decide_eq_false (fun h => q2 h.2)]; rfl)
  · rw [if_neg q1]
    exact J _ (by rw [decide_eq_false (fun h => q1 h.1)]; rfl)

end Go.Proofs.Ytgphjijejoagcaa.Pure
