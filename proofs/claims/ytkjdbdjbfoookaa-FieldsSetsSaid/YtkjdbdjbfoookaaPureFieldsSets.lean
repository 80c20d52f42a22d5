/- What was set stands there, all else as it was; what was filled up begins as it was, and ends in zeros: for every text, place and text. -/
import Derived.Test.YtkjdbdjbfoookaaPx5
import Derived.Test.YtkjdbdjbfoookaaRq
import Derived.Test.YtkjdbdjbfoookaaRefFields
import Derived.Test.YtkjdbdjbfoookaaFieldsWakes
namespace Go.Proofs.Ytkjdbdjbfoookaa.Pure
open Go.RowKit Go.Proofs.Ytkjdbdjbfoookaa.P Go.Proofs.YtkjdbdjbfoookaaW.PrintWords Go.Proofs.YtkjdbdjbfoookaaW.PrintLast Go.Proofs.YtkjdbdjbfoookaaW.PrintMore Go.Proofs.Ytkjdbdjbfoookaa.Num
set_option linter.unusedVariables false
set_option linter.unusedSimpArgs false

theorem app (a b : ByteArray) : (a ++ b).data.toList = a.data.toList ++ b.data.toList := by simp
theorem ext (s : ByteArray) (a b : Nat) : (s.extract a b).data.toList = (s.data.toList.drop a).take (b - a) := by
  rw [ByteArray.data_extract, Array.toList_extract, List.extract_eq_take_drop]
theorem len (s : ByteArray) : s.data.toList.length = s.size := rfl
theorem loop (x0 x2 x8 y : ByteArray) (K : Int) (c : Bool) (hy : y.size < 200000) (hz : ∀ i : Nat, x0.size ≤ i → i < y.size → bt y i = 0) (rest : ∀ k, 20 < k → headgatelaw01_FieldsSets.l0 k x0 x2 K x8 c y y.size = some true) :
    ∀ (d k i : Nat), x0.size ≤ i → i + d = y.size → d + 30 < k → headgatelaw01_FieldsSets.l0 k x0 x2 K x8 c y i = some true := by
  intro d
  induction d with
  | zero =>
    intro k i h0 hi hk
    obtain rfl : i = y.size := by omega
    exact rest k (by omega)
  | succ d ih =>
    intro k i h0 hi hk
    obtain ⟨k, rfl⟩ : ∃ z, k = z + 1 := ⟨k - 1, by omega⟩
    have hw : wrap64 ((i : Int) + 1) = ((i + 1 : Nat) : Int) := by rw [w64 (by omega) (by omega)]; omega
    rw [headgatelaw01_FieldsSets.l0, if_pos (by omega), if_pos (by omega), if_pos (hz i h0 (by omega)), hw]
    exact ih k (i + 1) (by omega) (by omega) (by omega)
theorem pad_spec (s : ByteArray) (hs : s.size ≤ 100000) : ∃ z : Nat, z < 4 ∧ (s.size + z) % 4 = 0 ∧ fields_Pad.f s 4 = some (s ++ strOfNums (List.replicate z 0)) := by
  unfold fields_Pad.f
  rw [if_neg (by omega), if_neg (by omega), if_neg (by omega)]
  by_cases h : (s.size : Int) % 4 = 0
  · refine ⟨0, by omega, by omega, ?_⟩
    rw [if_pos h]
    congr 1
    apply ByteArray.ext
    simp [strOfNums]
  · have hw : wrap64 (4 - (s.size : Int) % 4) = 4 - (s.size : Int) % 4 := w64 (by omega) (by omega)
    refine ⟨(4 - (s.size : Int) % 4).toNat, by omega, by omega, ?_⟩
    rw [if_neg h, hw, if_pos (by omega), if_pos (by omega), Option.bind_some, if_pos (by rw [strOfNums_size, List.length_replicate]; omega)]
theorem bt_zero (s : ByteArray) (z i : Nat) (h0 : s.size ≤ i) (h1 : i < s.size + z) : bt (s ++ strOfNums (List.replicate z 0)) (i : Int) = 0 := by
  rw [bt_append_right _ _ _ (by omega) (by rw [strOfNums_size, List.length_replicate]; omega), show (i : Int) - s.size = ((i - s.size : Nat) : Int) by omega, strOfNums_get _ _ (by rw [List.length_replicate]; omega) (by simp)]
  simp

theorem FieldsSets (x0 : ByteArray) (x1 : Int) (x2 : ByteArray) (h0 : x0.size ≤ 9223372036854775807) (h1 : (Lit.int .i64 x1).wf = true) (h2 : x2.size ≤ 9223372036854775807) : ∃ k, headgatelaw01_FieldsSets.f k x0 x1 x2 = some true := by
  refine ⟨60, ?_⟩
  unfold headgatelaw01_FieldsSets.f
  have hj : headgatelaw01_FieldsSets.j0 60 x0 x1 x2 true = some true := by
    rw [headgatelaw01_FieldsSets.j0, if_pos rfl, wakes_ok _ (by omega)]
    rfl
  by_cases hs : (x0.size : Int) > 100000
  · rw [if_pos hs, hj]
  · rw [if_neg hs]
    by_cases hl : (x2.size : Int) > (x0.size : Int)
    · rw [decide_eq_true hl, hj]
    · have e0 : wrap64 (wrap64 ((x0.size : Int) - x2.size) + 1) = (x0.size : Int) - x2.size + 1 := by
        rw [w64 (n := (x0.size : Int) - x2.size) (by omega) (by omega), w64 (by omega) (by omega)]
      have e1 : IntKind.u64.wrap ((x0.size : Int) - x2.size + 1) = (x0.size : Int) - x2.size + 1 := u64_id (by omega) (by omega)
      obtain ⟨kk, hkk, hlt⟩ : ∃ kk : Nat, wrap64 (Int.tmod (IntKind.u64.wrap x1) (IntKind.u64.wrap (wrap64 (wrap64 ((x0.size : Int) - x2.size) + 1)))) = kk ∧ kk + x2.size ≤ x0.size := by
        have hu : 0 ≤ IntKind.u64.wrap x1 := by rw [wrap_u64]; omega
        rw [e0, e1, Int.tmod_eq_emod_of_nonneg hu]
        have b0 := Int.emod_nonneg (IntKind.u64.wrap x1) (b := (x0.size : Int) - x2.size + 1) (by omega)
        have b1 := Int.emod_lt_of_pos (IntKind.u64.wrap x1) (b := (x0.size : Int) - x2.size + 1) (by omega)
        refine ⟨(IntKind.u64.wrap x1 % ((x0.size : Int) - x2.size + 1)).toNat, ?_, by omega⟩
        rw [w64 (by omega) (by omega)]
        omega
      have hnz : ¬ IntKind.u64.wrap (wrap64 (wrap64 ((x0.size : Int) - x2.size) + 1)) = 0 := by rw [e0, e1]; omega
      have hkw : wrap64 ((kk : Int) + x2.size) = ((kk + x2.size : Nat) : Int) := by rw [w64 (by omega) (by omega)]; omega
      obtain ⟨t, ht⟩ : ∃ t, t = (x0.extract 0 kk ++ x2) ++ x0.extract (kk + x2.size) x0.size := ⟨_, rfl⟩
      have st : t.size = x0.size := by rw [ht, ByteArray.size_append, ByteArray.size_append, ByteArray.size_extract, ByteArray.size_extract]; omega
      have lt : t.data.toList = x0.data.toList.take kk ++ x2.data.toList ++ x0.data.toList.drop (kk + x2.size) := by
        rw [ht, app, app, ext, ext, List.drop_zero, Nat.sub_zero, List.take_of_length_le (i := x0.size - (kk + x2.size)) (by rw [List.length_drop, len]; omega)]
      have hset : fields_Set.f x0 kk x2 = some (t, true) := by
        have hw : wrap64 ((x0.size : Int) - x2.size) = (x0.size : Int) - x2.size := w64 (by omega) (by omega)
        unfold fields_Set.f
        rw [if_neg (by omega), if_neg (by omega), hw, if_neg (by omega), if_pos (by omega), if_pos (by omega), Int.toNat_natCast, if_pos (by rw [ByteArray.size_extract]; omega), hkw, if_pos (by omega), if_pos (by omega), Int.toNat_natCast, if_pos (by rw [ByteArray.size_append, ByteArray.size_extract, ByteArray.size_extract]; omega), ht]
      obtain ⟨z, hz4, hzm, hpad⟩ := pad_spec x0 (by omega)
      have sp : (x0 ++ strOfNums (List.replicate z 0)).size = x0.size + z := by rw [ByteArray.size_append, strOfNums_size, List.length_replicate]
      have tl : (x0.data.toList.take kk).length = kk := by rw [List.length_take, len]; omega
      have l1 : (t.extract 0 kk).toList = (x0.extract 0 kk).toList := by
        rw [ByteArray.toList_eq, ByteArray.toList_eq, ext, ext, lt, List.drop_zero, List.drop_zero, Nat.sub_zero, List.append_assoc, List.take_append_of_le_length (by omega), List.take_take, Nat.min_self]
      have l2 : (t.extract kk (kk + x2.size)).toList = x2.toList := by
        rw [ByteArray.toList_eq, ByteArray.toList_eq, ext, lt, List.append_assoc, List.drop_append_of_le_length (by omega), List.drop_of_length_le (by omega), List.nil_append, show kk + x2.size - kk = x2.data.toList.length by rw [len]; omega, List.take_append_of_le_length (by omega), List.take_length]
      have l3 : (t.extract (kk + x2.size) t.size).toList = (x0.extract (kk + x2.size) x0.size).toList := by
        rw [ByteArray.toList_eq, ByteArray.toList_eq, ext, ext, lt, List.drop_append_of_le_length (by rw [List.length_append, tl, len]; omega), List.drop_of_length_le (by rw [List.length_append, tl, len]; omega), List.nil_append, st]
      have l4 : ((x0 ++ strOfNums (List.replicate z 0)).extract 0 x0.size).toList = x0.toList := by
        rw [ByteArray.toList_eq, ByteArray.toList_eq, ext, app, List.drop_zero, Nat.sub_zero, List.take_append_of_le_length (by rw [len]; omega), List.take_of_length_le (by rw [len]; omega)]
      rw [decide_eq_false hl, headgatelaw01_FieldsSets.j0, if_neg (by decide), if_neg hnz, hkk, hset, Option.bind_some, hpad, Option.bind_some]
      refine loop x0 x2 t _ kk true (by rw [sp]; omega) (fun i h0 h1 => bt_zero x0 z i h0 (by rw [sp] at h1; omega)) (fun k hk => ?_) z 59 x0.size (by omega) (by rw [sp]) (by omega)
      obtain ⟨k, rfl⟩ : ∃ y, k = y + 1 := ⟨k - 1, by omega⟩
      rw [headgatelaw01_FieldsSets.l0, if_neg (by omega), if_pos rfl, st, if_pos rfl, if_pos (by omega), if_pos (by omega), if_pos (by omega), Int.toNat_natCast, if_pos l1, hkw, if_pos (by omega), if_pos (by omega), Int.toNat_natCast, if_pos l2, if_pos (by omega), if_pos (by omega), ← st, if_pos (by rw [st] at l3 ⊢; exact l3), st, sp, if_pos (by omega), w64 (by omega) (by omega), if_pos (by omega), if_pos (by omega), if_pos (by omega), Int.toNat_natCast, if_pos l4, wakes_ok _ (by omega), Option.bind_some]

end Go.Proofs.Ytkjdbdjbfoookaa.Pure
