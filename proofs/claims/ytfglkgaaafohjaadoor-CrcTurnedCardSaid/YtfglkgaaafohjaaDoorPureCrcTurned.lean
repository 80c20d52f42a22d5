/- One byte of a text, or two side by side, turned into others, make another sum: for every text, place and bytes. -/
import Derived.Test.YtfglkgaaafohjaaDoorPx3
import Derived.Test.YtfglkgaaafohjaaDoorRq
import Derived.Test.YtfglkgaaafohjaaDoorCrcLib
import Derived.Test.YtfglkgaaafohjaaDoorCrcWakes
namespace Go.Proofs.YtfglkgaaafohjaaDoor.Pure
open Go.RowKit Go.Proofs.YtfglkgaaafohjaaDoor.P Go.Proofs.YtfglkgaaafohjaaDoorW.PrintWords Go.Proofs.YtfglkgaaafohjaaDoorW.PrintLast Go.Proofs.YtfglkgaaafohjaaDoorW.PrintMore Go.Proofs.YtfglkgaaafohjaaDoor.Num
set_option linter.unusedVariables false
set_option linter.unusedSimpArgs false

theorem app (a b : ByteArray) : (a ++ b).data.toList = a.data.toList ++ b.data.toList := by simp
theorem ext0 (s : ByteArray) (k : Nat) : (s.extract 0 k).data.toList = s.data.toList.take k := by simp
theorem ext1 (s : ByteArray) (k : Nat) : (s.extract k s.size).data.toList = s.data.toList.drop k := by
  have h : s.size = s.data.toList.length := rfl
  rw [ByteArray.data_extract, Array.toList_extract, List.extract_eq_take_drop, h, List.take_of_length_le (by simp)]
theorem sums_differ (a b : ByteArray) (ha : a.size ≤ 9223372036854775807) (hb : b.size ≤ 9223372036854775807) (h : Crc.g 4294967295 a.data.toList = Crc.g 4294967295 b.data.toList → a.data.toList = b.data.toList) :
    ((((Crc.more 0 a.data.toList : Nat) : Int) == ((Crc.more 0 b.data.toList : Nat) : Int)) == (b.toList == a.toList)) = true := by
  rw [ByteArray.toList_eq, ByteArray.toList_eq]
  by_cases e : a.data.toList = b.data.toList
  · rw [e]
    simp
  · have e1 : ¬ Crc.more 0 a.data.toList = Crc.more 0 b.data.toList := fun h2 => e (h (by have h3 := Crc.more_inj h2; rw [Nat.xor_zero] at h3; exact h3))
    have e2 : (((Crc.more 0 a.data.toList : Nat) : Int) == ((Crc.more 0 b.data.toList : Nat) : Int)) = false := by
      rw [beq_eq_false_iff_ne]
      omega
    have e3 : (b.data.toList == a.data.toList) = false := by
      rw [beq_eq_false_iff_ne]
      exact fun h => e h.symm
    rw [e2, e3]
    rfl
theorem turned_at (s : List UInt8) (k : Nat) (p q : UInt8) (hk : k + 2 ≤ s.length) (h : Crc.g 4294967295 (s.take k ++ [p, q] ++ s.drop (k + 2)) = Crc.g 4294967295 s) : s.take k ++ [p, q] ++ s.drop (k + 2) = s := by
  have hs : s = s.take k ++ s[k] :: s[k + 1] :: s.drop (k + 2) := by
    conv => lhs; rw [← List.take_append_drop k s]
    rw [List.drop_eq_getElem_cons (i := k) (by omega), List.drop_eq_getElem_cons (i := k + 1) (by omega)]
  have h2 : Crc.g 4294967295 (s.take k ++ p :: q :: s.drop (k + 2)) = Crc.g 4294967295 (s.take k ++ s[k] :: s[k + 1] :: s.drop (k + 2)) := by
    rw [← hs, ← h]
    simp
  obtain ⟨e1, e2⟩ := Crc.turned2 _ _ _ _ _ _ _ (by decide) h2
  conv => rhs; rw [hs]
  rw [e1, e2]
  simp
theorem turned_at1 (s : List UInt8) (k : Nat) (p : UInt8) (hk : k + 1 ≤ s.length) (h : Crc.g 4294967295 (s.take k ++ [p] ++ s.drop (k + 1)) = Crc.g 4294967295 s) : s.take k ++ [p] ++ s.drop (k + 1) = s := by
  have hs : s = s.take k ++ s[k] :: s.drop (k + 1) := by
    conv => lhs; rw [← List.take_append_drop k s]
    rw [List.drop_eq_getElem_cons (i := k) (by omega)]
  have h2 : Crc.g 4294967295 (s.take k ++ p :: s.drop (k + 1)) = Crc.g 4294967295 (s.take k ++ s[k] :: s.drop (k + 1)) := by
    rw [← hs, ← h]
    simp
  have e1 := Crc.turned1 _ _ _ _ _ (by decide) h2
  conv => rhs; rw [hs]
  rw [e1]
  simp

theorem CrcTurned (x0 : ByteArray) (x1 : Int) (x2 : S30) (h0 : x0.size ≤ 9223372036854775807) (h1 : (Lit.int .i64 x1).wf = true) (h2 : Q30 x2) : ∃ k, headgatelaw02_CrcTurned.f k x0 x1 x2.f0 x2.f1 = some true := by
  refine ⟨x0.size + 12, ?_⟩
  have hj : headgatelaw02_CrcTurned.j0 (x0.size + 12) x0 x1 true x2.f0 x2.f1 = some true := by
    rw [headgatelaw02_CrcTurned.j0, if_pos rfl, wakes_ok _ (by omega)]
    rfl
  unfold headgatelaw02_CrcTurned.f
  by_cases ha : (x0.size : Int) < 2
  · rw [if_pos ha, hj]
  · rw [if_neg ha]
    by_cases hb : (x0.size : Int) > 20000
    · rw [decide_eq_true hb, hj]
    · have i1 := bounds_i64 h1
      have e0 : wrap64 ((x0.size : Int) - 1) = (x0.size : Int) - 1 := w64 (by omega) (by omega)
      have e1 : IntKind.u64.wrap ((x0.size : Int) - 1) = (x0.size : Int) - 1 := u64_id (by omega) (by omega)
      obtain ⟨kk, hkk, hlt⟩ : ∃ kk : Nat, wrap64 (Int.tmod (IntKind.u64.wrap x1) (IntKind.u64.wrap (wrap64 ((x0.size : Int) - 1)))) = kk ∧ kk + 2 ≤ x0.size := by
        have hu : 0 ≤ IntKind.u64.wrap x1 := by rw [wrap_u64]; omega
        rw [e0, e1, Int.tmod_eq_emod_of_nonneg hu]
        have b0 := Int.emod_nonneg (IntKind.u64.wrap x1) (b := (x0.size : Int) - 1) (by omega)
        have b1 := Int.emod_lt_of_pos (IntKind.u64.wrap x1) (b := (x0.size : Int) - 1) (by omega)
        refine ⟨(IntKind.u64.wrap x1 % ((x0.size : Int) - 1)).toNat, ?_, by omega⟩
        rw [w64 (by omega) (by omega)]
        omega
      have hnz : ¬ IntKind.u64.wrap (wrap64 ((x0.size : Int) - 1)) = 0 := by rw [e0, e1]; omega
      have k2 : wrap64 ((kk : Int) + 2) = ((kk + 2 : Nat) : Int) := by rw [w64 (by omega) (by omega)]; omega
      have k1 : wrap64 ((kk : Int) + 1) = ((kk + 1 : Nat) : Int) := by rw [w64 (by omega) (by omega)]; omega
      have sz0 : (x0.extract 0 kk).size = kk := by rw [ByteArray.size_extract]; omega
      have sz2 : (x0.extract (kk + 2) x0.size).size = x0.size - (kk + 2) := by rw [ByteArray.size_extract]; omega
      have sz1 : (x0.extract (kk + 1) x0.size).size = x0.size - (kk + 1) := by rw [ByteArray.size_extract]; omega
      have n2 : (strOfNums [x2.f0, x2.f1]).size = 2 := by rw [strOfNums_size]; rfl
      have n1 : (strOfNums [x2.f0]).size = 1 := by rw [strOfNums_size]; rfl
      have st2 : ((x0.extract 0 kk ++ strOfNums [x2.f0, x2.f1]) ++ x0.extract (kk + 2) x0.size).size = x0.size := by
        rw [ByteArray.size_append, ByteArray.size_append, sz0, sz2, n2]; omega
      have st1 : ((x0.extract 0 kk ++ strOfNums [x2.f0]) ++ x0.extract (kk + 1) x0.size).size = x0.size := by
        rw [ByteArray.size_append, ByteArray.size_append, sz0, sz1, n1]; omega
      have t2 : ((x0.extract 0 kk ++ strOfNums [x2.f0, x2.f1]) ++ x0.extract (kk + 2) x0.size).data.toList = x0.data.toList.take kk ++ [UInt8.ofNat x2.f0.toNat, UInt8.ofNat x2.f1.toNat] ++ x0.data.toList.drop (kk + 2) := by
        rw [app, app, ext0, ext1, strOfNums_data]
        rfl
      have t1 : ((x0.extract 0 kk ++ strOfNums [x2.f0]) ++ x0.extract (kk + 1) x0.size).data.toList = x0.data.toList.take kk ++ [UInt8.ofNat x2.f0.toNat] ++ x0.data.toList.drop (kk + 1) := by
        rw [app, app, ext0, ext1, strOfNums_data]
        rfl
      have hlen : x0.data.toList.length = x0.size := rfl
      have d2 := sums_differ _ x0 (by rw [st2]; exact h0) h0 (fun h => by rw [t2] at h ⊢; exact turned_at _ _ _ _ (by omega) h)
      have d1 := sums_differ _ x0 (by rw [st1]; exact h0) h0 (fun h => by rw [t1] at h ⊢; exact turned_at1 _ _ _ (by omega) h)
      rw [decide_eq_false hb, headgatelaw02_CrcTurned.j0, if_neg (by decide), if_neg hnz]
      simp only [hkk, k1, k2, Int.toNat_natCast, Option.bind_some]
      rw [if_pos (by omega), if_pos (by omega), if_pos (by rw [sz0, n2]; omega), if_pos (by omega), if_pos (by omega), if_pos (by rw [ByteArray.size_append, sz0, sz2, n2]; omega), if_pos (by rw [sz0, n1]; omega), if_pos (by omega), if_pos (by omega), if_pos (by rw [ByteArray.size_append, sz0, sz1, n1]; omega)]
      rw [Sum_spec _ (by rw [st2]; exact h0), Sum_spec x0 h0, Sum_spec _ (by rw [st1]; exact h0)]
      simp only [Option.bind_some, d2, d1, if_true, wakes_ok (x0.size + 11) (by omega)]

end Go.Proofs.YtfglkgaaafohjaaDoor.Pure
