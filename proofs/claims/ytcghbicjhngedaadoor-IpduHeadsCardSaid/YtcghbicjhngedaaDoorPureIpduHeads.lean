/- The head of any kind, and what is read and set in any head: the program and the document say the same. -/
import Derived.Test.YtcghbicjhngedaaDoorPx9
import Derived.Test.YtcghbicjhngedaaDoorRq
import Derived.Test.YtcghbicjhngedaaDoorIpduWakes
import Derived.Test.YtcghbicjhngedaaDoorIpduWire
namespace Go.Proofs.YtcghbicjhngedaaDoor.Pure
open Go.RowKit Go.Proofs.YtcghbicjhngedaaDoor.P Go.Proofs.YtcghbicjhngedaaDoorW.PrintWords Go.Proofs.YtcghbicjhngedaaDoorW.PrintLast Go.Proofs.YtcghbicjhngedaaDoorW.PrintMore Go.Proofs.YtcghbicjhngedaaDoor.Num
set_option linter.unusedVariables false
set_option linter.unusedSimpArgs false

theorem set_same (s : ByteArray) (a : Int) (t : ByteArray) (hs : (s.size : Int) ≤ 100000) (ht : (t.size : Int) ≤ 100000) : ∃ r, fields_Set.f s a t = some r ∧ headgateref01_Set.f s a t = some r := by
  unfold fields_Set.f headgateref01_Set.f
  rw [there_spec s a t.size (by omega)]
  by_cases h : 0 ≤ a ∧ a ≤ s.size - t.size
  · have hw : wrap64 ((s.size : Int) - t.size) = (s.size : Int) - t.size := w64 (by omega) (by omega)
    have hw2 : wrap64 (a + t.size) = a + t.size := w64 (by omega) (by omega)
    have e1 : (s.extract 0 a.toNat).size + t.size ≤ 9223372036854775807 := by rw [ByteArray.size_extract]; omega
    have e2 : (s.extract 0 a.toNat ++ t).size + (s.extract (a + t.size).toNat s.size).size ≤ 9223372036854775807 := by rw [ByteArray.size_append, ByteArray.size_extract, ByteArray.size_extract]; omega
    refine ⟨((s.extract 0 a.toNat ++ t) ++ s.extract (a + t.size).toNat s.size, true), ?_, ?_⟩
    · rw [hw, hw2, if_neg (by omega), if_neg (by omega), if_neg (by omega), if_pos (by omega), if_pos (by omega), if_pos e1, if_pos (by omega), if_pos (by omega), if_pos e2]
    · rw [Option.bind_some, if_pos (decide_eq_true (by omega)), hw2, if_pos (by omega), if_pos (by omega), if_pos e1, if_pos (by omega), if_pos (by omega), if_pos e2]
  · have hw : wrap64 ((s.size : Int) - t.size) = (s.size : Int) - t.size := w64 (by omega) (by omega)
    refine ⟨(⟨#[]⟩, false), ?_, ?_⟩
    · rw [hw]
      by_cases h1 : a < 0
      · rw [if_pos h1]
      · rw [if_neg h1]
        by_cases h2 : (t.size : Int) > s.size
        · rw [if_pos h2]
        · rw [if_neg h2, if_pos (by omega)]
    · rw [Option.bind_some, if_neg (by rw [decide_eq_true_eq]; omega)]
theorem byte_all : ∀ b : Fin 256, wrap64 (Go.bits .and .u8 (b.val : Int) 63) = wrap64 (Int.tmod (b.val : Int) 64) ∧ ((Go.bits .and .u8 (b.val : Int) 64) != 0) = ((((Int.tdiv (b.val : Int) 64) % 256) % 2) == 1) := by decide +kernel
theorem Kind_same (h d : ByteArray) : ipdu_Kind.f h d = headgateref20_Kind.f h d ∧ ∃ r, ipdu_Kind.f h d = some r := by
  unfold ipdu_Kind.f headgateref20_Kind.f
  by_cases h0 : h.toList = ([] : List UInt8)
  · rw [if_pos h0, if_pos h0]
    exact ⟨rfl, _, rfl⟩
  · have hs : 0 < (h.size : Int) := by
      have : h.size ≠ 0 := fun z => h0 ((toList_nil _).mpr z)
      omega
    rw [if_neg h0, if_neg h0, if_pos hs, if_pos hs]
    have hb := bt_bounds h 0
    obtain ⟨m, hm⟩ : ∃ m : Nat, bt h 0 = m := ⟨(bt h 0).toNat, by omega⟩
    have := byte_all ⟨m, by omega⟩
    rw [hm, this.1, this.2]
    exact ⟨rfl, _, rfl⟩
theorem and63 (a : Int) : Go.bits .and .i64 a 63 = a % 64 := by
  have e : (Go.bits .and .i64 a 63 : Int) = IntKind.i64.wrap ((BitVec.ofInt 64 a &&& 63#64).toNat : Int) := rfl
  rw [e, BitVec.toNat_and, BitVec.toNat_ofInt, show (63#64).toNat = 2 ^ 6 - 1 from rfl, Nat.and_two_pow_sub_one_eq_mod, IntKind.wrap_i64]
  omega
theorem and255 (a : Int) : Go.bits .and .i64 a 255 = a % 256 := by
  have e : (Go.bits .and .i64 a 255 : Int) = IntKind.i64.wrap ((BitVec.ofInt 64 a &&& 255#64).toNat : Int) := rfl
  rw [e, BitVec.toNat_and, BitVec.toNat_ofInt, show (255#64).toNat = 2 ^ 8 - 1 from rfl, Nat.and_two_pow_sub_one_eq_mod, IntKind.wrap_i64]
  omega
theorem or64 : ∀ x : Fin 64, Go.bits .or .u64 (x.val : Int) 64 = (x.val : Int) + 64 := by decide +kernel
/-- The first two bytes, and zeros. -/
theorem two_set (x y : Int) : setAt (setAt (strOfNums (List.replicate 48 0)) 0 (strOfNums [x])) 1 (strOfNums [y]) = strOfNums [x, y] ++ strOfNums (List.replicate 46 0) := by
  have h1 : (strOfNums (List.replicate 48 0)).extract 0 0 = ⟨#[]⟩ := by decide +kernel
  have h2 : (strOfNums (List.replicate 48 0)).extract 1 48 = strOfNums (List.replicate 47 0) := by decide +kernel
  have h3 : (strOfNums (List.replicate 47 0)).extract 1 47 = strOfNums (List.replicate 46 0) := by decide +kernel
  have z1 : ∀ z : Int, (strOfNums [z]).size = 1 := fun z => by rw [strOfNums_size]; rfl
  have z47 : (strOfNums (List.replicate 47 0)).size = 47 := by rw [strOfNums_size, List.length_replicate]
  have z48 : (strOfNums (List.replicate 48 0)).size = 48 := by rw [strOfNums_size, List.length_replicate]
  have e1 : setAt (strOfNums (List.replicate 48 0)) 0 (strOfNums [x]) = strOfNums [x] ++ strOfNums (List.replicate 47 0) := by
    unfold setAt
    rw [h1, z1, z48, h2, none_append ⟨#[]⟩ (strOfNums [x]) rfl]
  have zz : (strOfNums [x] ++ strOfNums (List.replicate 47 0)).size = 48 := by rw [ByteArray.size_append, z1, z47]
  have hx := @ByteArray.extract_zero_size (strOfNums [x])
  rw [z1] at hx
  rw [e1]
  unfold setAt
  rw [zz, z1, cut_left _ _ _ _ (by rw [z1]; omega), cut_right _ _ _ _ (by rw [z1]; omega), hx, z1, show 1 + 1 - 1 = 1 from rfl, show 48 - 1 = 47 from rfl, h3]
  congr 1
theorem beL_one (v : Int) : beL v 1 = [v % 256] := by
  unfold beL
  show [v / p (1 - 1 - 0) % 256] = _
  rw [show 1 - 1 - 0 = 0 from rfl, p_zero, Int.ediv_one]
theorem head_bytes (kind flags tag : Int) (u : Bool) (k : Nat) (hk : 20 ≤ k) (hk0 : -9223372036854775808 ≤ kind) (hk1 : kind < 9223372036854775808) (hf0 : -9223372036854775808 ≤ flags) (hf1 : flags < 9223372036854775808) (ht0 : 0 ≤ tag) (ht1 : tag < 4294967296) :
    ∃ r, ipdu_Head.f k kind u flags tag = some r ∧ headgateref20_Head.f k kind u flags tag = some r := by
  have eT : IntKind.u64.wrap tag = tag := u64_id (by omega) (by omega)
  have eF : IntKind.u64.wrap (Go.bits .and .i64 flags 255) = flags % 256 := by rw [and255]; exact u64_id (by omega) (by omega)
  have eK : IntKind.u64.wrap (Go.bits .and .i64 kind 63) = kind % 64 := by rw [and63]; exact u64_id (by omega) (by omega)
  have eO : Go.bits .or .u64 (kind % 64) 64 = kind % 64 + 64 := by
    obtain ⟨m, hm⟩ : ∃ m : Nat, kind % 64 = m := ⟨(kind % 64).toNat, by omega⟩
    have := or64 ⟨m, by omega⟩
    rw [hm]
    exact this
  have wF : wrap64 (Int.tmod flags 256 + 256) = Int.tmod flags 256 + 256 := by
    have h1 := Int.tmod_lt_of_pos flags (b := 256) (by decide)
    have h2 := Int.lt_tmod_of_pos flags (b := 256) (by decide)
    exact w64 (by omega) (by omega)
  have wK : wrap64 (Int.tmod kind 64 + 64) = Int.tmod kind 64 + 64 := by
    have h1 := Int.tmod_lt_of_pos kind (b := 64) (by decide)
    have h2 := Int.lt_tmod_of_pos kind (b := 64) (by decide)
    exact w64 (by omega) (by omega)
  have rF : Int.tmod (Int.tmod flags 256 + 256) 256 % 256 = flags % 256 := by
    have h2 := Int.lt_tmod_of_pos flags (b := 256) (by decide)
    have h3 := Int.mul_tdiv_add_tmod flags 256
    rw [Int.tmod_eq_emod_of_nonneg (by omega)]
    omega
  have rK : Int.tmod (Int.tmod kind 64 + 64) 64 = kind % 64 := by
    have h2 := Int.lt_tmod_of_pos kind (b := 64) (by decide)
    have h3 := Int.mul_tdiv_add_tmod kind 64
    rw [Int.tmod_eq_emod_of_nonneg (by omega)]
    omega
  have z1 : ∀ z : Int, (strOfNums (beL z 1)).size = 1 := fun z => by rw [strOfNums_size, beL_length]
  have z4 : (strOfNums (beL tag 4)).size = 4 := by rw [strOfNums_size, beL_length]
  have z48 : (strOfNums (List.replicate 48 0)).size = 48 := by rw [strOfNums_size, List.length_replicate]
  have z46 : (strOfNums (List.replicate 46 0)).size = 46 := by rw [strOfNums_size, List.length_replicate]
  have pB : ∀ z : Int, fields_PutBig.f k z 1 = some (strOfNums (beL z 1)) := fun z => by rw [PutBig_spec _ _ _ (by omega), if_pos (by decide)]; rfl
  have pT : fields_PutBig.f k tag 4 = some (strOfNums (beL tag 4)) := by rw [PutBig_spec _ _ _ (by omega), if_pos (by decide)]; rfl
  have pR : headgateref01_PutBig.f k tag 4 = some (strOfNums (beL tag 4)) := by rw [ref_PutBig_spec _ _ ht0 (by omega) _ (by omega), if_pos (by decide)]; rfl
  have main : ∀ x : Int, ∃ r, (fields_Set.f (strOfNums (List.replicate 48 0)) 0 (strOfNums (beL x 1))).bind (fun t0 => (fields_PutBig.f k (flags % 256) 1).bind fun p1 => (fields_Set.f t0.1 1 p1).bind fun t1 => (fields_PutBig.f k tag 4).bind fun p2 => (fields_Set.f t1.1 16 p2).bind fun t2 => some t2.1) = some r ∧
      headgateref01_Put.f ((strOfNums [x % 256, flags % 256 % 256]) ++ (strOfNums (List.replicate 46 0))) 16 (strOfNums (beL tag 4)) = some r := fun x => by
    have s0 := Set_at (strOfNums (List.replicate 48 0)) (strOfNums (beL x 1)) 0 (by rw [z48]; omega) (by rw [z48, z1]; omega)
    have y0 := setAt_size (strOfNums (List.replicate 48 0)) (strOfNums (beL x 1)) 0 (by rw [z48, z1]; omega)
    rw [z48] at y0
    have s1 := Set_at (setAt (strOfNums (List.replicate 48 0)) 0 (strOfNums (beL x 1))) (strOfNums (beL (flags % 256) 1)) 1 (by omega) (by rw [y0, z1]; omega)
    have y1 := setAt_size (setAt (strOfNums (List.replicate 48 0)) 0 (strOfNums (beL x 1))) (strOfNums (beL (flags % 256) 1)) 1 (by rw [y0, z1]; omega)
    rw [y0] at y1
    have s2 := Set_at (setAt (setAt (strOfNums (List.replicate 48 0)) 0 (strOfNums (beL x 1))) 1 (strOfNums (beL (flags % 256) 1))) (strOfNums (beL tag 4)) 16 (by omega) (by rw [y1, z4]; omega)
    have e2 := two_set (x % 256) (flags % 256 % 256)
    have zc : ((strOfNums [x % 256, flags % 256 % 256]) ++ (strOfNums (List.replicate 46 0))).size = 48 := by rw [ByteArray.size_append, z46, strOfNums_size]; rfl
    have s3 := ref_Put_at ((strOfNums [x % 256, flags % 256 % 256]) ++ (strOfNums (List.replicate 46 0))) (strOfNums (beL tag 4)) 16 (by omega) (by rw [zc, z4]; omega)
    rw [beL_one, beL_one] at s2
    rw [e2] at s2
    refine ⟨_, ?_, s3⟩
    rw [show ((0 : Nat) : Int) = 0 from rfl] at s0
    rw [show ((1 : Nat) : Int) = 1 from rfl] at s1
    rw [show ((16 : Nat) : Int) = 16 from rfl] at s2
    rw [s0, Option.bind_some, pB, Option.bind_some, s1, Option.bind_some, pT, Option.bind_some, beL_one, beL_one, e2]
    dsimp only
    rw [s2]
    rfl
  unfold ipdu_Head.f headgateref20_Head.f
  rw [eF, eK, eO, wF, wK, rF, rK, eT]
  cases u with
  | false =>
    obtain ⟨r, h1, h2⟩ := main (kind % 64)
    refine ⟨r, ?_, ?_⟩
    · rw [if_neg (by decide), pB, Option.bind_some]
      exact h1
    · rw [if_neg (by decide), Option.bind_some, if_pos (by decide), Option.bind_some, if_pos (by rw [z46, strOfNums_size]; simp), pR, Option.bind_some]
      rw [show flags % 256 = flags % 256 % 256 by omega, h2]
      rfl
  | true =>
    obtain ⟨r, h1, h2⟩ := main (kind % 64 + 64)
    refine ⟨r, ?_, ?_⟩
    · rw [if_pos rfl, pB, Option.bind_some]
      exact h1
    · rw [if_pos rfl, Option.bind_some, if_pos (by decide), Option.bind_some, if_pos (by rw [z46, strOfNums_size]; simp), pR, Option.bind_some]
      rw [show flags % 256 = flags % 256 % 256 by omega, show kind % 64 % 256 + 64 = kind % 64 + 64 by omega, h2]
      rfl
theorem Num_same (k : Nat) (h d : ByteArray) (a : Int) (hs : h.size ≤ 20000) (hk : 20 ≤ k) : ∃ r, ipdu_Num.f k h d a = some r ∧ headgateref20_Num.f k h d a = some r := by
  unfold ipdu_Num.f headgateref20_Num.f
  rw [Big_spec _ _ _ (by omega) k (by omega), ref_Big_spec _ _ _ (by omega) k (by omega)]
  exact ⟨_, rfl, rfl⟩

theorem IpduHeads (x0 : S45) (x1 : S23) (x2 : Int) (h0 : Q45 x0) (h1 : Q23 x1) (h2 : (Lit.int .u32 x2).wf = true) : ∃ k, headgatelaw20_IpduHeads.f k x0.f0 x0.f1 x0.f2 x1.f0 x1.f1 x2 = some true := by
  refine ⟨100, ?_⟩
  have hj : headgatelaw20_IpduHeads.j0 100 x2 true x0.f0 x0.f1 x0.f2 x1.f0 x1.f1 = some true := by
    rw [headgatelaw20_IpduHeads.j0, if_pos rfl, wakes_ok _ (by decide)]
    rfl
  unfold headgatelaw20_IpduHeads.f
  by_cases h3 : (x1.f0.size : Int) > 20000
  · rw [if_pos h3, hj]
  · rw [if_neg h3]
    by_cases h4 : (x1.f1.size : Int) > 20000
    · rw [decide_eq_true h4, hj]
    · have q0 := bounds_i64 h0.1
      have q1 := bounds_i64 h0.2.1
      have q2 := bounds_u32 h2
      obtain ⟨kk, kr, hkr⟩ := Kind_same x1.f0 x1.f1
      obtain ⟨hr, hr1, hr2⟩ := head_bytes x0.f0 x0.f1 x2 ((Int.tmod x0.f1 2) == 0) 99 (by decide) (by omega) (by omega) (by omega) (by omega) (by omega) (by omega)
      obtain ⟨t, ht1, ht2⟩ := Num_same 99 x1.f0 x1.f1 16 (by omega) (by decide)
      obtain ⟨n, hn1, hn2⟩ := Num_same 99 x1.f0 x1.f1 x0.f2 (by omega) (by decide)
      have htg : ipdu_Tag.f 99 x1.f0 x1.f1 = some t := by unfold ipdu_Tag.f; rw [ht1]; rfl
      have eV : IntKind.u64.wrap x2 = x2 := u64_id (by omega) (by omega)
      have z4 : (strOfNums (beL x2 4)).size = 4 := by rw [strOfNums_size, beL_length]
      have pT : fields_PutBig.f 99 x2 4 = some (strOfNums (beL x2 4)) := by rw [PutBig_spec _ _ _ (by omega), if_pos (by decide)]; rfl
      have pR : headgateref01_PutBig.f 99 x2 4 = some (strOfNums (beL x2 4)) := by rw [ref_PutBig_spec _ _ (by omega) (by omega) _ (by omega), if_pos (by decide)]; rfl
      obtain ⟨⟨s, ok⟩, hs1, hs2⟩ := set_same x1.f0 x0.f2 (strOfNums (beL x2 4)) (by omega) (by omega)
      obtain ⟨wr, hw1, hw2⟩ : ∃ wr, ipdu_With.f 99 x1.f0 x1.f1 x0.f2 x2 = some wr ∧ headgateref20_With.f 99 x1.f0 x1.f1 x0.f2 x2 = some wr := by
        unfold ipdu_With.f headgateref20_With.f
        rw [eV, pT, Option.bind_some, hs1, Option.bind_some, pR, Option.bind_some, hs2, Option.bind_some]
        cases ok
        · exact ⟨_, rfl, rfl⟩
        · exact ⟨_, rfl, rfl⟩
      rw [decide_eq_false h4, headgatelaw20_IpduHeads.j0, if_neg (by decide), hkr, Option.bind_some, ← kk, hkr, Option.bind_some, hr1, Option.bind_some, hr2, Option.bind_some, if_pos rfl, if_pos rfl, if_pos (by simp), htg, Option.bind_some, ht2, Option.bind_some, if_pos rfl, hn1, Option.bind_some, hn2, Option.bind_some, if_pos rfl, hw1, Option.bind_some, hw2, Option.bind_some]
      unfold headgateref20_Same.f
      rw [if_pos rfl, Option.bind_some, if_pos (by simp), wakes_ok _ (by decide)]
      rfl

end Go.Proofs.YtcghbicjhngedaaDoor.Pure
