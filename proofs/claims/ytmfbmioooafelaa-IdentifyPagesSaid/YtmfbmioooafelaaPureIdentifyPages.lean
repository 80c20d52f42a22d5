/- The page of any target, and of any unit: the program and the document say the same. -/
import Derived.Test.YtmfbmioooafelaaPx6
import Derived.Test.YtmfbmioooafelaaRq
import Derived.Test.YtmfbmioooafelaaIdentLib
namespace Go.Proofs.Ytmfbmioooafelaa.Pure
open Go.RowKit Go.Proofs.Ytmfbmioooafelaa.P Go.Proofs.YtmfbmioooafelaaW.PrintWords Go.Proofs.YtmfbmioooafelaaW.PrintLast Go.Proofs.YtmfbmioooafelaaW.PrintMore Go.Proofs.Ytmfbmioooafelaa.Num
set_option linter.unusedVariables false
set_option linter.unusedSimpArgs false

def idc (s : ByteArray) : ByteArray := s.extract 0 (min s.size 256)
theorem idc_size (s : ByteArray) : (idc s).size = min s.size 256 := by unfold idc; rw [ByteArray.size_extract]; omega
def cparts (t : ByteArray) : List S34 := [(⟨4, (⟨#[72, 69, 65, 68, 71, 65, 84, 69, 45, 48, 48, 48, 49, 32, 32, 32, 32, 32, 32, 32]⟩ : ByteArray)⟩ : S34), (⟨24, (⟨#[72, 69, 65, 68, 71, 65, 84, 69, 32, 66, 76, 79, 67, 75, 32, 85, 78, 73, 84, 32, 32, 32, 32, 32, 32, 32, 32, 32, 32, 32, 32, 32, 32, 32, 32, 32, 32, 32, 32, 32]⟩ : ByteArray)⟩ : S34), (⟨64, (⟨#[48, 48, 48, 49, 32, 32, 32, 32]⟩ : ByteArray)⟩ : S34), num 77 3 1, num 78 1 2, num 80 131072 4, num 512 102 1, num 513 68 1, num 516 8 4, num 520 44 2, num 522 1 2, num 525 1 1, num 526 63 2, (⟨768, idc t⟩ : S34)]
theorem text_fits (a : Nat) (s : ByteArray) (h : a < 4096 ∧ a + s.size ≤ 4096) : fits ⟨(a : Int), s⟩ := by
  unfold fits
  dsimp only
  omega
theorem cparts_fit (t : ByteArray) : ∀ p ∈ cparts t, fits p := by
  have hz := idc_size t
  intro p hp
  unfold cparts at hp
  simp only [List.mem_cons, List.not_mem_nil, or_false] at hp
  rcases hp with h | h | h | h | h | h | h | h | h | h | h | h | h | h
  · rw [h]; exact text_fits 4 _ (by decide)
  · rw [h]; exact text_fits 24 _ (by decide)
  · rw [h]; exact text_fits 64 _ (by decide)
  · rw [h]; exact num_fits _ _ _ (by omega) (by omega)
  · rw [h]; exact num_fits _ _ _ (by omega) (by omega)
  · rw [h]; exact num_fits _ _ _ (by omega) (by omega)
  · rw [h]; exact num_fits _ _ _ (by omega) (by omega)
  · rw [h]; exact num_fits _ _ _ (by omega) (by omega)
  · rw [h]; exact num_fits _ _ _ (by omega) (by omega)
  · rw [h]; exact num_fits _ _ _ (by omega) (by omega)
  · rw [h]; exact num_fits _ _ _ (by omega) (by omega)
  · rw [h]; exact num_fits _ _ _ (by omega) (by omega)
  · rw [h]; exact num_fits _ _ _ (by omega) (by omega)
  · rw [h]; exact text_fits 768 _ (by omega)
theorem pg_cons (s : ByteArray) (p : S34) (l : List S34) : pg s (p :: l) = pg (pg s [p]) l := rfl
def cp (t : ByteArray) : ByteArray := pg zero (cparts t)
theorem Controller_spec (k : Nat) (t : ByteArray) (hk : 30 ≤ k) : identify_Controller.f k t = some (cp t) := by
  have em : mn (t.size : Int) 256 = ((min t.size 256 : Nat) : Int) := by unfold mn; split <;> omega
  have pg_ := page_spec (cparts t) (show 14 ≤ 100000 by decide) (cparts_fit t)
  have n0 : identify_number.f k 77 3 1 = some ((num 77 3 1).f0, (num 77 3 1).f1) := number_spec k 77 1 3 (by decide) (by decide) (by decide) (by omega)
  have n1 : identify_number.f k 78 1 2 = some ((num 78 1 2).f0, (num 78 1 2).f1) := number_spec k 78 2 1 (by decide) (by decide) (by decide) (by omega)
  have n2 : identify_number.f k 80 131072 4 = some ((num 80 131072 4).f0, (num 80 131072 4).f1) := number_spec k 80 4 131072 (by decide) (by decide) (by decide) (by omega)
  have n3 : identify_number.f k 512 102 1 = some ((num 512 102 1).f0, (num 512 102 1).f1) := number_spec k 512 1 102 (by decide) (by decide) (by decide) (by omega)
  have n4 : identify_number.f k 513 68 1 = some ((num 513 68 1).f0, (num 513 68 1).f1) := number_spec k 513 1 68 (by decide) (by decide) (by decide) (by omega)
  have n5 : identify_number.f k 516 8 4 = some ((num 516 8 4).f0, (num 516 8 4).f1) := number_spec k 516 4 8 (by decide) (by decide) (by decide) (by omega)
  have n6 : identify_number.f k 520 44 2 = some ((num 520 44 2).f0, (num 520 44 2).f1) := number_spec k 520 2 44 (by decide) (by decide) (by decide) (by omega)
  have n7 : identify_number.f k 522 1 2 = some ((num 522 1 2).f0, (num 522 1 2).f1) := number_spec k 522 2 1 (by decide) (by decide) (by decide) (by omega)
  have n8 : identify_number.f k 525 1 1 = some ((num 525 1 1).f0, (num 525 1 1).f1) := number_spec k 525 1 1 (by decide) (by decide) (by decide) (by omega)
  have n9 : identify_number.f k 526 63 2 = some ((num 526 63 2).f0, (num 526 63 2).f1) := number_spec k 526 2 63 (by decide) (by decide) (by decide) (by omega)
  unfold identify_Controller.f
  rw [n0, Option.bind_some, n1, Option.bind_some, n2, Option.bind_some, n3, Option.bind_some, n4, Option.bind_some, n5, Option.bind_some, n6, Option.bind_some, n7, Option.bind_some, n8, Option.bind_some, n9, Option.bind_some, em, if_pos (by omega), if_pos (by omega), Int.toNat_natCast]
  unfold cparts idc at pg_
  rw [pg_]
  rfl
theorem blanks_l0 (n : Nat) (hn : n ≤ 100) : ∀ (d k : Nat) (s : ByteArray), s.size + d = n → d < k → headgateref26_blanks.l0 k s (n : Int) = some (s ++ ⟨(List.replicate d 32).toArray⟩)
  | 0, k + 1, s, h, _ => by
    rw [headgateref26_blanks.l0, if_neg (by omega)]
    exact congrArg some (append_none s _ rfl).symm
  | d + 1, k + 1, s, h, hk => by
    have z : (s ++ (⟨#[32]⟩ : ByteArray)).size = s.size + 1 := ByteArray.size_append
    rw [headgateref26_blanks.l0, if_pos (by omega), if_pos (by omega), blanks_l0 n hn d k _ (by omega) (by omega), ByteArray.append_assoc]
    congr 2
theorem one_size (p : S34) (s : ByteArray) (hs : s.size = 4096) (h : fits p) : (pg s [p]).size = 4096 := pg_size _ _ hs (fun q hq => by rw [List.mem_singleton.mp hq]; exact h)
theorem ref_Controller_j0 (k : Nat) (t u : ByteArray) (hu : u = idc t) (hk : 60 ≤ k) : headgateref26_Controller.j0 k u = some (cp t) := by
  obtain ⟨k, rfl⟩ : ∃ q, k = q + 1 := ⟨k - 1, by omega⟩
  have hz := idc_size t
  have s0 := zero_size
  have b1 : headgateref26_blanks.f k (⟨#[72, 69, 65, 68, 71, 65, 84, 69, 45, 48, 48, 48, 49]⟩ : ByteArray) 20 = some (⟨#[72, 69, 65, 68, 71, 65, 84, 69, 45, 48, 48, 48, 49, 32, 32, 32, 32, 32, 32, 32]⟩ : ByteArray) := by
    unfold headgateref26_blanks.f
    exact (blanks_l0 20 (by decide) 7 k (⟨#[72, 69, 65, 68, 71, 65, 84, 69, 45, 48, 48, 48, 49]⟩ : ByteArray) (by decide) (by omega)).trans (by decide +kernel)
  have p1 := ref_put_spec 4 (⟨#[72, 69, 65, 68, 71, 65, 84, 69, 45, 48, 48, 48, 49, 32, 32, 32, 32, 32, 32, 32]⟩ : ByteArray) zero s0 (by decide)
  rw [show ((4 : Nat) : Int) = 4 from rfl] at p1
  have s1 : (pg zero [(⟨4, (⟨#[72, 69, 65, 68, 71, 65, 84, 69, 45, 48, 48, 48, 49, 32, 32, 32, 32, 32, 32, 32]⟩ : ByteArray)⟩ : S34)]).size = 4096 := one_size _ _ s0 (text_fits 4 _ (by decide))
  generalize e1 : pg zero [(⟨4, (⟨#[72, 69, 65, 68, 71, 65, 84, 69, 45, 48, 48, 48, 49, 32, 32, 32, 32, 32, 32, 32]⟩ : ByteArray)⟩ : S34)] = t1 at p1 s1
  have b2 : headgateref26_blanks.f k (⟨#[72, 69, 65, 68, 71, 65, 84, 69, 32, 66, 76, 79, 67, 75, 32, 85, 78, 73, 84]⟩ : ByteArray) 40 = some (⟨#[72, 69, 65, 68, 71, 65, 84, 69, 32, 66, 76, 79, 67, 75, 32, 85, 78, 73, 84, 32, 32, 32, 32, 32, 32, 32, 32, 32, 32, 32, 32, 32, 32, 32, 32, 32, 32, 32, 32, 32]⟩ : ByteArray) := by
    unfold headgateref26_blanks.f
    exact (blanks_l0 40 (by decide) 21 k (⟨#[72, 69, 65, 68, 71, 65, 84, 69, 32, 66, 76, 79, 67, 75, 32, 85, 78, 73, 84]⟩ : ByteArray) (by decide) (by omega)).trans (by decide +kernel)
  have p2 := ref_put_spec 24 (⟨#[72, 69, 65, 68, 71, 65, 84, 69, 32, 66, 76, 79, 67, 75, 32, 85, 78, 73, 84, 32, 32, 32, 32, 32, 32, 32, 32, 32, 32, 32, 32, 32, 32, 32, 32, 32, 32, 32, 32, 32]⟩ : ByteArray) t1 s1 (by decide)
  rw [show ((24 : Nat) : Int) = 24 from rfl] at p2
  have s2 : (pg t1 [(⟨24, (⟨#[72, 69, 65, 68, 71, 65, 84, 69, 32, 66, 76, 79, 67, 75, 32, 85, 78, 73, 84, 32, 32, 32, 32, 32, 32, 32, 32, 32, 32, 32, 32, 32, 32, 32, 32, 32, 32, 32, 32, 32]⟩ : ByteArray)⟩ : S34)]).size = 4096 := one_size _ _ s1 (text_fits 24 _ (by decide))
  generalize e2 : pg t1 [(⟨24, (⟨#[72, 69, 65, 68, 71, 65, 84, 69, 32, 66, 76, 79, 67, 75, 32, 85, 78, 73, 84, 32, 32, 32, 32, 32, 32, 32, 32, 32, 32, 32, 32, 32, 32, 32, 32, 32, 32, 32, 32, 32]⟩ : ByteArray)⟩ : S34)] = t2 at p2 s2
  have b3 : headgateref26_blanks.f k (⟨#[48, 48, 48, 49]⟩ : ByteArray) 8 = some (⟨#[48, 48, 48, 49, 32, 32, 32, 32]⟩ : ByteArray) := by
    unfold headgateref26_blanks.f
    exact (blanks_l0 8 (by decide) 4 k (⟨#[48, 48, 48, 49]⟩ : ByteArray) (by decide) (by omega)).trans (by decide +kernel)
  have p3 := ref_put_spec 64 (⟨#[48, 48, 48, 49, 32, 32, 32, 32]⟩ : ByteArray) t2 s2 (by decide)
  rw [show ((64 : Nat) : Int) = 64 from rfl] at p3
  have s3 : (pg t2 [(⟨64, (⟨#[48, 48, 48, 49, 32, 32, 32, 32]⟩ : ByteArray)⟩ : S34)]).size = 4096 := one_size _ _ s2 (text_fits 64 _ (by decide))
  generalize e3 : pg t2 [(⟨64, (⟨#[48, 48, 48, 49, 32, 32, 32, 32]⟩ : ByteArray)⟩ : S34)] = t3 at p3 s3
  have p4 : headgateref26_num.f k t3 77 3 1 = some (pg t3 [num 77 3 1]) := ref_num_spec k 77 1 3 t3 s3 (by decide) (by decide) (by decide) (by decide) (by omega)
  have s4 : (pg t3 [num 77 3 1]).size = 4096 := one_size _ _ s3 (num_fits _ _ _ (by decide) (by decide))
  generalize e4 : pg t3 [num 77 3 1] = t4 at p4 s4
  have p5 : headgateref26_num.f k t4 78 1 2 = some (pg t4 [num 78 1 2]) := ref_num_spec k 78 2 1 t4 s4 (by decide) (by decide) (by decide) (by decide) (by omega)
  have s5 : (pg t4 [num 78 1 2]).size = 4096 := one_size _ _ s4 (num_fits _ _ _ (by decide) (by decide))
  generalize e5 : pg t4 [num 78 1 2] = t5 at p5 s5
  have p6 : headgateref26_num.f k t5 80 131072 4 = some (pg t5 [num 80 131072 4]) := ref_num_spec k 80 4 131072 t5 s5 (by decide) (by decide) (by decide) (by decide) (by omega)
  have s6 : (pg t5 [num 80 131072 4]).size = 4096 := one_size _ _ s5 (num_fits _ _ _ (by decide) (by decide))
  generalize e6 : pg t5 [num 80 131072 4] = t6 at p6 s6
  have p7 : headgateref26_num.f k t6 512 102 1 = some (pg t6 [num 512 102 1]) := ref_num_spec k 512 1 102 t6 s6 (by decide) (by decide) (by decide) (by decide) (by omega)
  have s7 : (pg t6 [num 512 102 1]).size = 4096 := one_size _ _ s6 (num_fits _ _ _ (by decide) (by decide))
  generalize e7 : pg t6 [num 512 102 1] = t7 at p7 s7
  have p8 : headgateref26_num.f k t7 513 68 1 = some (pg t7 [num 513 68 1]) := ref_num_spec k 513 1 68 t7 s7 (by decide) (by decide) (by decide) (by decide) (by omega)
  have s8 : (pg t7 [num 513 68 1]).size = 4096 := one_size _ _ s7 (num_fits _ _ _ (by decide) (by decide))
  generalize e8 : pg t7 [num 513 68 1] = t8 at p8 s8
  have p9 : headgateref26_num.f k t8 516 8 4 = some (pg t8 [num 516 8 4]) := ref_num_spec k 516 4 8 t8 s8 (by decide) (by decide) (by decide) (by decide) (by omega)
  have s9 : (pg t8 [num 516 8 4]).size = 4096 := one_size _ _ s8 (num_fits _ _ _ (by decide) (by decide))
  generalize e9 : pg t8 [num 516 8 4] = t9 at p9 s9
  have p10 : headgateref26_num.f k t9 520 44 2 = some (pg t9 [num 520 44 2]) := ref_num_spec k 520 2 44 t9 s9 (by decide) (by decide) (by decide) (by decide) (by omega)
  have s10 : (pg t9 [num 520 44 2]).size = 4096 := one_size _ _ s9 (num_fits _ _ _ (by decide) (by decide))
  generalize e10 : pg t9 [num 520 44 2] = t10 at p10 s10
  have p11 : headgateref26_num.f k t10 522 1 2 = some (pg t10 [num 522 1 2]) := ref_num_spec k 522 2 1 t10 s10 (by decide) (by decide) (by decide) (by decide) (by omega)
  have s11 : (pg t10 [num 522 1 2]).size = 4096 := one_size _ _ s10 (num_fits _ _ _ (by decide) (by decide))
  generalize e11 : pg t10 [num 522 1 2] = t11 at p11 s11
  have p12 : headgateref26_num.f k t11 525 1 1 = some (pg t11 [num 525 1 1]) := ref_num_spec k 525 1 1 t11 s11 (by decide) (by decide) (by decide) (by decide) (by omega)
  have s12 : (pg t11 [num 525 1 1]).size = 4096 := one_size _ _ s11 (num_fits _ _ _ (by decide) (by decide))
  generalize e12 : pg t11 [num 525 1 1] = t12 at p12 s12
  have p13 : headgateref26_num.f k t12 526 63 2 = some (pg t12 [num 526 63 2]) := ref_num_spec k 526 2 63 t12 s12 (by decide) (by decide) (by decide) (by decide) (by omega)
  have s13 : (pg t12 [num 526 63 2]).size = 4096 := one_size _ _ s12 (num_fits _ _ _ (by decide) (by decide))
  generalize e13 : pg t12 [num 526 63 2] = t13 at p13 s13
  have pz := ref_put_spec 768 u t13 s13 (by rw [hu]; omega)
  rw [show ((768 : Nat) : Int) = 768 from rfl] at pz
  rw [headgateref26_Controller.j0, ref_page_spec, Option.bind_some, b1, Option.bind_some, p1, Option.bind_some, b2, Option.bind_some, p2, Option.bind_some, b3, Option.bind_some, p3, Option.bind_some, p4, Option.bind_some, p5, Option.bind_some, p6, Option.bind_some, p7, Option.bind_some, p8, Option.bind_some, p9, Option.bind_some, p10, Option.bind_some, p11, Option.bind_some, p12, Option.bind_some, p13, Option.bind_some, pz, Option.bind_some]
  have hc : ∀ R, R = pg t13 [(⟨768, idc t⟩ : S34)] → cp t = R := by
    intro R hR
    unfold cp cparts
    rw [pg_cons, e1, pg_cons, e2, pg_cons, e3, pg_cons, e4, pg_cons, e5, pg_cons, e6, pg_cons, e7, pg_cons, e8, pg_cons, e9, pg_cons, e10, pg_cons, e11, pg_cons, e12, pg_cons, e13]
    exact hR.symm
  rw [hu]
  exact congrArg some (hc _ rfl).symm
theorem ref_Controller_spec (k : Nat) (t : ByteArray) (hk : 60 ≤ k) : headgateref26_Controller.f k t = some (cp t) := by
  unfold headgateref26_Controller.f
  by_cases h : (t.size : Int) > 256
  · rw [if_pos h, if_pos (by decide), if_pos (by omega), ref_Controller_j0 k t _ (by unfold idc; rw [show min t.size 256 = 256 by omega]) hk]
  · rw [if_neg h, ref_Controller_j0 k t t (by unfold idc; rw [show min t.size 256 = t.size by omega, ByteArray.extract_zero_size]) hk]
theorem ref_Unit_spec (k : Nat) (b : Int) (s : ByteArray) (h1 : b < 9223372036854775808) (hk : 30 ≤ k) : headgateref26_Unit.f k b s = some (up (mx b 0) s) := by
  have hb := mx_bounds b h1
  have hz := idOf_size s
  unfold headgateref26_Unit.f
  generalize mx b 0 = m at *
  have s0 := zero_size
  have p1 : headgateref26_num.f k zero 0 m 8 = some (pg zero [num 0 m 8]) := ref_num_spec k 0 8 m zero s0 hb.1 hb.2 (by decide) (by decide) (by omega)
  have s1 : (pg zero [num 0 m 8]).size = 4096 := one_size _ _ s0 (num_fits _ _ _ (by decide) (by decide))
  generalize e1 : pg zero [num 0 m 8] = t1 at p1 s1
  have p2 : headgateref26_num.f k t1 8 m 8 = some (pg t1 [num 8 m 8]) := ref_num_spec k 8 8 m t1 s1 hb.1 hb.2 (by decide) (by decide) (by omega)
  have s2 : (pg t1 [num 8 m 8]).size = 4096 := one_size _ _ s1 (num_fits _ _ _ (by decide) (by decide))
  generalize e2 : pg t1 [num 8 m 8] = t2 at p2 s2
  have p3 : headgateref26_num.f k t2 16 m 8 = some (pg t2 [num 16 m 8]) := ref_num_spec k 16 8 m t2 s2 hb.1 hb.2 (by decide) (by decide) (by omega)
  have s3 : (pg t2 [num 16 m 8]).size = 4096 := one_size _ _ s2 (num_fits _ _ _ (by decide) (by decide))
  generalize e3 : pg t2 [num 16 m 8] = t3 at p3 s3
  have p4 : headgateref26_num.f k t3 31 127 1 = some (pg t3 [num 31 127 1]) := ref_num_spec k 31 1 127 t3 s3 (by decide) (by decide) (by decide) (by decide) (by omega)
  have s4 : (pg t3 [num 31 127 1]).size = 4096 := one_size _ _ s3 (num_fits _ _ _ (by decide) (by decide))
  generalize e4 : pg t3 [num 31 127 1] = t4 at p4 s4
  have p5 := ref_put_spec 104 (idOf s) t4 s4 (by omega)
  rw [show ((104 : Nat) : Int) = 104 from rfl] at p5
  have s5 : (pg t4 [(⟨104, idOf s⟩ : S34)]).size = 4096 := one_size _ _ s4 (text_fits 104 _ (by omega))
  generalize e5 : pg t4 [(⟨104, idOf s⟩ : S34)] = t5 at p5 s5
  have p6 : headgateref26_num.f k t5 130 9 1 = some (pg t5 [num 130 9 1]) := ref_num_spec k 130 1 9 t5 s5 (by decide) (by decide) (by decide) (by decide) (by omega)
  have e : up m s = pg t5 [num 130 9 1] := by
    have hc : ∀ R, R = pg t5 [num 130 9 1] → up m s = R := by
      intro R hR
      unfold up unitParts
      rw [pg_cons, e1, pg_cons, e2, pg_cons, e3, pg_cons, e4, pg_cons, e5]
      exact hR.symm
    exact hc _ rfl
  rw [ref_page_spec, Option.bind_some, p1, Option.bind_some, p2, Option.bind_some, p3, Option.bind_some, e]
  by_cases h : (s.size : Int) > 16
  · have ei : s.extract 0 16 = idOf s := by unfold idOf; rw [show min s.size 16 = 16 by omega]
    rw [if_pos h, if_pos (by decide), if_pos (by omega), ei, p4, Option.bind_some, p5, Option.bind_some, p6]
    rfl
  · have ei : idOf s = s := by unfold idOf; rw [show min s.size 16 = s.size by omega, ByteArray.extract_zero_size]
    rw [ei] at p5
    rw [if_neg h, p4, Option.bind_some, p5, Option.bind_some, p6]
    rfl

theorem IdentifyPages (x0 : ByteArray) (x1 : S26) (h0 : x0.size ≤ 9223372036854775807) (h1 : Q26 x1) : ∃ k, headgatelaw26_IdentifyPages.f k x0 x1.f0 x1.f1 = some true := by
  refine ⟨400, ?_⟩
  have hb := bounds_i64 h1.1
  have hj : headgatelaw26_IdentifyPages.j0 400 x0 true x1.f0 x1.f1 = some true := by
    rw [headgatelaw26_IdentifyPages.j0, if_pos rfl, wakes_ok _ (by decide)]
    rfl
  unfold headgatelaw26_IdentifyPages.f
  by_cases c1 : (x0.size : Int) > 5000
  · rw [if_pos c1, hj]
  · rw [if_neg c1]
    by_cases c2 : (x1.f1.size : Int) > 5000
    · rw [decide_eq_true c2, hj]
    · rw [decide_eq_false c2, headgatelaw26_IdentifyPages.j0, if_neg (by decide), Controller_spec _ _ (by decide), Option.bind_some, ref_Controller_spec _ _ (by decide), Option.bind_some, if_pos rfl, Unit_spec _ _ _ (by omega) (by decide), Option.bind_some, ref_Unit_spec _ _ _ (by omega) (by decide), Option.bind_some, if_pos rfl, wakes_ok _ (by decide)]
      rfl

end Go.Proofs.Ytmfbmioooafelaa.Pure
