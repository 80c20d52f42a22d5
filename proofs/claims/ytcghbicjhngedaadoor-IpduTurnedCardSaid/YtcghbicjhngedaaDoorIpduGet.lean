/- What the program's reading of a message answers. -/
import Derived.Test.YtcghbicjhngedaaDoorIpduLib
import Derived.Test.YtcghbicjhngedaaDoorPx3
namespace Go.Proofs.YtcghbicjhngedaaDoor.Pure
open Go.RowKit Go.Proofs.YtcghbicjhngedaaDoor.P Go.Proofs.YtcghbicjhngedaaDoorW.PrintWords Go.Proofs.YtcghbicjhngedaaDoorW.PrintLast Go.Proofs.YtcghbicjhngedaaDoorW.PrintMore Go.Proofs.YtcghbicjhngedaaDoor.Num
set_option linter.unusedVariables false
set_option linter.unusedSimpArgs false

/-- A message whose data begin and end where it is told, and that ends where it is told. -/
def bodyOf (s : ByteArray) (at' n e z : Nat) : ByteArray × ByteArray × Int × Int :=
  if s.size < z then (⟨#[]⟩, ⟨#[]⟩, 0, 0)
  else if e < z ∧ ¬ (s.extract e z).toList = (dig (s.extract at' e)).toList then (s.extract 0 48, s.extract at' (at' + n), z, 51)
  else (s.extract 0 48, s.extract at' (at' + n), z, 0)
/-- The message with which bytes begin. -/
def getOf (s : ByteArray) (b1 b2 : Bool) : ByteArray × ByteArray × Int × Int :=
  if s.size < 48 then (⟨#[]⟩, ⟨#[]⟩, 0, 0)
  else if b1 = true ∧ 52 ≤ s.size ∧ ¬ (s.extract 48 52).toList = (dig (s.extract 0 48)).toList then (⟨#[]⟩, ⟨#[]⟩, 0, 201)
  else if good (s.extract 0 48) = true ∧ be s 5 3 ≤ 8192 then
    bodyOf s (if b1 = true then 52 else 48) (be s 5 3).toNat ((if b1 = true then 52 else 48) + ((be s 5 3).toNat + 3) / 4 * 4)
      ((if b1 = true then 52 else 48) + ((be s 5 3).toNat + 3) / 4 * 4 + (if b2 = true ∧ 0 < (be s 5 3).toNat then 4 else 0))
  else (⟨#[]⟩, ⟨#[]⟩, 0, 200)

theorem Get_j3 (k : Nat) (s : ByteArray) (at' n e z : Nat) (hs : s.size ≤ 100000) (h48 : 48 ≤ s.size) (hn : at' + n ≤ e) (he : e ≤ z) (hz' : z ≤ 100000) (hk : 20 ≤ k) : ipdu_Get.j3 k s (z : Int) (at' : Int) (n : Int) (e : Int) = some (bodyOf s at' n e z) := by
  obtain ⟨k, rfl⟩ := Nat.exists_eq_add_of_le' (show 1 ≤ k by omega)
  have e1 : wrap64 ((at' : Int) + n) = ((at' + n : Nat) : Int) := by rw [w64 (by omega) (by omega)]; omega
  unfold bodyOf
  rw [ipdu_Get.j3]
  by_cases hz : s.size < z
  · rw [if_pos (by omega), if_pos hz]
  · rw [if_neg (by omega), if_neg hz, if_pos (by decide), if_pos (by omega), if_pos (by omega), e1, if_pos (by omega), if_pos (by omega)]
    simp only [Int.toNat_natCast]
    by_cases he2 : e < z
    · rw [if_pos (show (z : Int) > e by omega), if_pos (by omega), if_pos (by omega), if_pos (by omega), if_pos (by omega), if_pos (by omega), Right_spec _ _ (by rw [ByteArray.size_extract]; omega) _ (by omega), Option.bind_some]
      by_cases hd : (s.extract e z).toList = (dig (s.extract at' e)).toList
      · rw [if_pos (by rw [hd]; simp), if_neg (fun x => x.2 hd)]
      · rw [if_neg (by simpa using hd), if_pos ⟨he2, hd⟩]
    · rw [if_neg (show ¬ (z : Int) > e by omega), if_neg (fun x => he2 x.1)]

theorem Get_j1 (k : Nat) (s : ByteArray) (b2 : Bool) (at' n : Nat) (hs : s.size ≤ 100000) (h48 : 48 ≤ s.size) (ha : at' ≤ 52) (hn : n ≤ 8192) (hk : 30 ≤ k) :
    ipdu_Get.j1 k s b2 (at' : Int) (n : Int) false = some (bodyOf s at' n (at' + (n + 3) / 4 * 4) (at' + (n + 3) / 4 * 4 + (if b2 = true ∧ 0 < n then 4 else 0))) := by
  obtain ⟨k, rfl⟩ := Nat.exists_eq_add_of_le' (show 2 ≤ k by omega)
  have w0 : wrap64 (n : Int) = n := w64 (by omega) (by omega)
  have eE : wrap64 ((at' : Int) + (wrap64 ((wrap64 (Int.tdiv (wrap64 ((wrap64 ((wrap64 (n : Int)) + 4)) - 1)) 4)) * 4))) = ((at' + (n + 3) / 4 * 4 : Nat) : Int) := by
    rw [w0, w64 (n := (n : Int) + 4) (by omega) (by omega), w64 (n := (n : Int) + 4 - 1) (by omega) (by omega), Int.tdiv_eq_ediv_of_nonneg (by omega), w64 (n := ((n : Int) + 4 - 1) / 4) (by omega) (by omega), w64 (n := ((n : Int) + 4 - 1) / 4 * 4) (by omega) (by omega), w64 (by omega) (by omega)]
    omega
  have e4 : wrap64 (((at' + (n + 3) / 4 * 4 : Nat) : Int) + 4) = ((at' + (n + 3) / 4 * 4 + 4 : Nat) : Int) := by rw [w64 (by omega) (by omega)]; omega
  rw [ipdu_Get.j1, if_neg (by decide), eE, w0]
  cases b2 with
  | false =>
    rw [if_neg (by decide), ipdu_Get.j2, if_neg (by decide), Get_j3 k s at' n _ _ hs h48 (by omega) (by omega) (by omega) (by omega), if_neg (by simp)]
    rfl
  | true =>
    rw [if_pos rfl]
    by_cases h0 : 0 < n
    · rw [decide_eq_true (show (n : Int) > 0 by omega), ipdu_Get.j2, if_pos rfl, e4, Get_j3 k s at' n _ _ hs h48 (by omega) (by omega) (by omega) (by omega), if_pos ⟨rfl, h0⟩]
    · rw [decide_eq_false (show ¬ (n : Int) > 0 by omega), ipdu_Get.j2, if_neg (by decide), Get_j3 k s at' n _ _ hs h48 (by omega) (by omega) (by omega) (by omega), if_neg (fun x => h0 x.2)]
      rfl

theorem Get_j0 (k : Nat) (s : ByteArray) (b2 : Bool) (at' : Nat) (hs : s.size ≤ 100000) (h48 : 48 ≤ s.size) (ha : at' ≤ 52) (hk : 40 ≤ k) :
    ipdu_Get.j0 k s b2 (at' : Int) = some (if good (s.extract 0 48) = true ∧ be s 5 3 ≤ 8192 then
    bodyOf s at' (be s 5 3).toNat (at' + ((be s 5 3).toNat + 3) / 4 * 4) (at' + ((be s 5 3).toNat + 3) / 4 * 4 + (if b2 = true ∧ 0 < (be s 5 3).toNat then 4 else 0)) else (⟨#[]⟩, ⟨#[]⟩, 0, 200)) := by
  obtain ⟨k, rfl⟩ := Nat.exists_eq_add_of_le' (show 2 ≤ k by omega)
  have hb := be_bounds s 5 3
  have ht : there s 5 3 = true := by unfold there; rw [decide_eq_true_eq]; omega
  have hB : fields_Big.f (k + 1) s 5 3 = some (be s 5 3, true) := by rw [Big_spec _ _ _ (by omega) _ (by omega), if_pos ht]; rfl
  rw [ipdu_Get.j0, hB, Option.bind_some, if_pos (by decide), if_pos (by omega), good_spec, Option.bind_some]
  cases hg : good (s.extract 0 48) with
  | false => rw [if_neg (by decide), ipdu_Get.j1, if_pos rfl, if_neg (by simp)]
  | true =>
    rw [if_pos rfl]
    dsimp only
    obtain ⟨n, hn⟩ : ∃ n : Nat, be s 5 3 = n := ⟨(be s 5 3).toNat, by omega⟩
    rw [hn]
    by_cases h8 : (n : Int) > 8192
    · rw [decide_eq_true h8, ipdu_Get.j1, if_pos rfl, if_neg (by omega)]
    · rw [decide_eq_false h8, Get_j1 (k + 1) s b2 at' n hs h48 ha (by omega) (by omega), if_pos (show true = true ∧ (n : Int) ≤ 8192 from ⟨rfl, by omega⟩), Int.toNat_natCast]

theorem Get_spec (k : Nat) (s : ByteArray) (b1 b2 : Bool) (hs : s.size ≤ 100000) (hk : 40 ≤ k) : ipdu_Get.f k s b1 b2 = some (getOf s b1 b2) := by
  unfold ipdu_Get.f getOf
  by_cases h48 : s.size < 48
  · rw [if_pos (by omega), if_pos h48]
  · rw [if_neg (by omega), if_neg h48]
    have j48 : ipdu_Get.j0 k s b2 48 = _ := Get_j0 k s b2 48 hs (by omega) (by omega) hk
    have j52 : ipdu_Get.j0 k s b2 52 = _ := Get_j0 k s b2 52 hs (by omega) (by omega) hk
    cases b1 with
    | false => rw [if_neg (show ¬ false = true by decide), if_neg (show ¬ (false = true ∧ 52 ≤ s.size ∧ ¬ (s.extract 48 52).toList = (dig (s.extract 0 48)).toList) from fun x => by cases x.1), j48]; rfl
    | true =>
      rw [if_pos rfl]
      by_cases h52 : 52 ≤ s.size
      · rw [if_pos (by omega), if_pos (by decide), if_pos (by omega), if_pos (by decide), if_pos (by omega), Right_spec _ _ (by rw [ByteArray.size_extract]; omega) _ (by omega), Option.bind_some]
        by_cases hd : (s.extract 48 52).toList = (dig (s.extract 0 48)).toList
        · rw [if_neg (show ¬ (true = true ∧ 52 ≤ s.size ∧ ¬ (s.extract 48 52).toList = (dig (s.extract 0 48)).toList) from fun x => x.2.2 hd), if_pos (show ((s.extract 48 52).toList == (dig (s.extract 0 48)).toList) = true by rw [hd]; simp), j52]; rfl
        · rw [if_neg (by simpa using hd), if_pos ⟨rfl, h52, hd⟩]
      · rw [if_neg (show ¬ (true = true ∧ 52 ≤ s.size ∧ ¬ (s.extract 48 52).toList = (dig (s.extract 0 48)).toList) from fun x => h52 x.2.1), if_neg (show ¬ (s.size : Int) ≥ 52 by omega), j52]; rfl
end Go.Proofs.YtcghbicjhngedaaDoor.Pure
