/- What the messages' functions and the document's answer. -/
import Derived.Test.YtcghbicjhngedaaDoorCrcLib
import Derived.Test.YtcghbicjhngedaaDoorFieldsLib
import Derived.Test.YtcghbicjhngedaaDoorRefFields
import Derived.Test.YtcghbicjhngedaaDoorPx1
import Derived.Test.YtcghbicjhngedaaDoorPx4
import Derived.Test.YtcghbicjhngedaaDoorPx2
namespace Go.Proofs.YtcghbicjhngedaaDoor.Pure
open Go.RowKit Go.Proofs.YtcghbicjhngedaaDoor.P Go.Proofs.YtcghbicjhngedaaDoorW.PrintWords Go.Proofs.YtcghbicjhngedaaDoorW.PrintLast Go.Proofs.YtcghbicjhngedaaDoorW.PrintMore Go.Proofs.YtcghbicjhngedaaDoor.Num
set_option linter.unusedVariables false
set_option linter.unusedSimpArgs false

/-- A text with another one set at a place. -/
def setAt (s : ByteArray) (a : Nat) (p : ByteArray) : ByteArray := (s.extract 0 a ++ p) ++ s.extract (a + p.size) s.size
theorem setAt_size (s p : ByteArray) (a : Nat) (h : a + p.size ≤ s.size) : (setAt s a p).size = s.size := by
  unfold setAt
  rw [ByteArray.size_append, ByteArray.size_append, ByteArray.size_extract, ByteArray.size_extract]
  omega
theorem Set_at (s p : ByteArray) (a : Nat) (hs : s.size ≤ 1000000) (h : a + p.size ≤ s.size) : fields_Set.f s (a : Int) p = some (setAt s a p, true) := by
  unfold fields_Set.f setAt
  have e1 : wrap64 ((s.size : Int) - (p.size : Int)) = (s.size : Int) - p.size := w64 (by omega) (by omega)
  have e2 : wrap64 ((a : Int) + (p.size : Int)) = ((a + p.size : Nat) : Int) := by rw [w64 (by omega) (by omega)]; omega
  rw [e1, e2, if_neg (by omega), if_neg (by omega), if_neg (by omega), if_pos (by omega), if_pos (by omega), if_pos (by rw [ByteArray.size_extract]; omega), if_pos (by omega), if_pos (by omega), if_pos (by rw [ByteArray.size_append, ByteArray.size_extract, ByteArray.size_extract]; omega)]
  simp only [Int.toNat_natCast]
theorem ref_Set_at (s p : ByteArray) (a : Nat) (hs : s.size ≤ 1000000) (h : a + p.size ≤ s.size) : headgateref01_Set.f s (a : Int) p = some (setAt s a p, true) := by
  unfold headgateref01_Set.f setAt
  have e2 : wrap64 ((a : Int) + (p.size : Int)) = ((a + p.size : Nat) : Int) := by rw [w64 (by omega) (by omega)]; omega
  rw [there_spec _ _ _ (by omega), Option.bind_some, decide_eq_true (by omega), if_pos rfl, e2, if_pos (by omega), if_pos (by omega), if_pos (by rw [ByteArray.size_extract]; omega), if_pos (by omega), if_pos (by omega), if_pos (by rw [ByteArray.size_append, ByteArray.size_extract, ByteArray.size_extract]; omega)]
  simp only [Int.toNat_natCast]
theorem ref_Put_at (s p : ByteArray) (a : Nat) (hs : s.size ≤ 1000000) (h : a + p.size ≤ s.size) : headgateref01_Put.f s (a : Int) p = some (setAt s a p) := by
  unfold headgateref01_Put.f
  rw [ref_Set_at s p a hs h]
  rfl

/-- A text filled up to a multiple of four. -/
def pad4 (d : ByteArray) : ByteArray := if d.size % 4 = 0 then d else d ++ strOfNums (List.replicate (4 - d.size % 4) 0)
theorem pad4_size (d : ByteArray) : (pad4 d).size = (d.size + 3) / 4 * 4 := by
  unfold pad4
  split
  · omega
  · rw [ByteArray.size_append, strOfNums_size, List.length_replicate]
    omega
theorem Pad_four (d : ByteArray) (hd : d.size ≤ 1000000) : fields_Pad.f d 4 = some (pad4 d) := by
  unfold fields_Pad.f pad4
  rw [if_neg (by decide), if_neg (by decide), if_neg (by decide)]
  by_cases h : d.size % 4 = 0
  · rw [if_pos (by omega), if_pos h]
  · have e : wrap64 (4 - (d.size : Int) % 4) = ((4 - d.size % 4 : Nat) : Int) := by rw [w64 (by omega) (by omega)]; omega
    rw [if_neg (by omega), if_neg h, e, if_pos (by omega), Int.toNat_natCast, if_pos (by omega), Option.bind_some, if_pos (by rw [strOfNums_size, List.length_replicate]; omega)]

theorem dig_size (s : ByteArray) : (dig s).size = 4 := by
  unfold dig
  rw [strOfNums_size]
  simp [leL_length, beL_length]

/-- May it be a head? -/
def good (h : ByteArray) : Bool := decide (h.size = 48 ∧ bt h 0 < 128 ∧ bt h 4 = 0)
/-- A head that tells the data's length, and its digest. -/
def headOf (h : ByteArray) (n : Nat) (b1 : Bool) : ByteArray :=
  if b1 = true then setAt h 5 (strOfNums (beL n 3)) ++ dig (setAt h 5 (strOfNums (beL n 3))) else setAt h 5 (strOfNums (beL n 3))
/-- Data, filled up, and their digest. -/
def tailOf (d : ByteArray) (b2 : Bool) : ByteArray := if b2 = true ∧ d.size ≠ 0 then pad4 d ++ dig (pad4 d) else pad4 d
/-- What is sent. -/
def putOf (h d : ByteArray) (b1 b2 : Bool) : ByteArray × Int :=
  if good h = true ∧ d.size ≤ 8192 then (headOf h d.size b1 ++ tailOf d b2, 0) else (⟨#[]⟩, 200)

theorem good_spec (h : ByteArray) : ipdu_good.f h = some (good h) := by
  unfold ipdu_good.f good
  by_cases h1 : h.size = 48
  · rw [if_pos (by omega), if_pos (by omega)]
    by_cases h2 : bt h 0 < 128
    · rw [if_pos h2, if_pos (by omega)]
      congr 1
      by_cases h3 : bt h 4 = 0
      · rw [decide_eq_true ⟨h1, h2, h3⟩, h3]; rfl
      · rw [decide_eq_false (fun z => h3 z.2.2)]
        exact beq_eq_false_iff_ne.mpr h3
    · rw [if_neg h2, decide_eq_false (fun z => h2 z.2.1)]
  · rw [if_neg (by omega), decide_eq_false (fun z => h1 z.1)]
theorem toList_nil (d : ByteArray) : d.toList = ([] : List UInt8) ↔ d.size = 0 := by
  rw [ByteArray.toList_eq]
  constructor
  · intro h
    have := congrArg List.length h
    simpa using this
  · intro h
    apply List.eq_nil_of_length_eq_zero
    simpa using h
theorem append_nil' (a b : ByteArray) (h : b.size = 0) : a ++ b = a := by
  apply ByteArray.ext
  have : b.data = #[] := Array.eq_empty_of_size_eq_zero h
  simp [this]
theorem Put_spec (k : Nat) (h d : ByteArray) (b1 b2 : Bool) (hh : h.size ≤ 20000) (hd : d.size ≤ 20000) (hk : 20 ≤ k) : ipdu_Put.f k h d b1 b2 = some (putOf h d b1 b2) := by
  obtain ⟨k, rfl⟩ := Nat.exists_eq_add_of_le' (show 2 ≤ k by omega)
  unfold ipdu_Put.f putOf
  rw [good_spec, Option.bind_some]
  cases hg : good h with
  | false => rw [if_neg (by decide), ipdu_Put.j0, if_pos rfl, if_neg (by simp)]
  | true =>
    have h48 : h.size = 48 := (of_decide_eq_true hg).1
    rw [if_pos rfl]
    by_cases hs : (d.size : Int) > 8192
    · rw [decide_eq_true hs, ipdu_Put.j0, if_pos rfl, if_neg (by omega)]
    · have e1 : IntKind.u64.wrap (d.size : Int) = d.size := u64_id (by omega) (by omega)
      have z3 : (strOfNums (beL (d.size : Int) 3)).size = 3 := by rw [strOfNums_size, beL_length]
      have e2 : fields_PutBig.f (k + 1) (d.size : Int) 3 = some (strOfNums (beL (d.size : Int) 3)) := by rw [PutBig_spec _ _ _ (by omega), if_pos (by decide)]; rfl
      have e3 : fields_Set.f h 5 (strOfNums (beL (d.size : Int) 3)) = some (setAt h 5 (strOfNums (beL (d.size : Int) 3)), true) := Set_at h _ 5 (by omega) (by omega)
      have z4 := setAt_size h (strOfNums (beL (d.size : Int) 3)) 5 (by omega)
      have hp := pad4_size d
      have e4 : ∀ x : ByteArray, x.size ≤ 100 → ipdu_Put.j1 (k + 1) b2 x h d = some (x ++ tailOf d b2, 0) := fun x hx => by
        unfold tailOf
        rw [ipdu_Put.j1, Pad_four d (by omega), Option.bind_some, if_pos (by omega)]
        cases b2 with
        | false => rw [if_neg (by decide), if_neg (by simp)]
        | true =>
          rw [if_pos rfl]
          by_cases hz : d.size = 0
          · rw [if_pos ((toList_nil _).mpr (by omega)), if_neg (by simp [hz])]
          · rw [if_neg (fun hn => hz (by have := (toList_nil _).mp hn; omega)), Digest_spec _ (by omega) _ (by omega), Option.bind_some, if_pos (by rw [ByteArray.size_append, dig_size]; omega), if_pos ⟨rfl, hz⟩, ByteArray.append_assoc]
      rw [decide_eq_false hs, ipdu_Put.j0, if_neg (by decide), e1, e2, Option.bind_some, e3, Option.bind_some, if_pos (show true = true ∧ d.size ≤ 8192 from ⟨rfl, by omega⟩)]
      dsimp only
      unfold headOf
      cases b1 with
      | false => rw [if_neg (by decide), e4 _ (by omega), if_neg (by decide)]
      | true =>
        rw [if_pos rfl, Digest_spec _ (by omega) _ (by omega), Option.bind_some, if_pos (by rw [dig_size]; omega), e4 _ (by rw [ByteArray.size_append, dig_size]; omega), if_pos rfl]
end Go.Proofs.YtcghbicjhngedaaDoor.Pure
