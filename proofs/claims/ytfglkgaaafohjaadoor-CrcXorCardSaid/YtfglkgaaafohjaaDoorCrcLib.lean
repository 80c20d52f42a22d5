/- What the functions of the package crc, and the document's, answer. -/
import Derived.Test.YtfglkgaaafohjaaDoorPx1
import Derived.Test.YtfglkgaaafohjaaDoorCrc
import Derived.Test.YtfglkgaaafohjaaDoorRefFields
namespace Go.Proofs.YtfglkgaaafohjaaDoor.Pure
open Go.RowKit Go.Proofs.YtfglkgaaafohjaaDoor.P Go.Proofs.YtfglkgaaafohjaaDoorW.PrintWords Go.Proofs.YtfglkgaaafohjaaDoorW.PrintLast Go.Proofs.YtfglkgaaafohjaaDoorW.PrintMore Go.Proofs.YtfglkgaaafohjaaDoor.Num
set_option linter.unusedVariables false
set_option linter.unusedSimpArgs false

theorem More_spec (w : Nat) (s : ByteArray) (hw : w < 4294967296) (hs : s.size ≤ 9223372036854775807) : crc_More.f (w : Int) s = some ((Crc.more w s.data.toList : Nat) : Int) := by
  unfold crc_More.f
  rw [if_pos ⟨hs, by omega, by omega⟩]
  have h1 : Go.bits .xor .u32 4294967295 (w : Int) = ((4294967295 ^^^ w : Nat) : Int) := Crc.bits_xor32 (a := 4294967295) (by decide) hw
  have h2 := Crc.xor_lt (a := 4294967295) (by decide) hw
  rw [h1, Crc.fold_nat _ h2]
  have h3 := Crc.bits_xor32 (a := 4294967295) (b := Crc.g (4294967295 ^^^ w) s.data.toList) (by decide) (Crc.g_lt _ h2)
  exact congrArg some h3
theorem Sum_spec (s : ByteArray) (hs : s.size ≤ 9223372036854775807) : crc_Sum.f s = some ((Crc.more 0 s.data.toList : Nat) : Int) := by
  unfold crc_Sum.f
  have := More_spec 0 s (by decide) hs
  rw [show ((0 : Nat) : Int) = 0 from rfl] at this
  rw [this]
  rfl

theorem bt_list (s : ByteArray) (i : Nat) (h : i < s.size) : bt s (i : Int) = ((s.data.toList[i]'(by simpa using h)).toNat : Int) := by
  unfold bt
  rw [dif_pos (show ((i : Int)).toNat < s.size by simpa using h)]
  rfl
/-- The digest. -/
def dig (s : ByteArray) : ByteArray := strOfNums (leL ((Crc.more 0 s.data.toList : Nat) : Int) 4)
theorem sum_u64 (s : ByteArray) : IntKind.u64.wrap ((Crc.more 0 s.data.toList : Nat) : Int) = ((Crc.more 0 s.data.toList : Nat) : Int) := by
  have := Crc.more_lt (w := 0) (by decide) s.data.toList
  exact u64_id (by omega) (by omega)
theorem Digest_spec (s : ByteArray) (hs : s.size ≤ 9223372036854775807) (k : Nat) (hk : 10 < k) : crc_Digest.f k s = some (dig s) := by
  unfold crc_Digest.f
  rw [Sum_spec s hs]
  simp only [Option.bind_some, sum_u64]
  rw [PutLittle_spec _ _ k hk]
  rfl
theorem Right_spec (s d : ByteArray) (hs : s.size ≤ 9223372036854775807) (k : Nat) (hk : 10 < k) : crc_Right.f k s d = some (d.toList == (dig s).toList) := by
  unfold crc_Right.f
  rw [Digest_spec s hs k hk]
  rfl
end Go.Proofs.YtfglkgaaafohjaaDoor.Pure
