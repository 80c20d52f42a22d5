/- What image.Encode and the document's own one make of a table. -/
import Derived.Test.YtmpicpenbhdbhaaDoorImageTab
import Derived.Test.YtmpicpenbhdbhaaDoorCrcLib
import Derived.Test.YtmpicpenbhdbhaaDoorNumBack
import Derived.Test.YtmpicpenbhdbhaaDoorPx3
import Derived.Test.YtmpicpenbhdbhaaDoorPx8
namespace Go.Proofs.YtmpicpenbhdbhaaDoor.Pure
open Go.RowKit Go.Proofs.YtmpicpenbhdbhaaDoor.P Go.Proofs.YtmpicpenbhdbhaaDoorW.PrintWords Go.Proofs.YtmpicpenbhdbhaaDoorW.PrintLast Go.Proofs.YtmpicpenbhdbhaaDoorW.PrintMore Go.Proofs.YtmpicpenbhdbhaaDoor.Num
set_option linter.unusedVariables false
set_option linter.unusedSimpArgs false

def magic : ByteArray := ⟨#[72, 71, 82, 84]⟩
/-- One registration's bytes, and all of them. -/
def regW (x : S48) : ByteArray := (strOfNums (beL x.f1 8) ++ strOfNums [(x.f0.size : Int) % 256]) ++ x.f0
def regsW : List S48 → ByteArray
  | [] => ⟨#[]⟩
  | x :: l => regW x ++ regsW l
def headW (typ pos on n gen : Int) : ByteArray := (magic ++ strOfNums (beL gen 4)) ++ strOfNums [typ % 256, pos % 256, on, n % 256]
def bodyW (l : List S48) (typ pos on gen : Int) : ByteArray := headW typ pos on (l.length : Int) gen ++ regsW l
def imgW (l : List S48) (typ pos on gen : Int) : ByteArray := bodyW l typ pos on gen ++ dig (bodyW l typ pos on gen)
theorem regW_size (x : S48) : (regW x).size = 9 + x.f0.size := by
  unfold regW
  rw [ByteArray.size_append, ByteArray.size_append, strOfNums_size, strOfNums_size, beL_length]
  rfl
theorem headW_size (typ pos on n gen : Int) : (headW typ pos on n gen).size = 12 := by
  unfold headW
  rw [ByteArray.size_append, ByteArray.size_append, strOfNums_size, strOfNums_size, beL_length]
  rfl
theorem dig_size (s : ByteArray) : (dig s).size = 4 := by
  unfold dig
  rw [strOfNums_size, leL_length]
theorem regsW_size (l : List S48) (h : ∀ x ∈ l, x.f0.size ≤ 64) : (regsW l).size ≤ 73 * l.length := by
  induction l with
  | nil => exact Nat.zero_le _
  | cons x l ih =>
    show (regW x ++ regsW l).size ≤ 73 * (l.length + 1)
    have h1 := h x List.mem_cons_self
    have h2 := ih (fun y hy => h y (List.mem_cons_of_mem _ hy))
    rw [ByteArray.size_append, regW_size]
    omega
/-- The first place of a host, counted from 1; 0: nowhere. -/
def pos (l : List S48) (host : ByteArray) : Nat := match l.findIdx? (fun x => x.f0.toList == host.toList) with | some i => i + 1 | none => 0
theorem pos_at (l : List S48) (host : ByteArray) : 1 + at_ l host = (pos l host : Int) := by
  unfold at_ pos
  cases l.findIdx? (fun x => x.f0.toList == host.toList) with
  | none => rfl
  | some i => show 1 + (i : Int) = ((i + 1 : Nat) : Int); omega
theorem pos_le (l : List S48) (host : ByteArray) : pos l host ≤ l.length := by
  unfold pos
  cases h : l.findIdx? (fun x => x.f0.toList == host.toList) with
  | none => exact Nat.zero_le _
  | some i => have := (List.findIdx?_eq_some_iff_getElem.mp h).1; exact this
theorem pos_hit {l : List S48} {host : ByteArray} {i : Nat} (h : pos l host = i + 1) : ∃ hi : i < l.length, (l[i]).f0 = host := by
  unfold pos at h
  cases hf : l.findIdx? (fun x => x.f0.toList == host.toList) with
  | none => rw [hf] at h; simp at h
  | some j =>
    rw [hf] at h
    simp only [Nat.add_right_cancel_iff] at h
    subst h
    obtain ⟨hi, h1, _⟩ := List.findIdx?_eq_some_iff_getElem.mp hf
    exact ⟨hi, (toList_inj' _ _).mp (by simpa using h1)⟩
theorem pos_none {l : List S48} {host : ByteArray} (h : ∀ x ∈ l, x.f0 ≠ host) : pos l host = 0 := by
  unfold pos
  have : l.findIdx? (fun x => x.f0.toList == host.toList) = none := by
    rw [List.findIdx?_eq_none_iff]
    intro x hx
    have := h x hx
    simp only [beq_eq_false_iff_ne, ne_eq]
    exact fun e => this ((toList_inj' _ _).mp e)
  rw [this]
/-- Where all hosts are others, the place is the only one. -/
theorem pos_of {l : List S48} {host : ByteArray} {i : Nat} (hok : okAll_ l) (hi : i < l.length) (h : (l[i]).f0 = host) : pos l host = i + 1 := by
  unfold pos
  have : l.findIdx? (fun x => x.f0.toList == host.toList) = some i := by
    rw [List.findIdx?_eq_some_iff_getElem]
    refine ⟨hi, by simp [h], fun j hj => ?_⟩
    have := ((ok_at l i hi).mp (hok i hi)).1 j hj
    rw [h] at this
    simp only [Bool.not_eq_true, beq_eq_false_iff_ne, ne_eq]
    exact fun e => this ((toList_inj' _ _).mp e)
  rw [this]
def small (l : List S48) : Prop := ∀ x ∈ l, x.f0.size ≤ 64 ∧ 1 ≤ x.f0.size
theorem ok_small {l : List S48} (h : okAll_ l) : small l := by
  intro x hx
  obtain ⟨i, hi, rfl⟩ := List.getElem_of_mem hx
  have := name_size ((ok_at l i hi).mp (h i hi)).2.1
  exact ⟨this.2, this.1⟩
theorem add_sizes (acc y : ByteArray) (n : Nat) (h : acc.size + y.size ≤ n) : (acc ++ y).size ≤ n := by rw [ByteArray.size_append]; exact h
theorem enc_l0 (l : List S48) (hl : l.length ≤ 16) (hs : small l) : ∀ (n k i : Nat) (acc : ByteArray), i + n = l.length → n + 12 ≤ k → acc.size + 73 * n ≤ 5000 →
    image_Encode.l0 k acc l (l.length : Int) (i : Int) = some ((acc ++ regsW (l.drop i)) ++ dig (acc ++ regsW (l.drop i)), 0)
  | 0, k + 1, i, acc, hi, hk, ha => by
    rw [image_Encode.l0, if_neg (by omega), List.drop_eq_nil_of_le (by omega)]
    have e : acc ++ regsW [] = acc := append_none _ _ rfl
    rw [e, Digest_spec acc (by omega) k (by omega), Option.bind_some, dig_size, if_pos (by omega)]
  | n + 1, k + 1, i, acc, hi, hk, ha => by
    have hlt : i < l.length := by omega
    have hx := (hs l[i] (List.getElem_mem hlt)).1
    have e1 : (strOfNums (beL l[i].f1 8)).size = 8 := by rw [strOfNums_size, beL_length]
    have e2 : (strOfNums [(l[i].f0.size : Int) % 256]).size = 1 := by rw [strOfNums_size]; rfl
    have e3 : (strOfNums (beL l[i].f1 8) ++ strOfNums [(l[i].f0.size : Int) % 256]).size = 9 := by rw [ByteArray.size_append, e1, e2]
    have e4 : ((strOfNums (beL l[i].f1 8) ++ strOfNums [(l[i].f0.size : Int) % 256]) ++ l[i].f0).size = 9 + l[i].f0.size := by rw [ByteArray.size_append, e3]
    rw [image_Encode.l0, if_pos (by omega), if_pos (by omega), if_pos (by omega), rd_at l i hlt, PutBig_spec _ _ k (by omega), Option.bind_some, if_pos (by decide), Option.bind_some]
    rw [show ((8 : Int)).toNat = 8 from rfl, if_pos (by rw [e1, e2]; omega), if_pos (by rw [e3]; omega), if_pos (by rw [e4]; omega), w64 (by omega) (by omega)]
    have h2 := enc_l0 l hl hs n k (i + 1) (acc ++ regW l[i]) (by omega) (by omega) (by rw [ByteArray.size_append, regW_size]; omega)
    rw [List.drop_eq_getElem_cons hlt, show acc ++ regsW (l[i] :: l.drop (i + 1)) = (acc ++ regW l[i]) ++ regsW (l.drop (i + 1)) from ByteArray.append_assoc.symm]
    exact h2
theorem ref_enc_l1 (l : List S48) (typ : Int) (host : ByteArray) (gen : Int) (apt : Bool) (hl : l.length ≤ 16) (hs : small l) (hk8 : ∀ x ∈ l, 0 ≤ x.f1 ∧ x.f1 < 18446744073709551616) : ∀ (n k i : Nat) (acc : ByteArray), i + n = l.length → n + 5100 ≤ k → acc.size + 73 * n ≤ 5000 →
    headgateref12_Encode.l1 k acc (i : Int) l typ host gen apt = some ((acc ++ regsW (l.drop i)) ++ dig (acc ++ regsW (l.drop i)), 0)
  | 0, k + 1, i, acc, hi, hk, ha => by
    rw [headgateref12_Encode.l1, if_neg (by omega), List.drop_eq_nil_of_le (by omega)]
    have e : acc ++ regsW [] = acc := append_none _ _ rfl
    rw [e, ref_Digest_spec acc (by omega) k (by omega), Option.bind_some, dig_size, if_pos (by omega)]
  | n + 1, k + 1, i, acc, hi, hk, ha => by
    have hlt : i < l.length := by omega
    have hx := (hs l[i] (List.getElem_mem hlt)).1
    have hy := hk8 l[i] (List.getElem_mem hlt)
    have e1 : (strOfNums (beL l[i].f1 8)).size = 8 := by rw [strOfNums_size, beL_length]
    have e2 : (strOfNums [(l[i].f0.size : Int) % 256]).size = 1 := by rw [strOfNums_size]; rfl
    have e3 : (strOfNums (beL l[i].f1 8) ++ strOfNums [(l[i].f0.size : Int) % 256]).size = 9 := by rw [ByteArray.size_append, e1, e2]
    have e4 : ((strOfNums (beL l[i].f1 8) ++ strOfNums [(l[i].f0.size : Int) % 256]) ++ l[i].f0).size = 9 + l[i].f0.size := by rw [ByteArray.size_append, e3]
    rw [headgateref12_Encode.l1, if_pos (by omega), if_pos (by omega), rd_at l i hlt, ref_PutBig_spec _ _ hy.1 hy.2 k (by omega), Option.bind_some, if_pos (by decide), Option.bind_some]
    rw [show ((8 : Int)).toNat = 8 from rfl, if_pos (by rw [e1, e2]; omega), if_pos (by rw [e3]; omega), if_pos (by rw [e4]; omega), w64 (by omega) (by omega)]
    have h2 := ref_enc_l1 l typ host gen apt hl hs hk8 n k (i + 1) (acc ++ regW l[i]) (by omega) (by omega) (by rw [ByteArray.size_append, regW_size]; omega)
    rw [List.drop_eq_getElem_cons hlt, show acc ++ regsW (l[i] :: l.drop (i + 1)) = (acc ++ regW l[i]) ++ regsW (l.drop (i + 1)) from ByteArray.append_assoc.symm]
    exact h2
/-- The image of a table. -/
def encT (l : List S48) (typ : Int) (host : ByteArray) (gen : Int) (apt : Bool) : ByteArray := imgW l typ (pos l host : Int) (if apt = true then 1 else 0) gen
/-- What a table's numbers may be. -/
def wideT (l : List S48) (gen : Int) : Prop := 0 ≤ gen ∧ gen < 4294967296 ∧ ∀ x ∈ l, 0 ≤ x.f1 ∧ x.f1 < 18446744073709551616
theorem enc_j0 (l : List S48) (typ : Int) (host : ByteArray) (gen : Int) (apt : Bool) (p on : Int) (hl : l.length ≤ 16) (hs : small l) (hg : 0 ≤ gen ∧ gen < 4294967296) (k : Nat) (hk : 40 ≤ k) :
    image_Encode.j0 k p on l typ host gen apt = some (imgW l typ p on gen, 0) := by
  obtain ⟨k, rfl⟩ : ∃ q, k = q + 1 := ⟨k - 1, by omega⟩
  have e1 : (strOfNums (beL gen 4)).size = 4 := by rw [strOfNums_size, beL_length]
  have e2 : (strOfNums [typ % 256, p % 256, on, (l.length : Int) % 256]).size = 4 := by rw [strOfNums_size]; rfl
  have e3 : ((⟨#[72, 71, 82, 84]⟩ : ByteArray) ++ strOfNums (beL gen 4)).size = 8 := by rw [ByteArray.size_append, e1]; rfl
  have hP : fields_PutBig.f k gen 4 = some (strOfNums (beL gen 4)) := by rw [PutBig_spec _ _ k (by omega)]; rfl
  rw [image_Encode.j0, u64_id (by omega) (by omega), hP, Option.bind_some, if_pos (by rw [e1]; omega), Option.bind_some, if_pos (by rw [e2, e3]; omega)]
  have h := enc_l0 l hl hs l.length k 0 (headW typ p on (l.length : Int) gen) (by omega) (by omega) (by rw [headW_size]; omega)
  rw [List.drop_zero] at h
  exact h
theorem Encode_spec (l : List S48) (typ : Int) (host : ByteArray) (gen : Int) (apt : Bool) (hh : host.size ≤ 5000) (hl : ∀ x ∈ l, x.f0.size ≤ 5000) (hw : wideT l gen) (k : Nat) (hk : 40 ≤ k) :
    image_Encode.f k l typ host gen apt = some (if goodB l typ host = true then (encT l typ host gen apt, 0) else (⟨#[]⟩, 1)) := by
  unfold image_Encode.f
  rw [Good_spec l typ host gen apt hh hl, Option.bind_some]
  by_cases hg : goodB l typ host = true
  · rw [if_pos hg, if_pos hg]
    obtain ⟨h1, h2, h3⟩ := (good_iff l typ host).mp hg
    have hp := pos_le l host
    show (if apt = true then image_Encode.j0 k (wrap64 (1 + at_ l host)) 1 l typ host gen apt else image_Encode.j0 k (wrap64 (1 + at_ l host)) 0 l typ host gen apt) = _
    rw [pos_at, w64 (by omega) (by omega), enc_j0 l typ host gen apt _ 1 h1 (ok_small h2) ⟨hw.1, hw.2.1⟩ k hk, enc_j0 l typ host gen apt _ 0 h1 (ok_small h2) ⟨hw.1, hw.2.1⟩ k hk]
    unfold encT
    cases apt <;> rfl
  · rw [if_neg hg, if_neg hg]
theorem ref_enc_j1 (l : List S48) (typ : Int) (host : ByteArray) (gen : Int) (apt : Bool) (p on : Int) (hl : l.length ≤ 16) (hs : small l) (hw : wideT l gen) (k : Nat) (hk : 5130 ≤ k) :
    headgateref12_Encode.j1 k p on l typ host gen apt = some (imgW l typ p on gen, 0) := by
  obtain ⟨k, rfl⟩ : ∃ q, k = q + 1 := ⟨k - 1, by omega⟩
  have hg := hw.1
  have hg2 := hw.2.1
  have e1 : (strOfNums (beL gen 4)).size = 4 := by rw [strOfNums_size, beL_length]
  have e2 : (strOfNums [typ % 256, p % 256, on, (l.length : Int) % 256]).size = 4 := by rw [strOfNums_size]; rfl
  have e3 : ((⟨#[72, 71, 82, 84]⟩ : ByteArray) ++ strOfNums (beL gen 4)).size = 8 := by rw [ByteArray.size_append, e1]; rfl
  have hP : headgateref01_PutBig.f k gen 4 = some (strOfNums (beL gen 4)) := by rw [ref_PutBig_spec _ _ (by omega) (by omega) k (by omega)]; rfl
  rw [headgateref12_Encode.j1, u64_id (by omega) (by omega), hP, Option.bind_some, if_pos (by rw [e1]; omega), Option.bind_some, if_pos (by rw [e2, e3]; omega)]
  have h := ref_enc_l1 l typ host gen apt hl hs hw.2.2 l.length k 0 (headW typ p on (l.length : Int) gen) (by omega) (by omega) (by rw [headW_size]; omega)
  rw [List.drop_zero] at h
  exact h
end Go.Proofs.YtmpicpenbhdbhaaDoor.Pure
