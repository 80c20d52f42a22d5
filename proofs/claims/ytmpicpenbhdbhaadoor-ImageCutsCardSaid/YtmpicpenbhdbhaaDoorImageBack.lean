/- What image.Decode reads of an image, whatever follows. -/
import Derived.Test.YtmpicpenbhdbhaaDoorImageDec
namespace Go.Proofs.YtmpicpenbhdbhaaDoor.Pure
open Go.RowKit Go.Proofs.YtmpicpenbhdbhaaDoor.P Go.Proofs.YtmpicpenbhdbhaaDoorW.PrintWords Go.Proofs.YtmpicpenbhdbhaaDoorW.PrintLast Go.Proofs.YtmpicpenbhdbhaaDoorW.PrintMore Go.Proofs.YtmpicpenbhdbhaaDoor.Num
set_option linter.unusedVariables false
set_option linter.unusedSimpArgs false

theorem tk_app (a b : ByteArray) (n : Int) (h : n = (a.size : Int)) : tkS (a ++ b) false n = a ∧ tkR (a ++ b) false n = b ∧ tkB (a ++ b) false n = false := by
  subst h
  have hB : tkB (a ++ b) false (a.size : Int) = false := by
    unfold tkB
    rw [Bool.false_or, decide_eq_false]
    rw [ByteArray.size_append]
    omega
  unfold tkS tkR
  rw [hB, if_neg (by decide), if_neg (by decide), Int.toNat_natCast]
  refine ⟨?_, ?_, rfl⟩
  · rw [cut_left _ _ _ _ (Nat.le_refl _), ByteArray.extract_zero_size]
  · rw [cut_right _ _ _ _ (Nat.le_refl _), Nat.sub_self, ByteArray.size_append, Nat.add_sub_cancel_left, ByteArray.extract_zero_size]
theorem tkS_app (a b : ByteArray) (n : Int) (h : n = (a.size : Int)) : tkS (a ++ b) false n = a := (tk_app a b n h).1
theorem tkR_app (a b : ByteArray) (n : Int) (h : n = (a.size : Int)) : tkR (a ++ b) false n = b := (tk_app a b n h).2.1
theorem tkB_app (a b : ByteArray) (n : Int) (h : n = (a.size : Int)) : tkB (a ++ b) false n = false := (tk_app a b n h).2.2
theorem beL_size (v : Int) (n : Nat) : ((strOfNums (beL v n)).size : Int) = n := by rw [strOfNums_size, beL_length]
theorem one_beL (x : Int) : strOfNums [x % 256] = strOfNums (beL x 1) := by
  unfold beL
  simp [p_zero, List.range_succ]
theorem dnum_app (k : Nat) (hk : 10 < k) (v : Int) (n : Nat) (h1 : 1 ≤ n) (h8 : n ≤ 8) (h0 : 0 ≤ v) (hv : v < p n) (b : ByteArray) : dnum k (strOfNums (beL v n) ++ b) false n (p n) = some (v, b, false) := by
  rw [dnum_any k _ _ n h1 h8 hk, tkS_app _ _ _ (beL_size v n).symm, tkR_app _ _ _ (beL_size v n).symm, tkB_app _ _ _ (beL_size v n).symm, be_beL v n h0 hv]
theorem dnum1_app (k : Nat) (hk : 10 < k) (v : Int) (h0 : 0 ≤ v) (hv : v < 256) (b : ByteArray) : dnum k (strOfNums [v % 256] ++ b) false 1 256 = some (v, b, false) := by
  rw [one_beL, ← p1]
  exact dnum_app k hk v 1 (by omega) (by omega) h0 (by rw [p1]; exact hv) b
theorem dnum4_app (k : Nat) (hk : 10 < k) (v : Int) (h0 : 0 ≤ v) (hv : v < 4294967296) (b : ByteArray) : dnum k (strOfNums (beL v 4) ++ b) false 4 4294967296 = some (v, b, false) := by
  rw [← p4]
  exact dnum_app k hk v 4 (by omega) (by omega) h0 (by rw [p4]; exact hv) b
theorem dnum8_app (k : Nat) (hk : 10 < k) (v : Int) (h0 : 0 ≤ v) (hv : v < 18446744073709551616) (b : ByteArray) : dnum k (strOfNums (beL v 8) ++ b) false 8 18446744073709551616 = some (v, b, false) := by
  rw [← p8]
  exact dnum_app k hk v 8 (by omega) (by omega) h0 (by rw [p8]; exact hv) b
theorem dregs_app (k : Nat) (hk : 10 < k) : ∀ (l : List S48) (b : ByteArray), small l → (∀ x ∈ l, 0 ≤ x.f1 ∧ x.f1 < 18446744073709551616) → dregs k l.length (regsW l ++ b) false = some (l, b, false)
  | [], b, _, _ => by
    show some (([] : List S48), regsW [] ++ b, false) = _
    rw [show regsW [] ++ b = b from none_append _ _ rfl]
  | x :: l, b, hs, hw => by
    have hx := hs x List.mem_cons_self
    have hy := hw x List.mem_cons_self
    have ih := dregs_app k hk l b (fun y hy => hs y (List.mem_cons_of_mem _ hy)) (fun y hy => hw y (List.mem_cons_of_mem _ hy))
    have e : regsW (x :: l) ++ b = strOfNums (beL x.f1 8) ++ (strOfNums [(x.f0.size : Int) % 256] ++ (x.f0 ++ (regsW l ++ b))) := by
      show (((strOfNums (beL x.f1 8) ++ strOfNums [(x.f0.size : Int) % 256]) ++ x.f0) ++ regsW l) ++ b = _
      rw [ByteArray.append_assoc, ByteArray.append_assoc, ByteArray.append_assoc]
    rw [e]
    show dregs k (l.length + 1) _ false = _
    rw [dregs, dnum8_app k hk x.f1 hy.1 hy.2, Option.bind_some]
    dsimp only
    rw [dnum1_app k hk (x.f0.size : Int) (by omega) (by omega), Option.bind_some]
    dsimp only
    rw [tkS_app _ _ _ rfl, tkR_app _ _ _ rfl, tkB_app _ _ _ rfl, ih, Option.bind_some]
/-- What is read, ahead of what is looked at then. -/
def parseP (k : Nat) (s : ByteArray) : Option (Int × Int × Int × Int × List S48 × ByteArray × Bool) :=
  (dnum k (tkR s false 4) (tkB s false 4) 4 4294967296).bind fun gen =>
  (dnum k gen.2.1 gen.2.2 1 256).bind fun typ =>
  (dnum k typ.2.1 typ.2.2 1 256).bind fun host =>
  (dnum k host.2.1 host.2.2 1 256).bind fun apt =>
  (dnum k apt.2.1 apt.2.2 1 256).bind fun cnt =>
  (dregs k cnt.1.toNat cnt.2.1 cnt.2.2).bind fun t => some (gen.1, typ.1, host.1, apt.1, t.1, t.2.1, t.2.2)
theorem decode_parse (k : Nat) (s : ByteArray) : image_Decode.f k s = (parseP k s).bind fun p => dend k s (tkS s false 4) p.1 p.2.1 p.2.2.1 p.2.2.2.1 p.2.2.2.2.1 p.2.2.2.2.2.2 := by
  unfold image_Decode.f parseP
  simp only [Option.bind_assoc, Option.bind_some]
def onOf (apt : Bool) : Int := if apt = true then 1 else 0
theorem head_split (typ pos on n gen : Int) (b : ByteArray) : headW typ pos on n gen ++ b = magic ++ (strOfNums (beL gen 4) ++ (strOfNums [typ % 256] ++ (strOfNums [pos % 256] ++ (strOfNums [on] ++ (strOfNums [n % 256] ++ b))))) := by
  unfold headW
  have e : strOfNums [typ % 256, pos % 256, on, n % 256] = ((strOfNums [typ % 256] ++ strOfNums [pos % 256]) ++ strOfNums [on]) ++ strOfNums [n % 256] := by
    apply ByteArray.ext
    simp [strOfNums, ByteArray.data_append]
  rw [e]
  simp only [ByteArray.append_assoc]
theorem hold_typ {l : List S48} {typ : Int} {host : ByteArray} (h : holdOk_ l typ host = true) : 0 ≤ typ ∧ typ ≤ 6 := by
  unfold holdOk_ at h
  by_cases h0 : typ = 0
  · omega
  · rw [if_neg h0] at h
    by_cases h1 : typ < 1 ∨ 6 < typ
    · rw [if_pos h1] at h
      exact absurd h (by decide)
    · omega
/-- Where the host stands it is read again. -/
theorem hold_host {l : List S48} {typ : Int} {host : ByteArray} (hok : okAll_ l) (h : holdOk_ l typ host = true) : (if 0 < ((pos l host : Nat) : Int) then (rd_T48 l (((pos l host : Nat) : Int) - 1)).f0 else (⟨#[]⟩ : ByteArray)) = host := by
  cases hp : pos l host with
  | succ i =>
    obtain ⟨hi, he⟩ := pos_hit hp
    rw [if_pos (by omega), show (((i + 1 : Nat) : Int) - 1) = (i : Int) by omega, rd_at l i hi, he]
  | zero =>
    rw [if_neg (by omega)]
    have hempty : host.toList = ([] : List UInt8) → (⟨#[]⟩ : ByteArray) = host := fun e => ((toList_inj' _ _).mp (by rw [e, ByteArray.toList_eq])).symm
    unfold holdOk_ at h
    by_cases h0 : typ = 0
    · rw [if_pos h0] at h
      exact hempty (beq_iff_eq.mp h)
    · rw [if_neg h0] at h
      by_cases h1 : typ < 1 ∨ 6 < typ
      · rw [if_pos h1] at h
        exact absurd h (by decide)
      · rw [if_neg h1] at h
        by_cases h5 : typ = 5 ∨ typ = 6
        · rw [if_pos h5, Bool.and_eq_true] at h
          exact hempty (beq_iff_eq.mp h.1)
        · rw [if_neg h5] at h
          obtain ⟨j, _, hj, he⟩ := (mem_hosts _ _ _).mp (of_decide_eq_true h)
          have := pos_of hok hj he
          omega
/-- An image is read as it was kept, whatever follows. -/
theorem parse_img (k : Nat) (hk : 40 ≤ k) (l : List S48) (typ : Int) (host : ByteArray) (gen : Int) (apt : Bool) (hg : goodB l typ host = true) (hw : wideT l gen) (x : ByteArray) :
    parseP k (encT l typ host gen apt ++ x) = some (gen, typ, (pos l host : Int), onOf apt, l, dig (bodyW l typ (pos l host : Int) (onOf apt) gen) ++ x, false) ∧ tkS (encT l typ host gen apt ++ x) false 4 = magic := by
  obtain ⟨h16, hok, hh⟩ := (good_iff l typ host).mp hg
  have hp := pos_le l host
  have ht := hold_typ hh
  have e : encT l typ host gen apt ++ x = magic ++ (strOfNums (beL gen 4) ++ (strOfNums [typ % 256] ++ (strOfNums [((pos l host : Nat) : Int) % 256] ++ (strOfNums [onOf apt % 256] ++ (strOfNums [(l.length : Int) % 256] ++ (regsW l ++ (dig (bodyW l typ (pos l host : Int) (onOf apt) gen) ++ x))))))) := by
    unfold encT imgW
    rw [ByteArray.append_assoc]
    show (headW typ (pos l host : Int) (onOf apt) (l.length : Int) gen ++ regsW l) ++ _ = _
    rw [ByteArray.append_assoc, head_split]
    have : onOf apt % 256 = onOf apt := by cases apt <;> rfl
    rw [this]
    rfl
  rw [e]
  have ha : 0 ≤ onOf apt ∧ onOf apt < 256 := by cases apt <;> exact ⟨by decide, by decide⟩
  refine ⟨?_, tkS_app _ _ _ rfl⟩
  unfold parseP
  rw [tkR_app _ _ _ (show (4 : Int) = (magic.size : Int) from rfl), tkB_app _ _ _ (show (4 : Int) = (magic.size : Int) from rfl), dnum4_app k (by omega) gen hw.1 hw.2.1, Option.bind_some]
  dsimp only
  rw [dnum1_app k (by omega) typ ht.1 (by omega), Option.bind_some]
  dsimp only
  rw [dnum1_app k (by omega) _ (by omega) (by omega), Option.bind_some]
  dsimp only
  rw [dnum1_app k (by omega) _ ha.1 ha.2, Option.bind_some]
  dsimp only
  rw [dnum1_app k (by omega) _ (by omega) (by omega), Option.bind_some]
  dsimp only
  rw [Int.toNat_natCast, dregs_app k (by omega) l _ (ok_small hok) hw.2.2, Option.bind_some]
theorem append_empty (a : ByteArray) : a ++ (⟨#[]⟩ : ByteArray) = a := append_none _ _ rfl
/-- What was kept is read as it was. -/
theorem Decode_img (k : Nat) (hk : 40 ≤ k) (l : List S48) (typ : Int) (host : ByteArray) (gen : Int) (apt : Bool) (hh : host.size ≤ 5000) (hg : goodB l typ host = true) (hw : wideT l gen) : image_Decode.f k (encT l typ host gen apt) = some (l, typ, host, gen, apt, 0) := by
  obtain ⟨h1, h2⟩ := parse_img k hk l typ host gen apt hg hw (⟨#[]⟩ : ByteArray)
  rw [append_empty] at h1 h2
  obtain ⟨h16, hok, hho⟩ := (good_iff l typ host).mp hg
  have hp := pos_le l host
  have ha : (onOf apt == 1) = apt := by cases apt <;> rfl
  have hs := ok_small hok
  rw [decode_parse, h1, Option.bind_some, h2]
  unfold dend
  dsimp only
  rw [if_neg (by
    rintro (h | h | h)
    · cases h
    · exact h (by rw [ByteArray.toList_eq]; rfl)
    · omega), hold_host hok hho, ha, Encode_spec l typ host gen apt hh (fun x hx => by have := hs x hx; omega) hw k hk, Option.bind_some, if_pos hg, if_neg (by
    rintro (h | h)
    · exact h rfl
    · exact h rfl)]
/-- Two images are alike just where the tables are; no image begins another one. -/
theorem enc_prefix {l l' : List S48} {typ typ' : Int} {host host' : ByteArray} {gen gen' : Int} {apt apt' : Bool} (hg : goodB l typ host = true) (hw : wideT l gen) (hg' : goodB l' typ' host' = true) (hw' : wideT l' gen') (x : ByteArray) (e : encT l typ host gen apt ++ x = encT l' typ' host' gen' apt') : l = l' ∧ typ = typ' ∧ host = host' ∧ gen = gen' ∧ apt = apt' ∧ x.size = 0 := by
  obtain ⟨h1, _⟩ := parse_img 40 (Nat.le_refl _) l typ host gen apt hg hw x
  obtain ⟨h2, _⟩ := parse_img 40 (Nat.le_refl _) l' typ' host' gen' apt' hg' hw' (⟨#[]⟩ : ByteArray)
  rw [append_empty, ← e, h1] at h2
  simp only [Option.some.injEq, Prod.mk.injEq] at h2
  obtain ⟨e1, e2, e3, e4, e5, e6, _⟩ := h2
  obtain ⟨_, hok, hh⟩ := (good_iff l typ host).mp hg
  obtain ⟨_, hok', hh'⟩ := (good_iff l' typ' host').mp hg'
  have ea : apt = apt' := by
    revert e4
    cases apt <;> cases apt' <;> simp [onOf]
  have eh := hold_host hok hh
  have eh' := hold_host hok' hh'
  rw [e3, e5, eh'] at eh
  refine ⟨e5, e2, eh.symm, e1, ea, ?_⟩
  have := congrArg ByteArray.size e6
  rw [append_empty, ByteArray.size_append, dig_size, dig_size] at this
  omega
end Go.Proofs.YtmpicpenbhdbhaaDoor.Pure
