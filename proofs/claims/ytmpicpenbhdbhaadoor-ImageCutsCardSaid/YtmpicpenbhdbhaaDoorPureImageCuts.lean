/- An image that is cut off anywhere, has a byte more, or one byte turned, is none: for every table, place and byte. -/
import Derived.Test.YtmpicpenbhdbhaaDoorPx13
import Derived.Test.YtmpicpenbhdbhaaDoorRq
import Derived.Test.YtmpicpenbhdbhaaDoorImageWakes
import Derived.Test.YtmpicpenbhdbhaaDoorCrcLib
namespace Go.Proofs.YtmpicpenbhdbhaaDoor.Pure
open Go.RowKit Go.Proofs.YtmpicpenbhdbhaaDoor.P Go.Proofs.YtmpicpenbhdbhaaDoorW.PrintWords Go.Proofs.YtmpicpenbhdbhaaDoorW.PrintLast Go.Proofs.YtmpicpenbhdbhaaDoorW.PrintMore Go.Proofs.YtmpicpenbhdbhaaDoor.Num
set_option linter.unusedVariables false
set_option linter.unusedSimpArgs false

def setB (s : ByteArray) (m : Nat) (c : UInt8) : ByteArray := ⟨(s.data.toList.set m c).toArray⟩
theorem setB_list (s : ByteArray) (m : Nat) (c : UInt8) : (setB s m c).data.toList = s.data.toList.set m c := rfl
theorem setB_size (s : ByteArray) (m : Nat) (c : UInt8) : (setB s m c).size = s.size := by
  show (s.data.toList.set m c).toArray.size = s.data.size
  simp
theorem ext_list {a b : ByteArray} (h : a.data.toList = b.data.toList) : a = b := ByteArray.ext (Array.toList_inj.mp h)
theorem extract_list (s : ByteArray) (i j : Nat) : (s.extract i j).data.toList = (s.data.toList.drop i).take (j - i) := by
  rw [ByteArray.data_extract, Array.toList_extract]
theorem set_cut_out (s : ByteArray) (m : Nat) (c : UInt8) (i j : Nat) (h : m < i ∨ j ≤ m) : (setB s m c).extract i j = s.extract i j := by
  apply ext_list
  rw [extract_list, extract_list, setB_list]
  apply List.ext_getElem?
  intro q
  rw [List.getElem?_take, List.getElem?_take]
  split
  · rw [List.getElem?_drop, List.getElem?_drop, List.getElem?_set]
    rw [if_neg (by omega)]
  · rfl
theorem set_cut_in (s : ByteArray) (m : Nat) (c : UInt8) (i j : Nat) (h0 : i ≤ m) (h1 : m < j) (h2 : j ≤ s.size) : (setB s m c).extract i j = setB (s.extract i j) (m - i) c := by
  apply ext_list
  rw [extract_list, setB_list, setB_list, extract_list]
  have hl : s.data.toList.length = s.size := rfl
  apply List.ext_getElem?
  intro q
  rw [List.getElem?_take, List.getElem?_set, List.getElem?_take]
  simp only [List.getElem?_drop, List.getElem?_set, List.length_take, List.length_drop]
  by_cases hq : q < j - i
  · rw [if_pos hq, if_pos hq]
    by_cases he : m = i + q
    · rw [if_pos he, if_pos (by omega), if_pos (by omega), if_pos (by omega)]
    · rw [if_neg he, if_neg (by omega)]
  · rw [if_neg hq, if_neg hq]
    by_cases he : m - i = q
    · rw [if_pos he, if_neg (by omega)]
    · rw [if_neg he]
theorem dig_inj (x y : ByteArray) (h : dig x = dig y) : Crc.more 0 x.data.toList = Crc.more 0 y.data.toList := by
  have hp : p 4 = 4294967296 := by decide
  have hx := Crc.more_lt (w := 0) (by decide) x.data.toList
  have hy := Crc.more_lt (w := 0) (by decide) y.data.toList
  have h1 := le_leL ((Crc.more 0 x.data.toList : Nat) : Int) 4 (by omega) (by omega)
  have h2 := le_leL ((Crc.more 0 y.data.toList : Nat) : Int) 4 (by omega) (by omega)
  unfold dig at h
  rw [h, h2] at h1
  omega
theorem dig_set (x : ByteArray) (m : Nat) (c : UInt8) (hm : m < x.size) (h : setB x m c ≠ x) : dig (setB x m c) ≠ dig x := by
  intro hd
  have h1 := Crc.more_inj (dig_inj _ _ hd)
  have hl : m < x.data.toList.length := hm
  rw [setB_list] at h1
  have e1 : x.data.toList.set m c = x.data.toList.take m ++ c :: x.data.toList.drop (m + 1) := List.set_eq_take_append_cons_drop.trans (if_pos hl)
  have e2 : x.data.toList = x.data.toList.take m ++ x.data.toList[m] :: x.data.toList.drop (m + 1) := by
    rw [← List.drop_eq_getElem_cons hl, List.take_append_drop]
  have h2 := h1
  rw [e1] at h2
  conv at h2 => rhs; rw [e2]
  have h3 := Crc.turned1 _ _ _ _ _ (by decide) h2
  apply h
  apply ext_list
  rw [setB_list, h3]
  exact List.set_getElem_self hl
/-- Turned anywhere outside of a part: the whole is turned where the part is. -/
theorem setB_ne_cut (s : ByteArray) (m : Nat) (c : UInt8) (i j : Nat) (h0 : i ≤ m) (h1 : m < j) (h2 : j ≤ s.size) (h : setB s m c ≠ s) : setB (s.extract i j) (m - i) c ≠ s.extract i j := by
  intro he
  apply h
  have hl : m < s.data.toList.length := Nat.lt_of_lt_of_le h1 h2
  have h3 := congrArg (fun b : ByteArray => b.data.toList[m - i]?) he
  simp only [setB_list, extract_list] at h3
  rw [List.getElem?_set, if_pos rfl, if_pos (by rw [List.length_take, List.length_drop]; have : s.data.toList.length = s.size := rfl; omega), List.getElem?_take, if_pos (by omega), List.getElem?_drop, show i + (m - i) = m by omega, List.getElem?_eq_getElem hl] at h3
  have h4 := Option.some.inj h3
  apply ext_list
  rw [setB_list, h4]
  exact List.set_getElem_self hl
theorem u8_of {n : Int} (h : (Lit.int .u8 n).wf = true) : 0 ≤ n ∧ n < 256 := by
  simp [Lit.wf, IntKind.min, IntKind.max, IntKind.signed, IntKind.bits] at h
  omega
theorem img_cut (b s : ByteArray) (e : b ++ dig b = s) (n : Nat) (hn : n + 4 = s.size) : s.extract 0 n = b ∧ s.extract n (n + 4) = dig b := by
  have hs : s.size = b.size + 4 := by rw [← e, ByteArray.size_append, dig_size]
  have hb : n = b.size := by omega
  subst hb
  rw [← e]
  refine ⟨?_, ?_⟩
  · rw [cut_left _ _ _ _ (Nat.le_refl _), ByteArray.extract_zero_size]
  · rw [cut_right _ _ _ _ (Nat.le_refl _), Nat.sub_self, Nat.add_sub_cancel_left, show (4 : Nat) = (dig b).size from (dig_size b).symm, ByteArray.extract_zero_size]
theorem encT_img (l : List S48) (typ : Int) (host : ByteArray) (gen : Int) (apt : Bool) : ∃ b, b ++ dig b = encT l typ host gen apt := ⟨_, rfl⟩
/-- A text of which one byte is turned isn't an image any more. -/
theorem turned_img (b b' s : ByteArray) (m : Nat) (c : UInt8) (e : b ++ dig b = s) (hm : m < s.size) (hne : setB s m c ≠ s) (e' : b' ++ dig b' = setB s m c) : False := by
  have hs : s.size = b.size + 4 := by rw [← e, ByteArray.size_append, dig_size]
  have hu := setB_size s m c
  obtain ⟨h1, h2⟩ := img_cut b s e b.size (by omega)
  obtain ⟨h3, h4⟩ := img_cut b' (setB s m c) e' b.size (by omega)
  by_cases hc : m < b.size
  · rw [set_cut_out s m c b.size (b.size + 4) (Or.inl hc), h2] at h4
    have h5 := setB_ne_cut s m c 0 b.size (Nat.zero_le _) hc (by omega) hne
    rw [set_cut_in s m c 0 b.size (Nat.zero_le _) hc (by omega), h1, Nat.sub_zero] at h3
    rw [h1, Nat.sub_zero] at h5
    rw [← h3] at h4
    exact dig_set b m c hc h5 h4.symm
  · rw [set_cut_out s m c 0 b.size (Or.inr (by omega)), h1] at h3
    apply hne
    rw [← e', ← h3, e]

theorem ImageCuts (x0 : S27) (x1 : Int) (x2 : Int) (h0 : Q27 x0) (h1 : (Lit.int .i64 x1).wf = true) (h2 : (Lit.int .u8 x2).wf = true) : ∃ k, headgatelaw12_ImageCuts.f k x0.f0 x0.f1.f0 x0.f1.f1 x0.f2 x0.f3 x1 x2 = some true := by
  have hw := wide_of h0
  have hc := u8_of h2
  refine ⟨400, ?_⟩
  obtain ⟨z, hz, hzl⟩ := Large_spec 400 x0.f0 x0.f1.f0 x0.f1.f1 x0.f2 x0.f3 (by decide)
  unfold headgatelaw12_ImageCuts.f
  rw [hz, Option.bind_some, wakes_ok _ (by decide)]
  cases z with
  | true => rw [if_pos rfl]
  | false =>
    obtain ⟨hl, ho, hx⟩ := hzl rfl
    rw [if_neg (by decide), Copy_spec _ _ _ _ _ hl, Option.bind_some]
    dsimp only
    rw [Encode_spec _ _ _ _ _ (by omega) (fun x h => by have := hx x h; omega) hw 400 (by decide), Option.bind_some]
    by_cases hg : goodB x0.f0 x0.f1.f0 x0.f1.f1 = true
    · rw [if_pos hg]
      dsimp only
      have hsz := enc_size (gen := x0.f2) (apt := x0.f3) hg
      obtain ⟨b, hb⟩ := encT_img x0.f0 x0.f1.f0 x0.f1.f1 x0.f2 x0.f3
      have hdec := Decode_img 400 (by decide) x0.f0 x0.f1.f0 x0.f1.f1 x0.f2 x0.f3 (by omega) hg hw
      have hpre : ∀ (l : List S48) (typ : Int) (host : ByteArray) (gen : Int) (apt : Bool) (x : ByteArray), goodB l typ host = true → wideT l gen → (encT l typ host gen apt ++ x = encT x0.f0 x0.f1.f0 x0.f1.f1 x0.f2 x0.f3 → x.size = 0) ∧ (encT x0.f0 x0.f1.f0 x0.f1.f1 x0.f2 x0.f3 ++ x = encT l typ host gen apt → x.size = 0) := fun l typ host gen apt x h1 h2 => ⟨fun e => (enc_prefix h1 h2 hg hw x e).2.2.2.2.2, fun e => (enc_prefix hg hw h1 h2 x e).2.2.2.2.2⟩
      generalize encT x0.f0 x0.f1.f0 x0.f1.f1 x0.f2 x0.f3 = s at hsz hb hdec hpre
      have em0 := Int.emod_nonneg (IntKind.u64.wrap x1) (b := (s.size : Int)) (by omega)
      have em1 := Int.emod_lt_of_pos (IntKind.u64.wrap x1) (b := (s.size : Int)) (by omega)
      have hm : cutAt s x1 < s.size := by unfold cutAt; omega
      obtain ⟨m, hm'⟩ : ∃ m, m = cutAt s x1 := ⟨_, rfl⟩
      have hset : cutSet s x1 x2 = setB s m (UInt8.ofNat x2.toNat) := by rw [hm']; rfl
      rw [hset, ← hm']
      rw [← hm'] at hm
      obtain ⟨x, hX, hXo⟩ := Decode_any 400 (by decide) (s.extract 0 m)
      obtain ⟨y, hY, hYo⟩ := Decode_any 400 (by decide) (s ++ oneB x2)
      obtain ⟨z, hZ, hZo⟩ := Decode_any 400 (by decide) (setB s m (UInt8.ofNat x2.toNat))
      have eX : x.2.2.2.2.2 = 61 := by
        rcases hXo with h | ⟨l, typ, host, gen, apt, _, h1, h2, h3⟩
        · rw [h]; rfl
        · exfalso
          have := (hpre l typ host gen apt (s.extract m s.size) h1 h2).1 (by rw [h3, ByteArray.extract_append_extract, Nat.min_eq_left (Nat.zero_le _), Nat.max_eq_right (by omega)]; exact ByteArray.extract_zero_size)
          rw [ByteArray.size_extract] at this
          omega
      have eY : y.2.2.2.2.2 = 61 := by
        rcases hYo with h | ⟨l, typ, host, gen, apt, _, h1, h2, h3⟩
        · rw [h]; rfl
        · exfalso
          have := (hpre l typ host gen apt (oneB x2) h1 h2).2 h3.symm
          exact absurd this (show ¬ (1 : Nat) = 0 by decide)
      have eZ : z.2.2.2.2.2 = 0 ↔ setB s m (UInt8.ofNat x2.toNat) = s := by
        constructor
        · intro h0
          refine Classical.byContradiction fun hne => ?_
          rcases hZo with h | ⟨l, typ, host, gen, apt, _, h1, h2, h3⟩
          · rw [h] at h0
            exact absurd h0 (show ¬ ((61 : Int) = 0) by decide)
          · obtain ⟨b', hb'⟩ := encT_img l typ host gen apt
            rw [h3] at hb'
            exact turned_img b b' s m _ hb hm hne hb'
        · intro h
          rw [h, hdec] at hZ
          rw [← Option.some.inj hZ]
      rw [if_pos rfl, if_pos ⟨by omega, by omega, hc.1, hc.2⟩, hX, Option.bind_some, hY, Option.bind_some, hZ, Option.bind_some, Option.bind_some, if_pos ⟨eX, eY, eZ⟩]
    · rw [if_neg hg]
      dsimp only
      rw [if_neg (by decide), if_pos (show ByteArray.size ⟨#[]⟩ = 0 from rfl)]

end Go.Proofs.YtmpicpenbhdbhaaDoor.Pure
