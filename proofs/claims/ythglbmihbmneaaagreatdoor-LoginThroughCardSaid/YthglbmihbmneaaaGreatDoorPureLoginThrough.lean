/- The plain law LoginThrough. -/
import Derived.Test.YthglbmihbmneaaaGreatDoorBa8
import Derived.Test.YthglbmihbmneaaaGreatDoorLaLoginThrough
namespace Go.Proofs.YthglbmihbmneaaaGreatDoor.Pure
open Go.RowKit Go.Proofs.YthglbmihbmneaaaGreatDoor.P Go.Proofs.YthglbmihbmneaaaGreatDoorW.PrintWords Go.Proofs.YthglbmihbmneaaaGreatDoorW.PrintLast Go.Proofs.YthglbmihbmneaaaGreatDoorW.PrintMore Go.Proofs.YthglbmihbmneaaaGreatDoor.Num
set_option linter.unusedVariables false
set_option linter.unusedSimpArgs false

theorem wakes_60 : headgatelaw22_wakes.f 60 = some true := by kernel_rfl
theorem wakes_up : ∀ d : Nat, headgatelaw22_wakes.f (60 + d) = some true
  | 0 => wakes_60
  | d + 1 => headgatelaw22_wakes.mono (60 + d) true (wakes_up d)
theorem wakes_ok (k : Nat) (h : 60 ≤ k) : headgatelaw22_wakes.f k = some true := by
  obtain ⟨d, rfl⟩ : ∃ d, k = 60 + d := ⟨k - 60, by omega⟩
  exact wakes_up d
theorem large_any (t : S27) (g h d : ByteArray) : ∃ z, headgatelaw22_large.f t.f0 t.f1 t.f2.f0 t.f2.f1 t.f2.f2 t.f2.f3 t.f2.f4 t.f2.f5 t.f2.f6 t.f2.f7 t.f3 t.f4 g h d = some z ∧ (z = false → h.size ≤ 1000) := by
  unfold headgatelaw22_large.f
  split
  · exact ⟨_, rfl, fun e => by cases e⟩
  · split
    · exact ⟨_, rfl, fun e => by cases e⟩
    · split
      · exact ⟨_, rfl, fun e => by cases e⟩
      · split
        · exact ⟨_, rfl, fun e => by cases e⟩
        · next hh => exact ⟨_, rfl, fun _ => by omega⟩
theorem own_same (a : Int) (b c d e f : Bool) (g h : Int) (i j : ByteArray) (l m : Int) : headgatelaw22_Own.f a b c d e f g h i j l m = some (a, b, c, d, e, f, g, h, i, j, l, m) := by
  unfold headgatelaw22_Own.f headgatelaw21_Own.f
  rfl
theorem same_same (a : Int) (b c d e f : Bool) (g h : Int) (i j : ByteArray) (l m : Int) : headgateref22_Same.f a b c d e f g h i j l m a b c d e f g h i j l m = some true := by
  unfold headgateref22_Same.f headgateref21_Same.f
  simp
theorem step_no (t : S27) (g h d : ByteArray) (c dt : Int) (hh : h.size ≤ 1000) (hs : login_stepped.f 200 t g h d = some (.inl (c, dt))) (hc : c = 2) :
    ∃ q, login_Step.f 200 t.f0 t.f1 t.f2.f0 t.f2.f1 t.f2.f2 t.f2.f3 t.f2.f4 t.f2.f5 t.f2.f6 t.f2.f7 t.f3 t.f4 g h d = some (t.f0, t.f1, t.f2.f0, t.f2.f1, t.f2.f2, t.f2.f3, t.f2.f4, t.f2.f5, t.f2.f6, t.f2.f7, t.f3, (t.f4 + 1) % 4294967296, q, (⟨#[]⟩ : ByteArray), false) ∧ q.size = 48 ∧ bt q 1 = 0 ∧ bt q 36 = 2 := by
  obtain ⟨tag, hT⟩ := tag_any 200 h d (by omega) (by decide)
  obtain ⟨hd, hH, z, b1, _, _⟩ := head_any 200 0 tag (by decide)
  obtain ⟨q, hq, z2, q1, q36, _⟩ := num_all 200 hd (⟨#[]⟩ : ByteArray) h d t.f3 t.f4 c dt z (by decide)
  refine ⟨q, ?_, z2, q1.trans (b1 rfl), by rw [q36, hc]; rfl⟩
  unfold login_Step.f stp
  rw [show (⟨t.f0, t.f1, ⟨t.f2.f0, t.f2.f1, t.f2.f2, t.f2.f3, t.f2.f4, t.f2.f5, t.f2.f6, t.f2.f7⟩, t.f3, t.f4⟩ : S27) = t from rfl, hs, Option.bind_some]
  dsimp only
  unfold stp_no
  rw [hT, Option.bind_some, hH, Option.bind_some, hq]
  rfl
theorem step_yes (t n : S27) (g h d s : ByteArray) (x : Bool × Int × Int × Int) (hh : h.size ≤ 1000) (hs : login_stepped.f 200 t g h d = some (.inr (n, x, s))) :
    ∃ q, login_Step.f 200 t.f0 t.f1 t.f2.f0 t.f2.f1 t.f2.f2 t.f2.f3 t.f2.f4 t.f2.f5 t.f2.f6 t.f2.f7 t.f3 t.f4 g h d = some (n.f0, n.f1, n.f2.f0, n.f2.f1, n.f2.f2, n.f2.f3, n.f2.f4, n.f2.f5, n.f2.f6, n.f2.f7, n.f3, (t.f4 + 1) % 4294967296, q, s, true) ∧ q.size = 48 ∧ bt q 36 = 0 ∧ bt q 37 = 0 := by
  obtain ⟨tag, hT⟩ := tag_any 200 h d (by omega) (by decide)
  obtain ⟨hd, hH, z, _, b36, b37⟩ := head_any 200 (stp_flags x) tag (by decide)
  obtain ⟨hd2, hz, z2⟩ : ∃ hd2, (if n.f0 = 3 then (fields_Set.f hd 15 (⟨#[1]⟩ : ByteArray)).bind fun z => some z.1 else some hd) = some hd2 ∧ hd2.size = 48 := by
    split
    · have e : fields_Set.f hd 15 (⟨#[1]⟩ : ByteArray) = some (setAt hd 15 (⟨#[1]⟩ : ByteArray), true) := Set_at hd _ 15 (by omega) (by rw [z]; decide)
      rw [e]
      exact ⟨_, rfl, by rw [setAt_size _ _ _ (by rw [z]; decide), z]⟩
    · exact ⟨_, rfl, z⟩
  obtain ⟨q, hq, z3, _, q36, q37⟩ := num_all 200 hd2 s h d n.f3 t.f4 0 0 z2 (by decide)
  refine ⟨q, ?_, z3, q36, q37⟩
  unfold login_Step.f stp
  rw [show (⟨t.f0, t.f1, ⟨t.f2.f0, t.f2.f1, t.f2.f2, t.f2.f3, t.f2.f4, t.f2.f5, t.f2.f6, t.f2.f7⟩, t.f3, t.f4⟩ : S27) = t from rfl, hs, Option.bind_some]
  dsimp only
  unfold stp_yes
  rw [hT, Option.bind_some, hH, Option.bind_some, hz, Option.bind_some, hq]
  rfl
theorem LoginThrough (x0 : S27) (x1 : ByteArray) (x2 : S35) (h0 : Q27 x0) (h1 : x1.size ≤ 9223372036854775807) (h2 : Q35 x2) : ∃ k, headgatelaw22_LoginThrough.f k x0.f0 x0.f1 x0.f2.f0 x0.f2.f1 x0.f2.f2 x0.f2.f3 x0.f2.f4 x0.f2.f5 x0.f2.f6 x0.f2.f7 x0.f3 x0.f4 x1 x2.f0 x2.f1 = some true := by
  have hw4 : 0 ≤ x0.f4 ∧ x0.f4 ≤ 4294967295 := by
    obtain ⟨_, _, _, _, h⟩ := h0
    simpa [Lit.wf, IntKind.min, IntKind.max, IntKind.bits, IntKind.signed] using h
  refine ⟨200, ?_⟩
  unfold headgatelaw22_LoginThrough.f
  obtain ⟨z, hz, hl⟩ := large_any x0 x1 x2.f0 x2.f1
  rw [hz, Option.bind_some]
  cases z
  rotate_left
  · rw [if_pos rfl, wakes_ok 200 (by decide)]
    rfl
  rw [if_neg (by decide)]
  have hh := hl rfl
  obtain ⟨s, hs, g2, g3⟩ := stepped_any 200 x0 x1 x2.f0 x2.f1 hh (by decide)
  rcases s with ⟨c, dt⟩ | ⟨n, x, s⟩
  · obtain ⟨q, hq, z, b1, b36⟩ := step_no x0 x1 x2.f0 x2.f1 c dt hh hs (g2 _ rfl)
    rw [hq, Option.bind_some]
    dsimp only
    rw [if_pos (by rw [z]; rfl), headgatelaw22_LoginThrough.j0, if_neg (by simp), if_neg (by decide), own_same, Option.bind_some, own_same, Option.bind_some]
    dsimp only
    rw [show ((x0.f4 + 1) % 4294967296 - 1) % 4294967296 = x0.f4 by omega, same_same, Option.bind_some, if_pos rfl, if_pos (by rw [ba_list]), if_pos (by rw [z]; decide), if_pos b1, if_pos (by rw [z]; decide), if_pos b36, wakes_ok 199 (by decide)]
    rfl
  · obtain ⟨q, hq, z, b36, b37⟩ := step_yes x0 n x1 x2.f0 x2.f1 s x hh hs
    obtain ⟨hb, h3⟩ := g3 n x s rfl
    have fin : (if n.f1 = true then (if 36 < (q.size : Int) then (if (bt q 36) = 0 then (if 37 < (q.size : Int) then (if (bt q 37) = 0 then ((headgatelaw22_wakes.f 199).bind fun t310 => (some t310)) else (some false)) else (none)) else (some false)) else (none)) else (some false)) = some true := by
      rw [if_pos hb, if_pos (by rw [z]; decide), if_pos b36, if_pos (by rw [z]; decide), if_pos b37, wakes_ok 199 (by decide)]
      rfl
    rw [hq, Option.bind_some]
    dsimp only
    rw [if_pos (by rw [z]; rfl), headgatelaw22_LoginThrough.j0, if_neg (by simp), if_pos rfl]
    by_cases h4 : n.f0 = 3
    · obtain ⟨hn, hg, hne⟩ := h3 h4
      rw [if_pos h4]
      by_cases h5 : x0.f2.f6.toList = ([] : List UInt8)
      · have hi : headgateref03_Iqn.f 199 n.f2.f6 = some true := by
          rcases hn with e | e
          · rw [ref_Iqn_spec 199 _ (by decide), ← Iqn_spec, e]
          · exact absurd (by rw [e]; exact h5) hne
        rw [if_pos h5, hi, Option.bind_some, if_pos rfl, if_pos hg]
        exact fin
      · rw [if_neg h5, if_pos hg]
        exact fin
    · rw [if_neg h4]
      exact fin
end Go.Proofs.YthglbmihbmneaaaGreatDoor.Pure
