/- The pages of chapter 26: both the program's and the document's are parts set one behind the other. -/
import Derived.Test.YtmfbmioooafelaaSetLib
import Derived.Test.YtmfbmioooafelaaPx1
import Derived.Test.YtmfbmioooafelaaPx3
import Derived.Test.YtmfbmioooafelaaPx2
namespace Go.Proofs.Ytmfbmioooafelaa.Pure
open Go.RowKit Go.Proofs.Ytmfbmioooafelaa.P Go.Proofs.YtmfbmioooafelaaW.PrintWords Go.Proofs.YtmfbmioooafelaaW.PrintLast Go.Proofs.YtmfbmioooafelaaW.PrintMore Go.Proofs.Ytmfbmioooafelaa.Num
set_option linter.unusedVariables false
set_option linter.unusedSimpArgs false

def zero : ByteArray := strOfNums (List.replicate 4096 0)
theorem zero_size : zero.size = 4096 := by unfold zero; rw [strOfNums_size, List.length_replicate]
theorem bt_zero (i : Nat) (h : i < 4096) : bt zero (i : Int) = 0 := by
  have hl : i < (List.replicate 4096 (0 : Int)).length := by rw [List.length_replicate]; exact h
  unfold zero
  rw [strOfNums_get _ i hl (by rw [List.getElem_replicate]; omega), List.getElem_replicate]
/-- Parts set at their places. -/
def pg (s : ByteArray) (l : List S34) : ByteArray := l.foldl (fun s p => setAt s p.f0.toNat p.f1) s
theorem pg_append (s : ByteArray) (l m : List S34) : pg s (l ++ m) = pg (pg s l) m := by unfold pg; rw [List.foldl_append]
/-- A part that fits. -/
def fits (p : S34) : Prop := 0 ≤ p.f0 ∧ p.f0 < 4096 ∧ p.f0 + p.f1.size ≤ 4096
theorem pg_size : ∀ (l : List S34) (s : ByteArray), s.size = 4096 → (∀ p ∈ l, fits p) → (pg s l).size = 4096
  | [], s, hs, _ => hs
  | p :: l, s, hs, h => by
    have hp := h p List.mem_cons_self
    unfold fits at hp
    exact pg_size l (setAt s p.f0.toNat p.f1) (by rw [setAt_size _ _ _ (by omega)]; exact hs) (fun q hq => h q (List.mem_cons_of_mem _ hq))
theorem pageOf_eq : ∀ (l : List S34) (s : ByteArray), s.size = 4096 → (∀ p ∈ l, fits p) → pageOf s.data.toList l = some (pg s l)
  | [], s, _, _ => rfl
  | p :: l, s, hs, h => by
    have hp := h p List.mem_cons_self
    unfold fits at hp
    have e : pageOf s.data.toList (p :: l) = (if 0 ≤ p.f0 ∧ p.f0 < 4096 ∧ p.f0 + p.f1.size ≤ 4096 then pageOf (s.data.toList.take p.f0.toNat ++ p.f1.data.toList ++ s.data.toList.drop (p.f0.toNat + p.f1.size)) l else none) := rfl
    rw [e, if_pos hp, ← setAt_list]
    exact pageOf_eq l (setAt s p.f0.toNat p.f1) (by rw [setAt_size _ _ _ (by omega)]; exact hs) (fun q hq => h q (List.mem_cons_of_mem _ hq))
theorem zeros_list (n : Nat) : (strOfNums (List.replicate n 0)).data.toList = List.replicate n 0 := by
  unfold strOfNums
  simp
theorem zero_list : zero.data.toList = List.replicate 4096 0 := zeros_list 4096
theorem page_spec (l : List S34) (hl : l.length ≤ 100000) (h : ∀ p ∈ l, fits p) : identify_page.f l = some (pg zero l) := by
  unfold identify_page.f
  rw [if_pos hl, ← zero_list]
  exact pageOf_eq l zero zero_size h
/-- A number's part. -/
def num (a : Nat) (v : Int) (n : Nat) : S34 := ⟨(a : Int), strOfNums (leL v n)⟩
theorem num_size (v : Int) (n : Nat) : (strOfNums (leL v n)).size = n := by rw [strOfNums_size, leL_length]
theorem num_fits (a : Nat) (v : Int) (n : Nat) (h : a + n ≤ 4096) (hn : 1 ≤ n) : fits (num a v n) := by
  have := num_size v n
  unfold fits num
  dsimp only
  omega
theorem number_spec (k a n : Nat) (v : Int) (h0 : 0 ≤ v) (h1 : v < 9223372036854775808) (hn : 1 ≤ n ∧ n ≤ 8) (hk : 20 ≤ k) : identify_number.f k (a : Int) v (n : Int) = some ((num a v n).f0, (num a v n).f1) := by
  unfold identify_number.f
  rw [u64_id (by omega) (by omega), PutLittle_spec _ _ _ (by omega), if_pos (by omega), Int.toNat_natCast]
  rfl
theorem ref_num_spec (k a n : Nat) (v : Int) (s : ByteArray) (hs : s.size = 4096) (h0 : 0 ≤ v) (h1 : v < 9223372036854775808) (hn : 1 ≤ n ∧ n ≤ 8) (ha : a + n ≤ 4096) (hk : 20 ≤ k) : headgateref26_num.f k s (a : Int) v (n : Int) = some (pg s [num a v n]) := by
  unfold headgateref26_num.f headgateref26_put.f
  rw [u64_id (by omega) (by omega), ref_PutLittle_spec _ _ (by omega) (by omega) _ (by omega), if_pos (by omega), Int.toNat_natCast, Option.bind_some, ref_Put_at _ _ _ (by omega) (by rw [num_size]; omega)]
  rfl
theorem ref_put_spec (a : Nat) (p s : ByteArray) (hs : s.size = 4096) (ha : a + p.size ≤ 4096) : headgateref26_put.f s (a : Int) p = some (pg s [⟨(a : Int), p⟩]) := by
  unfold headgateref26_put.f
  rw [ref_Put_at _ _ _ (by omega) (by omega)]
  rfl
theorem ref_page_spec : headgateref26_page.f = some zero := by
  unfold headgateref26_page.f
  rw [if_pos (by decide)]
  rfl

/-! lists of units -/
def parts (lo c : Nat) : List S34 := (List.range c).map fun j => num (4 * j) ((lo + 1 + j : Nat) : Int) 4
theorem parts_length (lo c : Nat) : (parts lo c).length = c := by unfold parts; rw [List.length_map, List.length_range]
theorem parts_succ (lo c : Nat) : parts lo (c + 1) = parts lo c ++ [num (4 * c) ((lo + 1 + c : Nat) : Int) 4] := by
  unfold parts
  rw [List.range_succ, List.map_append]
  rfl
theorem parts_fit (lo c : Nat) (hc : c ≤ 256) : ∀ p ∈ parts lo c, fits p := by
  intro p hp
  unfold parts at hp
  obtain ⟨j, hj, rfl⟩ := List.mem_map.mp hp
  have := List.mem_range.mp hj
  exact num_fits _ _ _ (by omega) (by omega)
/-- The page of a list. -/
def lp (lo c : Nat) : ByteArray := pg zero (parts lo c)
theorem lp_size (lo c : Nat) (hc : c ≤ 256) : (lp lo c).size = 4096 := pg_size _ _ zero_size (parts_fit lo c hc)
theorem lp_succ (lo c : Nat) : lp lo (c + 1) = setAt (lp lo c) (4 * c) (strOfNums (leL ((lo + 1 + c : Nat) : Int) 4)) := by
  unfold lp
  rw [parts_succ, pg_append]
  show setAt (pg zero (parts lo c)) ((4 * c : Nat) : Int).toNat _ = _
  rw [Int.toNat_natCast]
  rfl
theorem bt_lp (lo : Nat) : ∀ (c i : Nat), c ≤ 256 → i < 4096 → bt (lp lo c) (i : Int) = if i < 4 * c then ((lo + 1 + i / 4 : Nat) : Int) / p (i % 4) % 256 else 0
  | 0, i, _, hi => by
    rw [if_neg (by omega)]
    exact bt_zero i hi
  | c + 1, i, hc, hi => by
    have hz := lp_size lo c (by omega)
    rw [lp_succ, bt_setAt _ _ _ _ (by rw [num_size]; omega) (by omega), num_size]
    by_cases h1 : 4 * c ≤ i ∧ i < 4 * c + 4
    · rw [if_pos h1, if_pos (by omega), bt_leL _ 4 (i - 4 * c) (by omega)]
      have e1 : i / 4 = c := by omega
      have e2 : i % 4 = i - 4 * c := by omega
      rw [e1, e2]
    · rw [if_neg h1, bt_lp lo c i (by omega) hi]
      by_cases h2 : i < 4 * c
      · rw [if_pos h2, if_pos (by omega)]
      · rw [if_neg h2, if_neg (by omega)]

theorem List_l0 (U lo : Nat) (hU : U ≤ 256) (hlo : lo ≤ U) : ∀ (d k c : Nat), lo + c + d = U → d + 30 ≤ k → identify_List.l0 k (U : Int) (parts lo c) ((lo + 1 + c : Nat) : Int) = some (lp lo (U - lo)) := by
  intro d
  induction d with
  | zero =>
    intro k c hc hk
    obtain ⟨k, rfl⟩ : ∃ q, k = q + 1 := ⟨k - 1, by omega⟩
    rw [identify_List.l0, if_neg (by omega), page_spec _ (by rw [parts_length]; omega) (parts_fit lo c (by omega)), show U - lo = c by omega]
    rfl
  | succ d ih =>
    intro k c hc hk
    obtain ⟨k, rfl⟩ : ∃ q, k = q + 1 := ⟨k - 1, by omega⟩
    have e1 : wrap64 (4 * ((parts lo c).length : Int)) = ((4 * c : Nat) : Int) := by rw [parts_length, w64 (by omega) (by omega)]; omega
    have e2 : wrap64 (((lo + 1 + c : Nat) : Int) + 1) = ((lo + 1 + (c + 1) : Nat) : Int) := by rw [w64 (by omega) (by omega)]; omega
    have hN := number_spec k (4 * c) 4 ((lo + 1 + c : Nat) : Int) (by omega) (by omega) (by omega) (by omega)
    rw [identify_List.l0, if_pos (by omega), e1]
    rw [show ((4 : Nat) : Int) = 4 from rfl] at hN
    rw [hN, Option.bind_some, if_pos (by rw [parts_length]; omega), e2]
    have := ih k (c + 1) (by omega) (by omega)
    rw [parts_succ] at this
    exact this
/-- How many units there are, and above which they are told. -/
def un (u : Int) : Nat := if u < 0 ∨ 256 < u then 0 else u.toNat
def low (u a : Int) : Nat := (mn (mx a 0) (un u : Int)).toNat
theorem un_le (u : Int) : un u ≤ 256 := by unfold un; split <;> omega
theorem low_le (u a : Int) : low u a ≤ un u := by unfold low mn mx; split <;> split <;> omega
theorem low_eq (u a : Int) : mn (mx a 0) (un u : Int) = (low u a : Int) := by
  have : 0 ≤ mn (mx a 0) (un u : Int) := by unfold mn mx; split <;> split <;> omega
  unfold low
  omega
theorem List_j1 (k : Nat) (u a : Int) (hk : 300 ≤ k) : identify_List.j1 k (un u : Int) a = some (lp (low u a) (un u - low u a)) := by
  obtain ⟨k, rfl⟩ : ∃ q, k = q + 1 := ⟨k - 1, by omega⟩
  have h1 := un_le u
  have h2 := low_le u a
  have e : wrap64 ((low u a : Int) + 1) = ((low u a + 1 + 0 : Nat) : Int) := by rw [w64 (by omega) (by omega)]; omega
  rw [identify_List.j1, low_eq, e]
  exact List_l0 (un u) (low u a) h1 h2 (un u - low u a) k 0 (by omega) (by omega)
theorem List_spec (k : Nat) (u a : Int) (hk : 310 ≤ k) : identify_List.f k u a = some (lp (low u a) (un u - low u a)) := by
  obtain ⟨k, rfl⟩ : ∃ q, k = q + 1 := ⟨k - 1, by omega⟩
  have hT : un u = 0 → identify_List.j0 (k + 1) u a true = some (lp (low u a) (un u - low u a)) := fun h => by
    rw [identify_List.j0, if_pos rfl]
    have := List_j1 k u a (by omega)
    rw [h] at this
    rw [h]
    exact this
  unfold identify_List.f
  by_cases h1 : u < 0
  · rw [if_pos h1]
    exact hT (by unfold un; rw [if_pos (Or.inl h1)])
  · rw [if_neg h1]
    by_cases h2 : u > 256
    · rw [decide_eq_true h2]
      exact hT (by unfold un; rw [if_pos (Or.inr h2)])
    · have e : (un u : Int) = u := by unfold un; rw [if_neg (by omega)]; omega
      rw [decide_eq_false h2, identify_List.j0, if_neg (by decide)]
      have := List_j1 k u a (by omega)
      rw [e] at this
      exact this
theorem ref_List_l0 (u a : Int) : ∀ (d k i : Nat), i + d = un u → d + 30 ≤ k → headgateref26_List.l0 k (un u : Int) a (lp (low u a) (i - low u a)) ((4 * (i - low u a) : Nat) : Int) ((i + 1 : Nat) : Int) = some (lp (low u a) (un u - low u a)) := by
  have h1 := un_le u
  have h2 := low_le u a
  have h3 := low_eq u a
  intro d
  induction d with
  | zero =>
    intro k i hi hk
    obtain ⟨k, rfl⟩ : ∃ q, k = q + 1 := ⟨k - 1, by omega⟩
    rw [headgateref26_List.l0, if_neg (by omega), show i = un u by omega]
  | succ d ih =>
    intro k i hi hk
    obtain ⟨k, rfl⟩ : ∃ q, k = q + 1 := ⟨k - 1, by omega⟩
    have hi1 := ih k (i + 1) (by omega) (by omega)
    have hlt : ((i + 1 : Nat) : Int) ≤ (un u : Int) := by omega
    have e2 : wrap64 (((i + 1 : Nat) : Int) + 1) = ((i + 1 + 1 : Nat) : Int) := by rw [w64 (by omega) (by omega)]; omega
    rw [headgateref26_List.l0, if_pos hlt, e2]
    by_cases hc : ((i + 1 : Nat) : Int) ≤ a
    · have hl : i + 1 ≤ low u a := by
        unfold mn mx at h3
        split at h3 <;> split at h3 <;> omega
      rw [if_pos hc]
      rw [show i + 1 - low u a = 0 by omega] at hi1
      rw [show i - low u a = 0 by omega]
      exact hi1
    · have hl : low u a ≤ i := by
        unfold mn mx at h3
        split at h3 <;> split at h3 <;> omega
      obtain ⟨c, hcc⟩ : ∃ c, c = i - low u a := ⟨_, rfl⟩
      have e3 : i + 1 - low u a = c + 1 := by omega
      have ei : i + 1 = low u a + 1 + c := by omega
      have e4 : wrap64 (((4 * c : Nat) : Int) + 4) = ((4 * (c + 1) : Nat) : Int) := by rw [w64 (by omega) (by omega)]; omega
      have hN := ref_num_spec k (4 * c) 4 ((i + 1 : Nat) : Int) (lp (low u a) c) (lp_size _ _ (by omega)) (by omega) (by omega) (by omega) (by omega) (by omega)
      rw [show ((4 : Nat) : Int) = 4 from rfl] at hN
      rw [if_neg hc, ← hcc, hN, Option.bind_some, e4]
      rw [e3] at hi1
      have e5 : pg (lp (low u a) c) [num (4 * c) ((i + 1 : Nat) : Int) 4] = lp (low u a) (c + 1) := by
        rw [ei, lp_succ]
        show setAt (lp (low u a) c) ((4 * c : Nat) : Int).toNat _ = _
        rw [Int.toNat_natCast]
        rfl
      rw [e5]
      exact hi1
theorem ref_List_spec (k : Nat) (u a : Int) (hk : 310 ≤ k) : headgateref26_List.f k u a = some (lp (low u a) (un u - low u a)) := by
  obtain ⟨k, rfl⟩ : ∃ q, k = q + 2 := ⟨k - 2, by omega⟩
  have h1 := un_le u
  have hj : headgateref26_List.j1 (k + 1) (un u : Int) a zero = some (lp (low u a) (un u - low u a)) := by
    rw [headgateref26_List.j1]
    have := ref_List_l0 u a (un u) k 0 (by omega) (by omega)
    rw [Nat.zero_sub] at this
    exact this
  have hT : un u = 0 → headgateref26_List.j0 (k + 2) u a zero true = some (lp (low u a) (un u - low u a)) := fun h => by
    rw [headgateref26_List.j0, if_pos rfl]
    rw [h] at hj
    rw [h]
    exact hj
  unfold headgateref26_List.f
  rw [ref_page_spec, Option.bind_some]
  by_cases h1 : u < 0
  · rw [if_pos h1]
    exact hT (by unfold un; rw [if_pos (Or.inl h1)])
  · rw [if_neg h1]
    by_cases h2 : u > 256
    · rw [decide_eq_true h2]
      exact hT (by unfold un; rw [if_pos (Or.inr h2)])
    · have e : (un u : Int) = u := by unfold un; rw [if_neg (by omega)]; omega
      rw [decide_eq_false h2, headgateref26_List.j0, if_neg (by decide)]
      rw [e] at hj
      exact hj

/-! the page of a unit -/
def idOf (s : ByteArray) : ByteArray := s.extract 0 (min s.size 16)
theorem idOf_size (s : ByteArray) : (idOf s).size = min s.size 16 := by unfold idOf; rw [ByteArray.size_extract]; omega
def unitParts (n : Int) (s : ByteArray) : List S34 := [num 0 n 8, num 8 n 8, num 16 n 8, num 31 127 1, ⟨104, idOf s⟩, num 130 9 1]
theorem unit_fit (n : Int) (s : ByteArray) : ∀ p ∈ unitParts n s, fits p := by
  have hz := idOf_size s
  intro p hp
  unfold unitParts at hp
  simp only [List.mem_cons, List.not_mem_nil, or_false] at hp
  rcases hp with rfl | rfl | rfl | rfl | rfl | rfl
  · exact num_fits _ _ _ (by omega) (by omega)
  · exact num_fits _ _ _ (by omega) (by omega)
  · exact num_fits _ _ _ (by omega) (by omega)
  · exact num_fits _ _ _ (by omega) (by omega)
  · unfold fits
    dsimp only
    omega
  · exact num_fits _ _ _ (by omega) (by omega)
def up (n : Int) (s : ByteArray) : ByteArray := pg zero (unitParts n s)
theorem up_size (n : Int) (s : ByteArray) : (up n s).size = 4096 := pg_size _ _ zero_size (unit_fit n s)
theorem mx_bounds (b : Int) (h1 : b < 9223372036854775808) : 0 ≤ mx b 0 ∧ mx b 0 < 9223372036854775808 := by unfold mx; split <;> omega
theorem Unit_spec (k : Nat) (b : Int) (s : ByteArray) (h1 : b < 9223372036854775808) (hk : 30 ≤ k) : identify_Unit.f k b s = some (up (mx b 0) s) := by
  have hb := mx_bounds b h1
  have n0 := number_spec k 0 8 (mx b 0) hb.1 hb.2 (by omega) (by omega)
  have n1 := number_spec k 8 8 (mx b 0) hb.1 hb.2 (by omega) (by omega)
  have n2 := number_spec k 16 8 (mx b 0) hb.1 hb.2 (by omega) (by omega)
  have n3 := number_spec k 31 1 127 (by omega) (by omega) (by omega) (by omega)
  have n4 := number_spec k 130 1 9 (by omega) (by omega) (by omega) (by omega)
  have em : mn (s.size : Int) 16 = ((min s.size 16 : Nat) : Int) := by unfold mn; split <;> omega
  unfold identify_Unit.f
  rw [show ((0 : Nat) : Int) = 0 from rfl, show ((8 : Nat) : Int) = 8 from rfl] at n0
  rw [show ((8 : Nat) : Int) = 8 from rfl] at n1
  rw [show ((16 : Nat) : Int) = 16 from rfl, show ((8 : Nat) : Int) = 8 from rfl] at n2
  rw [show ((31 : Nat) : Int) = 31 from rfl, show ((1 : Nat) : Int) = 1 from rfl] at n3
  rw [show ((130 : Nat) : Int) = 130 from rfl, show ((1 : Nat) : Int) = 1 from rfl] at n4
  rw [n0, Option.bind_some, n1, Option.bind_some, n2, Option.bind_some, n3, Option.bind_some, em, if_pos (by omega), if_pos (by omega), n4, Option.bind_some, Int.toNat_natCast]
  have := page_spec (unitParts (mx b 0) s) (show 6 ≤ 100000 by decide) (unit_fit _ _)
  unfold unitParts idOf at this
  rw [this]
  rfl
theorem wakes_ok (k : Nat) (hk : 320 ≤ k) : headgatelaw26_wakes.f k = some true := by
  have e1 : un 3 = 3 := by decide
  have e2 : low 3 1 = 1 := by decide
  have z := lp_size 1 2 (by omega)
  have b0 := bt_lp 1 2 0 (by omega) (by omega)
  have b4 := bt_lp 1 2 4 (by omega) (by omega)
  have b8 := bt_lp 1 2 8 (by omega) (by omega)
  have c0 : (if 0 < 4 * 2 then ((1 + 1 + 0 / 4 : Nat) : Int) / p (0 % 4) % 256 else 0) = 2 := by decide
  have c4 : (if 4 < 4 * 2 then ((1 + 1 + 4 / 4 : Nat) : Int) / p (4 % 4) % 256 else 0) = 3 := by decide
  have c8 : (if 8 < 4 * 2 then ((1 + 1 + 8 / 4 : Nat) : Int) / p (8 % 4) % 256 else 0) = 0 := by decide
  rw [c0, show ((0 : Nat) : Int) = 0 from rfl] at b0
  rw [c4, show ((4 : Nat) : Int) = 4 from rfl] at b4
  rw [c8, show ((8 : Nat) : Int) = 8 from rfl] at b8
  have zu := up_size (mx 5 0) ⟨#[]⟩
  have u0 : bt (up (mx 5 0) ⟨#[]⟩) 0 = 5 := by
    have hz0 : (pg zero [num 0 (mx 5 0) 8]).size = 4096 := pg_size _ _ zero_size (fun q hq => by rw [List.mem_singleton.mp hq]; exact num_fits _ _ _ (by omega) (by omega))
    have step : ∀ (l : List S34) (t : ByteArray), t.size = 4096 → (∀ q ∈ l, fits q) → (∀ q ∈ l, 0 < q.f0) → bt (pg t l) 0 = bt t 0 := by
      intro l
      induction l with
      | nil => intro t _ _ _; rfl
      | cons q l ih =>
        intro t ht hf hp
        have hq := hf q List.mem_cons_self
        have hq0 := hp q List.mem_cons_self
        unfold fits at hq
        have h1 := ih (setAt t q.f0.toNat q.f1) (by rw [setAt_size _ _ _ (by omega)]; exact ht) (fun x hx => hf x (List.mem_cons_of_mem _ hx)) (fun x hx => hp x (List.mem_cons_of_mem _ hx))
        have h2 := bt_setAt t q.f1 q.f0.toNat 0 (by omega) (by omega)
        rw [if_neg (by omega), show ((0 : Nat) : Int) = 0 from rfl] at h2
        exact h1.trans h2
    have e : up (mx 5 0) ⟨#[]⟩ = pg (pg zero [num 0 (mx 5 0) 8]) [num 8 (mx 5 0) 8, num 16 (mx 5 0) 8, num 31 127 1, ⟨104, idOf ⟨#[]⟩⟩, num 130 9 1] := by
      unfold up unitParts
      exact pg_append zero [num 0 (mx 5 0) 8] _
    have hf := unit_fit (mx 5 0) ⟨#[]⟩
    unfold unitParts at hf
    have hp : ∀ q ∈ [num 8 (mx 5 0) 8, num 16 (mx 5 0) 8, num 31 127 1, (⟨104, idOf ⟨#[]⟩⟩ : S34), num 130 9 1], 0 < q.f0 := by
      intro q hq
      simp only [List.mem_cons, List.not_mem_nil, or_false] at hq
      rcases hq with h | h | h | h | h <;> rw [h] <;> first | exact (show (0 : Int) < ((_ : Nat) : Int) from Int.natCast_pos.mpr (by omega)) | exact (show (0 : Int) < 104 by omega)
    rw [e, step _ _ hz0 (fun q hq => hf q (List.mem_cons_of_mem _ hq)) hp]
    have h2 := bt_setAt zero (strOfNums (leL (mx 5 0) 8)) 0 0 (by rw [num_size, zero_size]; omega) (by rw [zero_size]; omega)
    rw [num_size, if_pos (by omega), bt_leL _ 8 (0 - 0) (by omega)] at h2
    exact h2.trans (by decide)
  unfold headgatelaw26_wakes.f
  rw [List_spec k 3 1 (by omega), Option.bind_some, e1, e2, show 3 - 1 = 2 from rfl, if_pos (by omega), if_pos (by omega), if_pos b0, if_pos (by omega), if_pos b4, if_pos (by omega), if_pos b8, Unit_spec k 5 _ (by omega) (by omega), Option.bind_some, if_pos (by omega), Option.bind_some, if_pos (by omega), u0]
  rfl
end Go.Proofs.Ytmfbmioooafelaa.Pure
