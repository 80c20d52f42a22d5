/- What a page says is read where it stands: blocks, Id, and the units that are listed, each once, in order. -/
import Derived.Test.YtmfbmioooafelaaPx4
import Derived.Test.YtmfbmioooafelaaRq
import Derived.Test.YtmfbmioooafelaaIdentLib
namespace Go.Proofs.Ytmfbmioooafelaa.Pure
open Go.RowKit Go.Proofs.Ytmfbmioooafelaa.P Go.Proofs.YtmfbmioooafelaaW.PrintWords Go.Proofs.YtmfbmioooafelaaW.PrintLast Go.Proofs.YtmfbmioooafelaaW.PrintMore Go.Proofs.Ytmfbmioooafelaa.Num
set_option linter.unusedVariables false
set_option linter.unusedSimpArgs false

theorem bt_pg_out : ∀ (l : List S34) (t : ByteArray) (i : Nat), t.size = 4096 → i < 4096 → (∀ q ∈ l, fits q) → (∀ q ∈ l, (i : Int) < q.f0 ∨ q.f0 + q.f1.size ≤ i) → bt (pg t l) (i : Int) = bt t (i : Int)
  | [], _, _, _, _, _, _ => rfl
  | q :: l, t, i, ht, hi, hf, hp => by
    have hq := hf q List.mem_cons_self
    have hq0 := hp q List.mem_cons_self
    unfold fits at hq
    have h1 := bt_pg_out l (setAt t q.f0.toNat q.f1) i (by rw [setAt_size _ _ _ (by omega)]; exact ht) hi (fun x hx => hf x (List.mem_cons_of_mem _ hx)) (fun x hx => hp x (List.mem_cons_of_mem _ hx))
    have h2 := bt_setAt t q.f1 q.f0.toNat i (by omega) (by omega)
    rw [if_neg (by omega)] at h2
    exact h1.trans h2
theorem nums_out (n : Int) (s : ByteArray) (i : Nat) (h : i < 8) : ∀ q ∈ [num 8 n 8, num 16 n 8, num 31 127 1, (⟨104, idOf s⟩ : S34), num 130 9 1], (i : Int) < q.f0 ∨ q.f0 + q.f1.size ≤ i := by
  intro q hq
  simp only [List.mem_cons, List.not_mem_nil, or_false] at hq
  have e8 : (num 8 n 8).f0 = 8 := rfl
  have e16 : (num 16 n 8).f0 = 16 := rfl
  have e31 : (num 31 127 1).f0 = 31 := rfl
  have e130 : (num 130 9 1).f0 = 130 := rfl
  rcases hq with h' | h' | h' | h' | h' <;> rw [h'] <;> left
  · rw [e8]; omega
  · rw [e16]; omega
  · rw [e31]; omega
  · dsimp only; omega
  · rw [e130]; omega
theorem up_low (n : Int) (s : ByteArray) (i : Nat) (h : i < 8) : bt (up n s) (i : Int) = n / p i % 256 := by
  have hz0 : (pg zero [num 0 n 8]).size = 4096 := pg_size _ _ zero_size (fun q hq => by rw [List.mem_singleton.mp hq]; exact num_fits _ _ _ (by omega) (by omega))
  have hf := unit_fit n s
  unfold up
  unfold unitParts at hf ⊢
  have e := pg_append zero [num 0 n 8] [num 8 n 8, num 16 n 8, num 31 127 1, (⟨104, idOf s⟩ : S34), num 130 9 1]
  have e' : pg zero [num 0 n 8, num 8 n 8, num 16 n 8, num 31 127 1, (⟨104, idOf s⟩ : S34), num 130 9 1] = pg (pg zero [num 0 n 8]) [num 8 n 8, num 16 n 8, num 31 127 1, (⟨104, idOf s⟩ : S34), num 130 9 1] := e
  rw [e', bt_pg_out _ _ i hz0 (by omega) (fun q hq => hf q (List.mem_cons_of_mem _ hq)) (nums_out n s i h)]
  have h2 := bt_setAt zero (strOfNums (leL n 8)) 0 i (by rw [num_size, zero_size]; omega) (by rw [zero_size]; omega)
  rw [num_size, if_pos (by omega), bt_leL _ 8 (i - 0) (by omega)] at h2
  exact h2
theorem ext_bt (a b : ByteArray) (hs : a.size = b.size) (h : ∀ i : Nat, i < a.size → bt a (i : Int) = bt b (i : Int)) : a = b := by
  apply ByteArray.ext_getElem hs
  intro i h1 h2
  have := h i h1
  rw [Num.bt_at a i h1, Num.bt_at b i h2] at this
  have e : (a.data.toList[i]'(by simpa using h1)).toNat = (b.data.toList[i]'(by simpa using h2)).toNat := by omega
  exact UInt8.toNat_inj.mp e
theorem up_id (n : Int) (s : ByteArray) (h : s.size = 16) : (up n s).extract 104 120 = s := by
  have hu := up_size n s
  have ei : idOf s = s := by unfold idOf; rw [show min s.size 16 = s.size by omega, ByteArray.extract_zero_size]
  have hf := unit_fit n s
  unfold unitParts at hf
  have hz1 : (pg zero [num 0 n 8, num 8 n 8, num 16 n 8, num 31 127 1]).size = 4096 := pg_size _ _ zero_size (fun q hq => by
    simp only [List.mem_cons, List.not_mem_nil, or_false] at hq
    rcases hq with h' | h' | h' | h' <;> rw [h'] <;> exact num_fits _ _ _ (by omega) (by omega))
  refine ext_bt _ _ (by rw [ByteArray.size_extract, hu]; omega) (fun i hi => ?_)
  have hi' : i < 16 := by rw [ByteArray.size_extract, hu] at hi; omega
  rw [bt_cut _ 104 120 i (by omega) (by omega)]
  have e : up n s = pg (pg zero [num 0 n 8, num 8 n 8, num 16 n 8, num 31 127 1]) [(⟨104, idOf s⟩ : S34), num 130 9 1] := by
    unfold up unitParts
    exact pg_append zero [num 0 n 8, num 8 n 8, num 16 n 8, num 31 127 1] [(⟨104, idOf s⟩ : S34), num 130 9 1]
  rw [e]
  clear e hf hu hi
  generalize pg zero [num 0 n 8, num 8 n 8, num 16 n 8, num 31 127 1] = t0 at hz1 ⊢
  show bt (setAt (setAt t0 104 (idOf s)) 130 (strOfNums (leL 9 1))) ((104 + i : Nat) : Int) = _
  have hz2 : (setAt t0 104 (idOf s)).size = 4096 := by rw [setAt_size _ _ _ (by rw [ei]; omega)]; exact hz1
  have hn1 : (strOfNums (leL 9 1)).size = 1 := num_size 9 1
  rw [bt_setAt _ _ _ _ (by omega) (by omega), if_neg (by omega), bt_setAt _ _ _ _ (by rw [ei]; omega) (by omega), if_pos (by rw [ei]; omega), ei]
  congr 1
  omega
theorem or_i64 (x y : Int) (i : Nat) (hx0 : 0 ≤ x) (hx : x % 2 ^ i = 0) (hx1 : x < 9223372036854775808) (hy0 : 0 ≤ y) (hy : y < 2 ^ i) (hi : (2 : Int) ^ i ≤ 9223372036854775808) : Go.bits .or .i64 x y = x + y :=
  bits_join .i64 63 (by decide) (fun n h0 h1 => by rw [IntKind.wrap_i64]; have : (2 : Int) ^ 63 = 9223372036854775808 := by decide
                                                   omega) i x y hx0 hx (by have : (2 : Int) ^ 63 = 9223372036854775808 := by decide
                                                                           omega) hy0 hy (by have : (2 : Int) ^ 63 = 9223372036854775808 := by decide
                                                                                             omega)
theorem read_blocks (k : Nat) (b u a : Int) (s l : ByteArray) (hb0 : 0 ≤ b) (hb : b < 9223372036854775808) (r : Option Bool)
    (h : ∀ k', k ≤ k' → headgatelaw26_IdentifyReads.l1 k' u (up b s) l b (mx a 0) 0 b s = r) : ∀ (d : Nat) (k' : Nat), d ≤ 8 → k + d + 1 ≤ k' → headgatelaw26_IdentifyReads.l0 k' u a (up b s) l (b / p d) ((d : Int) - 1) b s = r := by
  intro d
  induction d with
  | zero =>
    intro k' hd hk
    obtain ⟨k', rfl⟩ : ∃ q, k' = q + 1 := ⟨k' - 1, by omega⟩
    rw [headgatelaw26_IdentifyReads.l0, if_neg (by omega), p_zero, Int.ediv_one]
    exact h k' (by omega)
  | succ d ih =>
    intro k' hd hk
    obtain ⟨k', rfl⟩ : ∃ q, k' = q + 1 := ⟨k' - 1, by omega⟩
    have e0 : ((d + 1 : Nat) : Int) - 1 = (d : Int) := by omega
    have hu := up_size b s
    have hp := p_pos d
    have hq : 0 ≤ b / p d := Int.ediv_nonneg hb0 (by omega)
    have hq1 : b / p d ≤ b := Int.ediv_le_self _ hb0
    have ed : b / p (d + 1) = b / p d / 256 := by rw [p_succ, Int.ediv_ediv_of_nonneg (by omega)]
    have hbt := up_low b s d (by omega)
    have ih' := ih k' (by omega) (by omega)
    have w1 : wrap64 (b / p d / 256 * 256) = b / p d / 256 * 256 := w64 (by omega) (by omega)
    have w2 : wrap64 (b / p d % 256) = b / p d % 256 := w64 (by omega) (by omega)
    have w3 : wrap64 ((d : Int) - 1) = (d : Int) - 1 := w64 (by omega) (by omega)
    have eo : Go.bits .or .i64 (b / p d / 256 * 256) (b / p d % 256) = b / p d := by
      rw [or_i64 _ _ 8 (by omega) (show _ % 256 = 0 by omega) (by omega) (by omega) (show _ < 256 by omega) (by decide)]
      omega
    rw [e0, headgatelaw26_IdentifyReads.l0, if_pos (by omega), if_pos (by omega), if_pos (by omega), hbt, ed, w1, w2, eo, w3]
    exact ih'
theorem four (v : Int) (h0 : 0 ≤ v) (h1 : v ≤ 256) : Go.bits .or .i64 (Go.bits .or .i64 (Go.bits .or .i64 (wrap64 (v / p 0 % 256)) (wrap64 ((wrap64 (v / p 1 % 256)) * 256))) (wrap64 ((wrap64 (v / p 2 % 256)) * 65536))) (wrap64 ((wrap64 (v / p 3 % 256)) * 16777216)) = v := by
  have p1 : p 1 = 256 := by decide
  have p2 : p 2 = 65536 := by decide
  have p3 : p 3 = 16777216 := by decide
  rw [p_zero, p1, p2, p3, Int.ediv_one]
  have e2 : v / 65536 % 256 = 0 := by omega
  have e3 : v / 16777216 % 256 = 0 := by omega
  rw [e2, e3, w64 (n := v % 256) (by omega) (by omega), w64 (n := v / 256 % 256) (by omega) (by omega), w64 (n := v / 256 % 256 * 256) (by omega) (by omega), w64 (n := (0 : Int)) (by omega) (by omega), Int.zero_mul, Int.zero_mul, w64 (n := (0 : Int)) (by omega) (by omega)]
  have o1 : Go.bits .or .i64 (v % 256) (v / 256 % 256 * 256) = v := by
    rw [bor_comm, or_i64 _ _ 8 (by omega) (show _ % 256 = 0 by omega) (by omega) (by omega) (show _ < 256 by omega) (by decide)]
    omega
  have o2 : Go.bits .or .i64 v 0 = v := by
    rw [bor_comm, or_i64 _ _ 16 (by omega) (by omega) (by omega) (by omega) (show _ < 65536 by omega) (by decide)]
    omega
  rw [o1, o2, o2]
theorem lp_four (lo c i : Nat) (hc : c ≤ 256) (hi : i ≤ c) (hlo : lo + c ≤ 256) (q : Nat) (hq : q < 4) : bt (lp lo c) ((4 * i + q : Nat) : Int) = (if i < c then ((lo + 1 + i : Nat) : Int) else 0) / p q % 256 := by
  rw [bt_lp lo c (4 * i + q) hc (by omega)]
  have e1 : (4 * i + q) / 4 = i := by omega
  have e2 : (4 * i + q) % 4 = q := by omega
  rw [e1, e2]
  by_cases h : i < c
  · rw [if_pos (by omega), if_pos h]
  · rw [if_neg (by omega), if_neg h]
    simp
theorem wc (x : Int) (n : Nat) (h : x = (n : Int)) (hn : (n : Int) < 9223372036854775808) : wrap64 x = (n : Int) := by
  rw [h]
  exact w64 (by omega) hn
theorem read_list (b u a : Int) (s t l : ByteArray) (ht : t.size = 4096) (hid : t.extract 104 120 = s) (lo U : Nat) (M : Int) (hU : (U : Int) = u) (hU2 : U ≤ 256) (hle : lo ≤ U) (hlo : lo = U ∨ M = (lo : Int)) (hge : lo = U → u ≤ M) (hM0 : 0 ≤ M) (hM1 : M < 9223372036854775808) (hz : l.size = 4096)
    (f : ∀ i q : Nat, i ≤ U - lo → q < 4 → bt l ((4 * i + q : Nat) : Int) = (if i < U - lo then ((lo + 1 + i : Nat) : Int) else 0) / p q % 256) : ∀ (d k i : Nat), i + d = U - lo → d + 400 ≤ k →
    headgatelaw26_IdentifyReads.l1 k u t l b (M + (i : Int)) (i : Int) b s = some true := by
  intro d
  induction d with
  | zero =>
    intro k i hi hk
    obtain ⟨k, rfl⟩ : ∃ q, k = q + 1 := ⟨k - 1, by omega⟩
    have hic : i ≤ U - lo := by omega
    have hni : ¬ i < U - lo := by omega
    have q2 : M + (i : Int) ≥ u := by
      rcases hlo with h | h
      · have := hge h; omega
      · omega
    have z4 : (120 : Int) ≤ (t.size : Int) := by omega
    have wk := wakes_ok k (by omega)
    have q1 : (i : Int) < 1024 := by omega
    have r0 : (0 : Int) ≤ ((4 * i : Nat) : Int) := by omega
    have r1 : (0 : Int) ≤ ((4 * i + 1 : Nat) : Int) := by omega
    have r2 : (0 : Int) ≤ ((4 * i + 2 : Nat) : Int) := by omega
    have r3 : (0 : Int) ≤ ((4 * i + 3 : Nat) : Int) := by omega
    have z0 : ((4 * i : Nat) : Int) < (l.size : Int) := by omega
    have z1 : ((4 * i + 1 : Nat) : Int) < (l.size : Int) := by omega
    have z2 : ((4 * i + 2 : Nat) : Int) < (l.size : Int) := by omega
    have z3 : ((4 * i + 3 : Nat) : Int) < (l.size : Int) := by omega
    have o4 : 4 * (i : Int) = ((4 * i : Nat) : Int) := by omega
    have o5 : ((4 * i : Nat) : Int) + 1 = ((4 * i + 1 : Nat) : Int) := by omega
    have o6 : ((4 * i : Nat) : Int) + 2 = ((4 * i + 2 : Nat) : Int) := by omega
    have o7 : ((4 * i : Nat) : Int) + 3 = ((4 * i + 3 : Nat) : Int) := by omega
    have m7 : ((4 * i + 3 : Nat) : Int) < 9223372036854775808 := by omega
    have m6 : ((4 * i + 2 : Nat) : Int) < 9223372036854775808 := by omega
    have m5 : ((4 * i + 1 : Nat) : Int) < 9223372036854775808 := by omega
    have m4 : ((4 * i : Nat) : Int) < 9223372036854775808 := by omega
    have f0 := f i 0 hic (by decide)
    have f1 := f i 1 hic (by decide)
    have f2 := f i 2 hic (by decide)
    have f3 := f i 3 hic (by decide)
    rw [Nat.add_zero] at f0
    have w4 := wc _ _ o4 m4
    have w5 := wc _ _ o5 m5
    have w6 := wc _ _ o6 m6
    have w7 := wc _ _ o7 m7
    have hv := four 0 (by decide) (by decide)
    rw [if_neg hni] at f0 f1 f2 f3
    rw [headgatelaw26_IdentifyReads.l1, if_pos q1, w4, w5, w6, w7, if_pos r0, if_pos z0, if_pos r1, if_pos z1, if_pos r2, if_pos z2, if_pos r3, if_pos z3, f0, f1, f2, f3, hv, if_pos rfl, if_pos rfl, if_pos (by decide), if_pos z4, hid, if_pos rfl, if_pos q2, wk]
    rfl
  | succ d ih =>
    intro k i hi hk
    obtain ⟨k, rfl⟩ : ∃ q, k = q + 1 := ⟨k - 1, by omega⟩
    have hic : i ≤ U - lo := by omega
    have hni : i < U - lo := by omega
    have hMl : M = (lo : Int) := by omega
    have q2 : ¬ ((lo + 1 + i : Nat) : Int) = 0 := by omega
    have q3 : ¬ ((lo + 1 + i : Nat) : Int) > u := by omega
    have q4 : M + ((i + 1 : Nat) : Int) = ((lo + 1 + i : Nat) : Int) := by omega
    have v0 : (0 : Int) ≤ ((lo + 1 + i : Nat) : Int) := by omega
    have v1 : ((lo + 1 + i : Nat) : Int) ≤ 256 := by omega
    have o9 : M + (i : Int) + 1 = ((lo + 1 + i : Nat) : Int) := by omega
    have m9 : ((lo + 1 + i : Nat) : Int) < 9223372036854775808 := by omega
    have o8 : (i : Int) + 1 = ((i + 1 : Nat) : Int) := by omega
    have m8 : ((i + 1 : Nat) : Int) < 9223372036854775808 := by omega
    have j1 : i + 1 + d = U - lo := by omega
    have j2 : d + 400 ≤ k := by omega
    have q1 : (i : Int) < 1024 := by omega
    have r0 : (0 : Int) ≤ ((4 * i : Nat) : Int) := by omega
    have r1 : (0 : Int) ≤ ((4 * i + 1 : Nat) : Int) := by omega
    have r2 : (0 : Int) ≤ ((4 * i + 2 : Nat) : Int) := by omega
    have r3 : (0 : Int) ≤ ((4 * i + 3 : Nat) : Int) := by omega
    have z0 : ((4 * i : Nat) : Int) < (l.size : Int) := by omega
    have z1 : ((4 * i + 1 : Nat) : Int) < (l.size : Int) := by omega
    have z2 : ((4 * i + 2 : Nat) : Int) < (l.size : Int) := by omega
    have z3 : ((4 * i + 3 : Nat) : Int) < (l.size : Int) := by omega
    have o4 : 4 * (i : Int) = ((4 * i : Nat) : Int) := by omega
    have o5 : ((4 * i : Nat) : Int) + 1 = ((4 * i + 1 : Nat) : Int) := by omega
    have o6 : ((4 * i : Nat) : Int) + 2 = ((4 * i + 2 : Nat) : Int) := by omega
    have o7 : ((4 * i : Nat) : Int) + 3 = ((4 * i + 3 : Nat) : Int) := by omega
    have m7 : ((4 * i + 3 : Nat) : Int) < 9223372036854775808 := by omega
    have m6 : ((4 * i + 2 : Nat) : Int) < 9223372036854775808 := by omega
    have m5 : ((4 * i + 1 : Nat) : Int) < 9223372036854775808 := by omega
    have m4 : ((4 * i : Nat) : Int) < 9223372036854775808 := by omega
    have f0 := f i 0 hic (by decide)
    have f1 := f i 1 hic (by decide)
    have f2 := f i 2 hic (by decide)
    have f3 := f i 3 hic (by decide)
    rw [Nat.add_zero] at f0
    have w4 := wc _ _ o4 m4
    have w5 := wc _ _ o5 m5
    have w6 := wc _ _ o6 m6
    have w7 := wc _ _ o7 m7
    have w9 := wc _ _ o9 m9
    have w8 := wc _ _ o8 m8
    have ih' := ih k (i + 1) j1 j2
    rw [q4] at ih'
    have hv := four ((lo + 1 + i : Nat) : Int) v0 v1
    rw [if_pos hni] at f0 f1 f2 f3
    rw [headgatelaw26_IdentifyReads.l1, if_pos q1, w4, w5, w6, w7, if_pos r0, if_pos z0, if_pos r1, if_pos z1, if_pos r2, if_pos z2, if_pos r3, if_pos z3, f0, f1, f2, f3, hv, if_neg q2, w9, if_pos rfl, if_neg q3, w8]
    exact ih'

theorem IdentifyReads (x0 : S26) (x1 : Int) (x2 : Int) (h0 : Q26 x0) (h1 : (Lit.int .i64 x1).wf = true) (h2 : (Lit.int .i64 x2).wf = true) : ∃ k, headgatelaw26_IdentifyReads.f k x0.f0 x0.f1 x1 x2 = some true := by
  refine ⟨1000, ?_⟩
  have hb := bounds_i64 h0.1
  have hu := bounds_i64 h1
  have ha := bounds_i64 h2
  have hj : headgatelaw26_IdentifyReads.j0 1000 x1 x2 true x0.f0 x0.f1 = some true := by
    rw [headgatelaw26_IdentifyReads.j0, if_pos rfl, wakes_ok _ (by decide)]
    rfl
  unfold headgatelaw26_IdentifyReads.f
  by_cases c1 : (x0.f1.size : Int) = 16
  · rw [if_pos c1]
    by_cases c2 : x0.f0 < 0
    · rw [if_pos c2, hj]
    · rw [if_neg c2]
      by_cases c3 : x1 < 0
      · rw [if_pos c3, hj]
      · rw [if_neg c3]
        by_cases c4 : x1 > 256
        · rw [decide_eq_true c4, hj]
        · have em : mx x0.f0 0 = x0.f0 := by unfold mx; split <;> omega
          have c1' : x0.f1.size = 16 := by omega
          have hun : (un x1 : Int) = x1 := by unfold un; rw [if_neg (by omega)]; omega
          have hul := un_le x1
          have hle := low_le x1 x2
          have hlow := low_eq x1 x2
          have hm := mx_bounds x2 (by omega)
          have hlo : low x1 x2 = un x1 ∨ mx x2 0 = (low x1 x2 : Int) := by
            rw [hun] at hlow
            unfold mn at hlow
            split at hlow <;> omega
          have hge : low x1 x2 = un x1 → x1 ≤ mx x2 0 := by
            intro h
            rw [hun, h] at hlow
            unfold mn at hlow
            split at hlow <;> omega
          have hcc : un x1 - low x1 x2 ≤ 256 := by omega
          have hcl : low x1 x2 + (un x1 - low x1 x2) ≤ 256 := by omega
          have hz0 : 0 + (un x1 - low x1 x2) = un x1 - low x1 x2 := by omega
          have hk0 : ∀ k' : Nat, 900 ≤ k' → un x1 - low x1 x2 + 400 ≤ k' := fun k' h => by omega
          have hb0 : 0 ≤ x0.f0 := by omega
          have hb1 : x0.f0 < 9223372036854775808 := by omega
          have e8 : x0.f0 / p 8 = 0 := by rw [p8]; omega
          have hz := up_size x0.f0 x0.f1
          have hl := lp_size (low x1 x2) (un x1 - low x1 x2) hcc
          have hid := up_id x0.f0 x0.f1 c1'
          have hf := fun i q h1 h2 => lp_four (low x1 x2) (un x1 - low x1 x2) i hcc h1 hcl q h2
          have e1 : (((lp (low x1 x2) (un x1 - low x1 x2)).size : Int) != 4096) = false := bne_eq_false_iff_eq.mpr (by rw [hl]; rfl)
          have hR := read_blocks 900 x0.f0 x1 x2 x0.f1 (lp (low x1 x2) (un x1 - low x1 x2)) hb0 hb1 (some true) (fun k' hk' => by
            have := read_list x0.f0 x1 x2 x0.f1 (up x0.f0 x0.f1) (lp (low x1 x2) (un x1 - low x1 x2)) hz hid (low x1 x2) (un x1) (mx x2 0) hun hul hle hlo hge hm.1 hm.2 hl hf (un x1 - low x1 x2) k' 0 hz0 (hk0 k' hk')
            rw [show ((0 : Nat) : Int) = 0 from rfl, Int.add_zero] at this
            exact this) 8 998 (by omega) (by omega)
          rw [e8, show ((8 : Nat) : Int) - 1 = 7 from rfl] at hR
          rw [decide_eq_false c4, headgatelaw26_IdentifyReads.j0, if_neg (by decide), Unit_spec _ _ _ hb1 (by decide), Option.bind_some, List_spec _ _ _ (by decide), Option.bind_some, em, if_pos (by rw [hz]; rfl), e1, headgatelaw26_IdentifyReads.j1, if_neg (by decide)]
          exact hR
  · rw [if_neg c1, hj]

end Go.Proofs.Ytmfbmioooafelaa.Pure
