-- written by this session's patched copy of the printer (wip/tools/patch_print.py); Lean checks it
import Derived.Test.YtgphjijejoagcaaPx0
namespace Go.Proofs.Ytgphjijejoagcaa.P
open Go.RowKit Go.Proofs.YtgphjijejoagcaaW.PrintWords Go.Proofs.YtgphjijejoagcaaW.PrintLast Go.Proofs.YtgphjijejoagcaaW.PrintMore
attribute [local go_sem] max2_int min2_int max_two min_two max_three min_three max_four min_four   -- for this text's walks alone
set_option linter.unusedVariables false
set_option linter.unusedSimpArgs false

-- NOT PRINTED: function 21 (names_letters)

/-! ### names_Name: function 10 -/
def lo_ : Nat → Nat
  | 0 => 97 | 1 => 48 | 2 => 46 | 3 => 45 | _ => 58
def hi_ : Nat → Nat
  | 0 => 122 | 1 => 57 | 2 => 46 | 3 => 45 | _ => 58
def lit_ (k : Nat) : ByteArray := ⟨#[UInt8.ofNat (lo_ k), UInt8.ofNat (hi_ k)]⟩
/-- Which bytes are marked behind k texts. -/
def mark_ : Nat → Nat → Bool
  | 0, _ => false
  | k + 1, i => mark_ k i || decide (lo_ k ≤ i ∧ i < hi_ k + 1)
theorem lohi_ : ∀ k, k < 5 → 0 < lo_ k ∧ lo_ k ≤ hi_ k ∧ hi_ k < 256 := by decide
theorem lit_0 (k : Nat) (hk : k < 5) : ∀ h : 0 < (lit_ k).size, (((lit_ k)[0]'h).toNat : Int) = (lo_ k : Int) := by
  intro h
  have := lohi_ k hk
  show ((UInt8.ofNat (lo_ k)).toNat : Int) = _
  rw [UInt8.toNat_ofNat']
  omega
theorem lit_1 (k : Nat) (hk : k < 5) : ∀ h : 1 < (lit_ k).size, (((lit_ k)[1]'h).toNat : Int) = (hi_ k : Int) := by
  intro h
  have := lohi_ k hk
  show ((UInt8.ofNat (hi_ k)).toNat : Int) = _
  rw [UInt8.toNat_ofNat']
  omega
set_option maxHeartbeats 8000000 in
set_option maxRecDepth 100000 in
theorem names_letters.calls (w : World) : Calls Try.prog 21 #[] w fun e w' => ∃ g, e = .returned (.pointer (some ⟨g, 0, none⟩)) ∧ w.heap.size ≤ g ∧ w'.heap[g]? = some (.cells (rowN 256 (mark_ 5)) 38 (0, 0)) ∧ Below w.heap.size w w' := by
  have HB := Aside0.mk (Below.refl w.heap.size w)
  go_enter Try.func21, Try.ntmps21
  go_wp2_with (first
    | ((with_reducible refine gate_dst (N := 1) rfl ?_); refine box_event ?hg (N := 1) ?hd (cs := rowN 256 (fun _ => false)) (t := 38) ?hr ?_; (case hd => rfl); (case hg => rfl); (case hr => first | (kernel_rfl) | (go_simp; done) | (go_simp; rfl)); intro g hg w1 hbox hb; have GE := Aside0.mk (show w.heap.size ≤ g by rw [hg]; exact below_size HB.out); have n1_ := Aside0.mk (below_step HB.out hb); have BK := Aside0.mk hbox; clear HB; have HB := n1_; clear n1_ hb hbox hg)
    | ((with_reducible refine gate_dst (N := 5) rfl ?_); refine lit_event ?hg (N := 5) ?hd (cs := #[.string (lit_ 0), .string (lit_ 1), .string (lit_ 2), .string (lit_ 3), .string (lit_ 4)]) (t := 9) (n := 5) ?hr ?_; (case hd => rfl); (case hg => rfl); (case hr => first | (go_simp; done) | (go_simp; rfl)); intro gs hg w2 hbox hb; have NE := Aside0.mk (show g ≠ gs by rw [hg]; exact Nat.ne_of_lt (blk_lt BK.out)); have n1_ := Aside0.mk (below_step HB.out hb); have n2_ := Aside0.mk (blk_below BK.out hb); have BS := Aside0.mk hbox; clear HB BK; have HB := n1_; have BK := n2_; clear n1_ n2_ hb hbox hg))
  go_loopw [7] (fun kv wr => ∃ k : Nat, k ≤ 5 ∧ kv = .int .i64 k ∧ Aside0 (wr.heap[g]? = some (.cells (rowN 256 (mark_ k)) 38 (0, 0))) ∧ Aside0 (wr.heap[gs]? = some (.cells #[.string (lit_ 0), .string (lit_ 1), .string (lit_ 2), .string (lit_ 3), .string (lit_ 4)] 9 (0, 0))) ∧ Aside0 (Below w.heap.size w wr)) (fun kv _ => 5 - (intOf kv).toNat)
  case atStart => exact ⟨0, by omega, rfl, BK, BS, HB⟩
  case round =>
    clear HB BK BS
    obtain ⟨k, hk, rfl, BK, BS, HB⟩ := hrel
    obtain ⟨wo, hwo⟩ : ∃ wo : World, wo = wr := ⟨_, rfl⟩
    subst hwo
    by_cases hlt : k < 5
    · obtain ⟨lo, hlo⟩ : ∃ lo, lo = lo_ k := ⟨_, rfl⟩
      obtain ⟨hi, hhi⟩ : ∃ hi, hi = hi_ k := ⟨_, rfl⟩
      have hb := lohi_ k hlt
      have hx0 := lit_0 k hlt
      have hx1 := lit_1 k hlt
      have hz : (lit_ k).size = 2 := rfl
      have hcell : wo.cell? ⟨gs, k, none⟩ = some (.string (lit_ k)) := by
        rw [blk_cell BS.out k]
        match k, hlt with
        | 0, _ => rfl
        | 1, _ => rfl
        | 2, _ => rfl
        | 3, _ => rfl
        | 4, _ => rfl
      rw [← hlo, ← hhi] at hb
      rw [← hlo] at hx0
      rw [← hhi] at hx1
      have hmk : Aside0 (mark_ (k + 1) = fun i => mark_ k i || decide (lo ≤ i ∧ i < hi + 1)) := ⟨by rw [hlo, hhi]; rfl⟩
      obtain ⟨s, hs⟩ : ∃ s, s = lit_ k := ⟨_, rfl⟩
      rw [← hs] at hcell
      rw [← hs] at hz
      have hy0 : ∀ h : 0 < s.size, ((s[0]'h).toNat : Int) = (lo : Int) := by rw [hs]; exact hx0
      have hy1 : ∀ h : 1 < s.size, ((s[1]'h).toNat : Int) = (hi : Int) := by rw [hs]; exact hx1
      have hz0 : (0 < s.size) = True := eq_true (by omega)
      have hz1 : (1 < s.size) = True := eq_true (by omega)
      have hz2 : ((0 : Int) < (s.size : Int)) = True := eq_true (by omega)
      have hz3 : ((1 : Int) < (s.size : Int)) = True := eq_true (by omega)
      obtain ⟨hb1, hb2, hb3⟩ := hb
      clear hs hlo hhi hx0 hx1 hz
      go_wp2
      go_loopw [4] (fun cv wr => ∃ c : Nat, lo ≤ c ∧ c ≤ hi + 1 ∧ cv = .int .i64 c ∧ Aside0 (wr.heap[g]? = some (.cells (rowN 256 (fun i => mark_ k i || decide (lo ≤ i ∧ i < c))) 38 (0, 0))) ∧ Aside0 (wr.heap[gs]? = some (.cells #[.string (lit_ 0), .string (lit_ 1), .string (lit_ 2), .string (lit_ 3), .string (lit_ 4)] 9 (0, 0))) ∧ Aside0 (Below w.heap.size w wr)) (fun cv _ => hi + 1 - (intOf cv).toNat)
      case atStart =>
        refine ⟨lo, by omega, by omega, rfl, ⟨?_⟩, BS, HB⟩
        have e : (fun i => mark_ k i || decide (lo ≤ i ∧ i < lo)) = mark_ k := by
          funext i
          rw [decide_eq_false (by omega), Bool.or_false]
        rw [e]
        exact BK.out
      case round =>
        clear HB BK BS hcell
        obtain ⟨c, hc1, hc2, rfl, BK, BS, HB⟩ := hrel
        by_cases hcl : c < hi + 1
        · have hd : decide ((c : Int) ≤ (hi : Int)) = true := decide_eq_true (by omega)
          have hcc : wr.cell? ⟨g, c, none⟩ = some (.bool (mark_ k c || decide (lo ≤ c ∧ c < c))) := (blk_cell BK.out c).trans (rowN_get 256 _ c (by omega))
          have hcf := blk_frozen BK.out c
          have hc0 : (0 : Int) ≤ (c : Int) := by omega
          have hc256 : (c : Int) < 256 := by omega
          go_wp2
          go_roundw
          case rel =>
            refine ⟨c + 1, by omega, by omega, by go_num, ⟨?_⟩, ⟨blk_far BS.out (Ne.symm NE.out) _⟩, ⟨below_set HB.out GE.out⟩⟩
            refine blk_put BK.out c _ ?_
            rw [rowN_set 256 _ c (by omega)]
            congr 1
            funext i
            rw [Bool.or_assoc]
            congr 1
            rw [Bool.eq_iff_iff]
            simp
            omega
          case measure => simp [intOf]; omega
        · have hd : decide ((c : Int) ≤ (hi : Int)) = false := decide_eq_false (by omega)
          have hce : c = hi + 1 := by omega
          subst hce
          go_wp2
          go_roundw
          case rel => exact ⟨k + 1, by omega, by go_num, ⟨by rw [hmk.out]; exact BK.out⟩, BS, HB⟩
          case measure => simp [intOf]; omega
    · have hk5 : k = 5 := by omega
      subst hk5
      go_wp2
      go_ret
      exact ⟨g, rfl, GE.out, BK.out, HB.out⟩
/-- Is it a name? -/
def nameB (s : ByteArray) : Bool := decide (1 ≤ s.size ∧ s.size ≤ 64 ∧ 97 ≤ bt s 0 ∧ bt s 0 ≤ 122) && s.data.toList.all (fun c => mark_ 5 c.toNat)
def names_Name.f (a0 : ByteArray) : Option Bool := some (nameB a0)
set_option maxHeartbeats 8000000 in
set_option maxRecDepth 100000 in
theorem names_Name.calls (a0 : ByteArray) (r : Bool) (w : World) (h : names_Name.f a0 = some r) :
    Calls Try.prog 10 #[.string a0] w fun e w' => e = .returned (.bool r) ∧ Below w.heap.size w w' := by
  obtain rfl := Option.some.inj h
  clear h
  have HB := Aside0.mk (Below.refl w.heap.size w)
  by_cases h1 : a0.size < 1
  · have er : nameB a0 = false := by
      unfold nameB
      rw [decide_eq_false (by omega)]
      rfl
    rw [er]
    clear er
    have e0 : a0 = ByteArray.empty := ByteArray.ext (Array.eq_empty_of_size_eq_zero (show a0.size = 0 by omega))
    subst e0
    clear h1
    go_enter Try.func10, Try.ntmps10
    go_wp2
    go_ret
    exact ⟨rfl, HB.out⟩
  · have d1 : decide (a0.size < 1) = false := decide_eq_false h1
    have d2 : decide ((a0.size : Int) < 1) = false := decide_eq_false (by omega)
    have d3 : (a0 = ByteArray.empty) = False := eq_false (fun h_ => by rw [h_] at h1; exact h1 (by decide))
    by_cases h2 : a0.size > 64
    · have er : nameB a0 = false := by
        unfold nameB
        rw [decide_eq_false (by omega)]
        rfl
      rw [er]
      have d4 : decide (64 < a0.size) = true := decide_eq_true h2
      have d5 : decide ((64 : Int) < (a0.size : Int)) = true := decide_eq_true (by omega)
      clear er h1 h2
      go_enter Try.func10, Try.ntmps10
      go_wp2
      go_ret
      exact ⟨rfl, HB.out⟩
    · have d4 : decide (64 < a0.size) = false := decide_eq_false h2
      have d5 : decide ((64 : Int) < (a0.size : Int)) = false := decide_eq_false (by omega)
      have hx0 := bt_at a0 0
      have hx : ∀ h : 0 < a0.size, ((a0[0]'h).toNat : Int) = bt a0 0 := bt_at a0 0
      have z0 : (0 < a0.size) = True := eq_true (by omega)
      have z1 : ((0 : Int) < (a0.size : Int)) = True := eq_true (by omega)
      clear hx0
      have er0 := (rfl : nameB a0 = nameB a0)
      obtain ⟨b, hb⟩ : ∃ b, b = bt a0 0 := ⟨_, rfl⟩
      rw [← hb] at hx
      by_cases h3 : b < 97
      · have er : nameB a0 = false := by
          unfold nameB
          rw [decide_eq_false (by rw [← hb]; omega)]
          rfl
        rw [er]
        have d6 : decide (b < 97) = true := decide_eq_true h3
        clear er h1 h2 h3 hb er0
        go_enter Try.func10, Try.ntmps10
        go_wp2
        go_ret
        exact ⟨rfl, HB.out⟩
      · have d6 : decide (b < 97) = false := decide_eq_false h3
        by_cases h4 : b > 122
        · have er : nameB a0 = false := by
            unfold nameB
            rw [decide_eq_false (by rw [← hb]; omega)]
            rfl
          rw [er]
          have d7 : decide (122 < b) = true := decide_eq_true h4
          clear er h1 h2 h3 h4 hb er0
          go_enter Try.func10, Try.ntmps10
          go_wp2
          go_ret
          exact ⟨rfl, HB.out⟩
        · have d7 : decide (122 < b) = false := decide_eq_false h4
          have er : Aside0 (nameB a0 = a0.data.toList.all (fun c => mark_ 5 c.toNat)) := ⟨by
            unfold nameB
            rw [decide_eq_true (by rw [← hb]; omega)]
            rfl⟩
          have hsz : a0.data.toList.length = a0.size := rfl
          clear er0 hb h3 h4
          generalize hR : nameB a0 = R at er ⊢
          clear hR
          go_enter Try.func10, Try.ntmps10
          go_wp2_with (first
            | (go_at_call 21; refine (names_letters.calls _).mono ?_; rintro e w1 ⟨g, rfl, hge, hbk, hb⟩; have GE := Aside0.mk (show w.heap.size ≤ g from Nat.le_trans (below_size HB.out) hge); have n1_ := Aside0.mk (below_step HB.out hb); have BK := Aside0.mk hbk; clear HB; have HB := n1_; clear n1_ hb hbk hge))
          clear hx z0 z1
          go_loopw [26] (fun iv wr => ∃ k : Nat, k ≤ a0.size ∧ iv = .int .i64 k ∧ Aside0 ((a0.data.toList.drop k).all (fun c => mark_ 5 c.toNat) = R) ∧ Aside0 (wr.heap[g]? = some (.cells (rowN 256 (mark_ 5)) 38 (0, 0))) ∧ Aside0 (Below w.heap.size w wr)) (fun iv _ => a0.size - (intOf iv).toNat)
          case atStart => exact ⟨0, Nat.zero_le _, rfl, ⟨er.out.symm⟩, BK, HB⟩
          case round =>
            clear HB BK er
            obtain ⟨k, hk, rfl, er, BK, HB⟩ := hrel
            by_cases hlt : k < a0.size
            · have hl : k < a0.data.toList.length := hlt
              obtain ⟨c, hc⟩ : ∃ c : Nat, c = (a0[k]'hlt).toNat := ⟨_, rfl⟩
              have hc256 : c < 256 := by rw [hc]; exact (a0[k]'hlt).toNat_lt
              have hx : ∀ h : k < a0.size, ((a0[k]'h).toNat : Int) = (c : Int) := fun h => by rw [hc]
              have er2 : Aside0 ((mark_ 5 c && (a0.data.toList.drop (k + 1)).all (fun c => mark_ 5 c.toNat)) = R) := ⟨by
                have := er.out
                rw [List.drop_eq_getElem_cons hl, List.all_cons] at this
                rw [← this, hc]
                rfl⟩
              have hcell : wr.cell? ⟨g, c, none⟩ = some (.bool (mark_ 5 c)) := (blk_cell BK.out c).trans (rowN_get 256 _ c hc256)
              have k0 : (0 : Int) ≤ (k : Int) := Int.natCast_nonneg k
              have c0 : (0 : Int) ≤ (c : Int) := Int.natCast_nonneg c
              have c1 : (c : Int) < 256 := by omega
              have k1 : ((k : Int) < (a0.size : Int)) = True := eq_true (by omega)
              have k2 : (k < a0.size) = True := eq_true hlt
              clear hc er hc256 hl
              cases hm : mark_ 5 c
              · rw [hm] at hcell er2
                have er3 : R = false := er2.out.symm
                go_wp2
                go_quiet (fail)
                go_wp2
                go_ret
                exact ⟨by rw [er3]; rfl, pw_below_drewN HB.out _⟩
              · rw [hm] at hcell er2
                go_wp2
                go_quiet (fail)
                go_wp2
                go_roundw
                case rel => exact ⟨k + 1, by omega, by go_num, ⟨er2.out⟩, ⟨blk_drewN BK.out _⟩, ⟨pw_below_drewN HB.out _⟩⟩
                case measure => simp [intOf]; omega
            · have er3 : R = true := by
                have := er.out
                rw [List.drop_eq_nil_of_le (by omega)] at this
                exact this.symm
              go_wp2
              go_ret
              exact ⟨by rw [er3]; rfl, HB.out⟩

/-! ### stringslite_HasPrefix: function 28 -/
def stringslite_HasPrefix.f (a0 : ByteArray) (a1 : ByteArray) : Option (Bool) := if (a0.size : Int) ≥ (a1.size : Int) then (if 0 ≤ (a1.size : Int) then (if (a1.size : Int) ≤ (a0.size : Int) then (some ((a0.extract 0 ((a1.size : Int) : Int).toNat).toList == a1.toList)) else (none)) else (none)) else (some false)
set_option maxHeartbeats 8000000 in
set_option maxRecDepth 100000 in
theorem stringslite_HasPrefix.calls (a0 : ByteArray) (a1 : ByteArray) (r : Bool) (w : World) (h : stringslite_HasPrefix.f a0 a1 = some r) :
    Calls Try.prog 28 #[.string a0, .string a1] w fun e w' => e = .returned (.bool r) ∧ Drawn0 w w' := by
  have H : (if (a0.size : Int) ≥ (a1.size : Int) then (if 0 ≤ (a1.size : Int) then (if (a1.size : Int) ≤ (a0.size : Int) then (some ((a0.extract 0 ((a1.size : Int) : Int).toNat).toList == a1.toList)) else (none)) else (none)) else (some false)) = some r := h
  clear h
  by_cases c3 : (a0.size : Int) ≥ (a1.size : Int)
  · rw [if_pos c3] at H
    have c3b0 : decide ((a1.size : Int) ≤ (a0.size : Int)) = true := decide_eq_true c3
    have c3b1 : decide (a1.size ≤ a0.size) = true := decide_eq_true (Int.ofNat_le.mp c3)
    clear c3
    by_cases c4 : 0 ≤ (a1.size : Int)
    · rw [if_pos c4] at H
      have c4b0 := eq_true c4
      have c4b1 : decide (0 ≤ (a1.size : Int)) = true := decide_eq_true c4
      clear c4
      by_cases c5 : (a1.size : Int) ≤ (a0.size : Int)
      · rw [if_pos c5] at H
        have c5b0 := eq_true c5
        have c5b1 : decide ((a1.size : Int) ≤ (a0.size : Int)) = true := decide_eq_true c5
        clear c5
        obtain rfl := Option.some.inj H
        go_enter Try.func28, Try.ntmps28
        go_wp2
        go_ret
        exact ⟨by first | rfl | (simp; done) | (simp [*]; done), by repeat (first | exact Drawn0.refl _ | apply Drawn0.step)⟩
      · rw [if_neg c5] at H
        exact absurd H (by simp)
    · rw [if_neg c4] at H
      exact absurd H (by simp)
  · rw [if_neg c3] at H
    have c3b0 : decide ((a1.size : Int) ≤ (a0.size : Int)) = false := decide_eq_false c3
    have c3b1 : decide (a1.size ≤ a0.size) = false := decide_eq_false (fun h => c3 (Int.ofNat_le.mpr h))
    clear c3
    obtain rfl := Option.some.inj H
    go_enter Try.func28, Try.ntmps28
    go_wp2
    go_ret
    exact ⟨by first | rfl | (simp; done) | (simp [*]; done), by repeat (first | exact Drawn0.refl _ | apply Drawn0.step)⟩

/-! ### strings_HasPrefix: function 27 -/
def strings_HasPrefix.f (a0 : ByteArray) (a1 : ByteArray) : Option (Bool) := (stringslite_HasPrefix.f a0 a1).bind fun t101 => (some t101)
set_option maxHeartbeats 8000000 in
set_option maxRecDepth 100000 in
theorem strings_HasPrefix.calls (a0 : ByteArray) (a1 : ByteArray) (r : Bool) (w : World) (h : strings_HasPrefix.f a0 a1 = some r) :
    Calls Try.prog 27 #[.string a0, .string a1] w fun e w' => e = .returned (.bool r) ∧ Drawn0 w w' := by
  have H : ((stringslite_HasPrefix.f a0 a1).bind fun t101 => (some t101)) = some r := h
  clear h
  replace H := Option.bind_eq_some_iff.mp H
  obtain ⟨t101, A30, H⟩ := H
  replace H : (some t101) = some r := H
  have A3 := Aside0.mk A30
  clear A30
  obtain rfl := Option.some.inj H
  go_enter Try.func27, Try.ntmps27
  go_wp2_with (first | ((with_reducible refine gate_callee (f := 28) rfl ?_); refine goesL_ (some 7) rfl rfl Try.func28 (by kernel_rfl) rfl #[.string a0, .string a1] rfl (by (try simp only [List.map_toArray, List.map_cons, List.map_nil]); first | done | rfl | (simp only [List.length_drop, List.length_take]; rfl)) ?_; (with_reducible refine (stringslite_HasPrefix.calls a0 a1 t101 _ A3.out).mono ?_); rintro e w' ⟨rfl, ⟨nd, rfl⟩⟩; refine ⟨_, rfl, ?_⟩))
  go_ret
  exact ⟨by first | rfl | (simp; done) | (simp [*]; done), by repeat (first | exact Drawn0.refl _ | apply Drawn0.step)⟩

/-! ### names_dated: function 24 -/
/-- Is the byte behind the word right? -/
def good_ (s : ByteArray) (j : Nat) : Bool := if j = 4 then decide (bt s 8 = 45) else if j = 7 then decide (bt s 11 = 46) else decide (48 ≤ bt s ((4 + j : Nat) : Int) ∧ bt s ((4 + j : Nat) : Int) ≤ 57)
def month_ (s : ByteArray) : Int := (bt s 9 - 48) * 10 + (bt s 10 - 48)
/-- What is asked behind the word. -/
def restB (s : ByteArray) : Bool := (List.range 8).all (good_ s) && (decide (1 ≤ month_ s ∧ month_ s ≤ 12) && nameB (s.extract 12 s.size))
def names_dated.f (a0 : ByteArray) (a1 : ByteArray) : Option Bool :=
  if a1.size ≤ 100 then (if nameB a0 = true then (if 12 < a0.size then (strings_HasPrefix.f a0 (a1 ++ (⟨#[46]⟩ : ByteArray))).bind fun p => if p = true then some (restB a0) else some false else some false) else some false) else none
theorem name_le (s : ByteArray) (h : nameB s = true) : s.size ≤ 64 := by
  unfold nameB at h
  rw [Bool.and_eq_true] at h
  exact (of_decide_eq_true h.1).2.1
theorem all_range_take {f : Nat → Bool} {n m : Nat} (h : (List.range n).all f = false) (hm : n ≤ m) : (List.range m).all f = false := by
  rw [Bool.eq_false_iff] at h ⊢
  intro hh
  apply h
  rw [List.all_eq_true] at hh ⊢
  intro x hx
  exact hh x (List.mem_range.mpr (by have := List.mem_range.mp hx; omega))
def pat_ : ByteArray := ⟨#[100, 100, 100, 100, 45, 100, 100, 46]⟩
theorem pat_at : ∀ (pos : Nat) (h : pos < pat_.size), (pat_[pos]'h).toNat = if pos = 4 then 45 else if pos = 7 then 46 else 100
  | 0, _ => rfl | 1, _ => rfl | 2, _ => rfl | 3, _ => rfl | 4, _ => rfl | 5, _ => rfl | 6, _ => rfl | 7, _ => rfl
  | n + 8, h => absurd (show n + 8 < 8 from h) (by omega)
theorem restB_bad (s : ByteArray) (pos : Nat) (hp : pos < 8) (h : (List.range (pos + 1)).all (good_ s) = false) : restB s = false := by
  unfold restB
  rw [all_range_take h (by omega)]
  rfl
set_option maxHeartbeats 8000000 in
set_option maxRecDepth 100000 in
theorem names_dated.calls (a0 : ByteArray) (a1 : ByteArray) (r : Bool) (w : World) (h : names_dated.f a0 a1 = some r) :
    Calls Try.prog 24 #[.string a0, .string a1] w fun e w' => e = .returned (.bool r) ∧ Below w.heap.size w w' := by
  have HB := Aside0.mk (Below.refl w.heap.size w)
  unfold names_dated.f at h
  by_cases h0 : a1.size ≤ 100
  · rw [if_pos h0] at h
    have hc0 : a1.size + 1 ≤ 9223372036854775807 := by omega
    have hc1 := eq_true hc0
    have hc2 : decide (a1.size + 1 ≤ 9223372036854775807) = true := decide_eq_true hc0
    have hc3 : (9223372036854775807 < a1.size + 1) = False := eq_false (Nat.not_lt.2 hc0)
    by_cases h1 : nameB a0 = true
    · rw [if_pos h1] at h
      have h64 := name_le a0 h1
      have HN : names_Name.f a0 = some true := congrArg some h1
      by_cases h2 : 12 < a0.size
      · rw [if_pos h2] at h
        have d2 : decide (a0.size ≤ 12) = false := decide_eq_false (by omega)
        have d3 : decide ((a0.size : Int) ≤ 12) = false := decide_eq_false (by omega)
        replace h := Option.bind_eq_some_iff.mp h
        obtain ⟨p, hp, h⟩ := h
        cases p
        · rw [if_neg (by decide)] at h
          obtain rfl := Option.some.inj h
          clear h h1
          have HN' := Aside0.mk HN
          have HP := Aside0.mk hp
          clear HN hp h2 h64 h0
          go_enter Try.func24, Try.ntmps24
          go_wp2_with (first
            | (go_at_call 10; refine (names_Name.calls a0 true _ HN'.out).mono ?_; rintro e w1 ⟨rfl, hb⟩; have n1_ := Aside0.mk (below_step HB.out hb); clear HB hb; have HB := n1_; clear n1_)
            | (go_at_call 27; refine (strings_HasPrefix.calls a0 (a1 ++ (⟨#[46]⟩ : ByteArray)) false _ HP.out).mono ?_; rintro e w2 ⟨rfl, ⟨nd, rfl⟩⟩; have n1_ := Aside0.mk (pw_below_drewN HB.out nd); clear HB; have HB := n1_; clear n1_))
          go_ret
          exact ⟨rfl, HB.out⟩
        · rw [if_pos rfl] at h
          obtain rfl := Option.some.inj h
          clear h h1
          have HN' := Aside0.mk HN
          have HP := Aside0.mk hp
          clear HN hp h0
          obtain ⟨R, hR⟩ : ∃ R, R = restB a0 := ⟨_, rfl⟩
          rw [← hR]
          replace hR := Aside0.mk hR
          have hps : pat_.size = 8 := rfl
          obtain ⟨pt, hpt⟩ : ∃ pt, pt = pat_ := ⟨_, rfl⟩
          go_enter Try.func24, Try.ntmps24
          go_wp2_with (first
            | (go_at_call 10; refine (names_Name.calls a0 true _ HN'.out).mono ?_; rintro e w1 ⟨rfl, hb⟩; have n1_ := Aside0.mk (below_step HB.out hb); clear HB hb; have HB := n1_; clear n1_)
            | (go_at_call 27; refine (strings_HasPrefix.calls a0 (a1 ++ (⟨#[46]⟩ : ByteArray)) true _ HP.out).mono ?_; rintro e w2 ⟨rfl, ⟨nd, hnd⟩⟩; have n1_ := Aside0.mk (show Below w.heap.size w w2 by rw [hnd]; exact pw_below_drewN HB.out nd); clear HB hnd; have HB := n1_; clear n1_))
          have hbd : ∀ i : Int, 0 ≤ bt a0 i ∧ bt a0 i < 256 := fun i => by
            unfold bt
            split
            · rename_i hh
              have := (a0[i.toNat]'hh).toNat_lt
              omega
            · omega
          have hl12 : 12 < a0.size := h2
          clear h2
          go_loopw [5] (fun _ wr => ∃ pos : Nat, pos ≤ 8 ∧ wr = w2.iter pat_ pos ∧ Aside0 ((List.range pos).all (good_ a0) = true)) (fun _ wr => 8 - wr.iterPos w2.heap.size)
          case atStart => exact ⟨0, by omega, rfl, ⟨rfl⟩⟩
          case round =>
            obtain ⟨pos, hpos, rfl, HG⟩ := hrel
            by_cases hlt : pos < 8
            · have hxg : ∀ (j : Nat), 4 + j < a0.size → ∀ h : 4 + j < a0.size, ((a0[4 + j]'h).toNat : Int) = bt a0 ((4 + j : Nat) : Int) := fun j hj h => by
                unfold bt
                rw [dif_pos (show (((4 + j : Nat) : Int)).toNat < a0.size by rw [Int.toNat_natCast]; exact h)]
                rfl
              have hgs : (List.range (pos + 1)).all (good_ a0) = good_ a0 pos := by
                rw [List.range_succ, List.all_append, HG.out]
                simp
              have hx := hxg pos (by omega)
              obtain ⟨x, hxx⟩ : ∃ x, x = bt a0 ((4 + pos : Nat) : Int) := ⟨_, rfl⟩
              have hxb := hbd ((4 + pos : Nat) : Int)
              rw [← hxx] at hx hxb
              obtain ⟨hxb0, hxb1⟩ := hxb
              have hpa := pat_at pos hlt
              have hq : (4 + pos < a0.size) = True := eq_true (by omega)
              have hq2 : ((4 : Int) + (pos : Int) < (a0.size : Int)) = True := eq_true (by omega)
              have hq3 : (0 : Int) ≤ 4 + (pos : Int) := by omega
              have hq4 : ((4 : Int) + (pos : Int)).toNat = 4 + pos := by omega
              have hq5 : IntKind.i64.wrap (4 + (pos : Int)) = 4 + (pos : Int) := by rw [IntKind.wrap_i64]; omega
              by_cases p4 : pos = 4
              · rw [if_pos p4] at hpa
                have hn := run_next_ascii (P := Try.prog) w2 pat_ pos 0 hlt (by omega)
                rw [hpa] at hn
                have hn' : (Instr.next (.pointer (some ⟨w2.heap.size, 0, none⟩)) true 0).run Try.prog (w2.iter pat_ pos) = .ok (.tuple #[.bool true, .int .i64 (pos : Int), .int .i32 45]) (w2.iter pat_ (pos + 1)) := hn
                have hgd : good_ a0 pos = decide (x = 45) := by
                  unfold good_
                  rw [if_pos p4, hxx, p4]
                  rfl
                rw [hgd] at hgs
                clear hpa hn p4 hgd hxx hxg
                by_cases hok : x = 45
                · have t1 : (x == 45) = true := beq_iff_eq.mpr hok
                  have t2 : (x != 45) = false := bne_eq_false_iff_eq.mpr hok
                  rw [decide_eq_true hok] at hgs
                  have HG' := Aside0.mk hgs
                  clear hok hgs HG
                  go_wp2
                  go_roundw
                  case rel => exact ⟨pos + 1, by omega, rfl, HG'⟩
                  case measure => simp; omega
                · have t1 : (x == 45) = false := beq_eq_false_iff_ne.mpr hok
                  have t2 : (x != 45) = true := bne_iff_ne.mpr hok
                  rw [decide_eq_false hok] at hgs
                  have er3 : R = false := hR.out.trans (restB_bad a0 pos hlt hgs)
                  clear hok hgs HG
                  go_wp2
                  go_ret
                  exact ⟨by rw [er3]; rfl, below_alloc HB.out _⟩
              · rw [if_neg p4] at hpa
                by_cases p7 : pos = 7
                · rw [if_pos p7] at hpa
                  have hn := run_next_ascii (P := Try.prog) w2 pat_ pos 0 hlt (by omega)
                  rw [hpa] at hn
                  have hn' : (Instr.next (.pointer (some ⟨w2.heap.size, 0, none⟩)) true 0).run Try.prog (w2.iter pat_ pos) = .ok (.tuple #[.bool true, .int .i64 (pos : Int), .int .i32 46]) (w2.iter pat_ (pos + 1)) := hn
                  have hgd : good_ a0 pos = decide (x = 46) := by
                    unfold good_
                    rw [if_neg p4, if_pos p7, hxx, p7]
                    rfl
                  rw [hgd] at hgs
                  clear hpa hn p4 p7 hgd hxx hxg
                  by_cases hok : x = 46
                  · have t1 : (x == 46) = true := beq_iff_eq.mpr hok
                    have t2 : (x != 46) = false := bne_eq_false_iff_eq.mpr hok
                    rw [decide_eq_true hok] at hgs
                    have HG' := Aside0.mk hgs
                    clear hok hgs HG
                    go_wp2
                    go_roundw
                    case rel => exact ⟨pos + 1, by omega, rfl, HG'⟩
                    case measure => simp; omega
                  · have t1 : (x == 46) = false := beq_eq_false_iff_ne.mpr hok
                    have t2 : (x != 46) = true := bne_iff_ne.mpr hok
                    rw [decide_eq_false hok] at hgs
                    have er3 : R = false := hR.out.trans (restB_bad a0 pos hlt hgs)
                    clear hok hgs HG
                    go_wp2
                    go_ret
                    exact ⟨by rw [er3]; rfl, below_alloc HB.out _⟩
                · rw [if_neg p7] at hpa
                  have hn := run_next_ascii (P := Try.prog) w2 pat_ pos 0 hlt (by omega)
                  rw [hpa] at hn
                  have hn' : (Instr.next (.pointer (some ⟨w2.heap.size, 0, none⟩)) true 0).run Try.prog (w2.iter pat_ pos) = .ok (.tuple #[.bool true, .int .i64 (pos : Int), .int .i32 100]) (w2.iter pat_ (pos + 1)) := hn
                  have hgd : good_ a0 pos = decide (48 ≤ x ∧ x ≤ 57) := by
                    unfold good_
                    rw [if_neg p4, if_neg p7, hxx]
                  rw [hgd] at hgs
                  clear hpa hn p4 p7 hgd hxx hxg
                  by_cases hlo : x < 48
                  · have t1 : decide (x < 48) = true := decide_eq_true hlo
                    rw [decide_eq_false (by omega)] at hgs
                    have er3 : R = false := hR.out.trans (restB_bad a0 pos hlt hgs)
                    clear hlo hgs HG
                    go_wp2
                    go_ret
                    exact ⟨by rw [er3]; rfl, below_alloc HB.out _⟩
                  · have t1 : decide (x < 48) = false := decide_eq_false hlo
                    by_cases hhi : x > 57
                    · have t2 : decide (57 < x) = true := decide_eq_true hhi
                      rw [decide_eq_false (by omega)] at hgs
                      have er3 : R = false := hR.out.trans (restB_bad a0 pos hlt hgs)
                      clear hlo hhi hgs HG
                      go_wp2
                      go_ret
                      exact ⟨by rw [er3]; rfl, below_alloc HB.out _⟩
                    · have t2 : decide (57 < x) = false := decide_eq_false hhi
                      rw [decide_eq_true (by omega)] at hgs
                      have HG' := Aside0.mk hgs
                      clear hlo hhi hgs HG
                      go_wp2
                      go_roundw
                      case rel => exact ⟨pos + 1, by omega, rfl, HG'⟩
                      case measure => simp; omega
            · have hp8 : pos = 8 := by omega
              subst hp8
              have hn := run_next_end (P := Try.prog) w2 pat_ 8 0 (by decide)
              have hall := HG.out
              have g5 : good_ a0 5 = true := List.all_eq_true.mp hall 5 (by decide)
              have g6 : good_ a0 6 = true := List.all_eq_true.mp hall 6 (by decide)
              have g5' : 48 ≤ bt a0 9 ∧ bt a0 9 ≤ 57 := of_decide_eq_true (show decide (48 ≤ bt a0 9 ∧ bt a0 9 ≤ 57) = true from g5)
              have g6' : 48 ≤ bt a0 10 ∧ bt a0 10 ≤ 57 := of_decide_eq_true (show decide (48 ≤ bt a0 10 ∧ bt a0 10 ≤ 57) = true from g6)
              have hr : Aside0 (R = (decide (1 ≤ month_ a0 ∧ month_ a0 ≤ 12) && nameB (a0.extract 12 a0.size))) := ⟨by
                rw [hR.out]
                unfold restB
                rw [hall]
                rfl⟩
              have hx9 : ∀ h : 9 < a0.size, ((a0[9]'h).toNat : Int) = bt a0 9 := bt_at a0 9
              have hx10 : ∀ h : 10 < a0.size, ((a0[10]'h).toNat : Int) = bt a0 10 := bt_at a0 10
              have hq9 : (9 < a0.size) = True := eq_true (by omega)
              have hq10 : (10 < a0.size) = True := eq_true (by omega)
              have hz9 : ((9 : Int) < (a0.size : Int)) = True := eq_true (by omega)
              have hz10 : ((10 : Int) < (a0.size : Int)) = True := eq_true (by omega)
              have hmo : month_ a0 = (bt a0 9 - 48) * 10 + (bt a0 10 - 48) := rfl
              rw [hmo] at hr
              generalize bt a0 9 = u at *
              generalize bt a0 10 = v at *
              obtain ⟨hu0, hu1⟩ := g5'
              obtain ⟨hv0, hv1⟩ := g6'
              clear g5 g6 hall HG hmo hR hbd
              by_cases m1 : 1 ≤ (u - 48) * 10 + (v - 48)
              · have t1 : decide ((1 : Int) ≤ (u - 48) * 10 + (v - 48)) = true := decide_eq_true m1
                by_cases m2 : (u - 48) * 10 + (v - 48) ≤ 12
                · have t2 : decide ((u - 48) * 10 + (v - 48) ≤ (12 : Int)) = true := decide_eq_true m2
                  have er3 : R = nameB (a0.extract 12 a0.size) := by rw [hr.out, decide_eq_true ⟨m1, m2⟩]; rfl
                  have HM : Aside0 (names_Name.f (a0.extract 12 a0.size) = some R) := ⟨by rw [er3]; rfl⟩
                  have hs12 : (12 : Int) ≤ (a0.size : Int) := by omega
                  clear hr er3
                  go_wp2
                  go_quiet (fail)
                  have HB3 : Aside0 (Below w.heap.size w ((w2.iter pat_ 8).drewN nq)) := ⟨pw_below_drewN (below_alloc HB.out _) nq⟩
                  clear HB hn
                  generalize ((w2.iter pat_ 8).drewN nq) = w3 at HB3 ⊢
                  go_wp2_with (first
                    | (go_at_call 10; refine (names_Name.calls (a0.extract 12 a0.size) R _ HM.out).mono ?_; rintro e w4 ⟨rfl, hb⟩; have n1_ := Aside0.mk (below_step HB3.out hb); clear HB3 hb; have HB3 := n1_; clear n1_))
                  go_ret
                  exact ⟨rfl, HB3.out⟩
                · have t2 : decide ((u - 48) * 10 + (v - 48) ≤ (12 : Int)) = false := decide_eq_false m2
                  have er3 : R = false := by rw [hr.out, decide_eq_false (fun z => m2 z.2)]; rfl
                  clear hr
                  go_wp2
                  go_quiet (fail)
                  go_wp2
                  go_ret
                  exact ⟨by rw [er3]; rfl, pw_below_drewN (below_alloc HB.out _) _⟩
              · have t1 : decide ((1 : Int) ≤ (u - 48) * 10 + (v - 48)) = false := decide_eq_false m1
                have er3 : R = false := by rw [hr.out, decide_eq_false (fun z => m1 z.1)]; rfl
                clear hr
                go_wp2
                go_quiet (fail)
                go_wp2
                go_ret
                exact ⟨by rw [er3]; rfl, pw_below_drewN (below_alloc HB.out _) _⟩
      · rw [if_neg h2] at h
        obtain rfl := Option.some.inj h
        have d2 : decide (a0.size ≤ 12) = true := decide_eq_true (by omega)
        have d3 : decide ((a0.size : Int) ≤ 12) = true := decide_eq_true (by omega)
        have HN' := Aside0.mk HN
        clear HN h h1 h0 h2 h64
        go_enter Try.func24, Try.ntmps24
        go_wp2_with (first
          | (go_at_call 10; refine (names_Name.calls a0 true _ HN'.out).mono ?_; rintro e w1 ⟨rfl, hb⟩; have n1_ := Aside0.mk (below_step HB.out hb); clear HB hb; have HB := n1_; clear n1_))
        go_ret
        exact ⟨rfl, HB.out⟩
    · rw [if_neg h1] at h
      obtain rfl := Option.some.inj h
      have HN : names_Name.f a0 = some false := congrArg some (by simpa using h1)
      have HN' := Aside0.mk HN
      clear HN h h1 h0
      go_enter Try.func24, Try.ntmps24
      go_wp2_with (first
        | (go_at_call 10; refine (names_Name.calls a0 false _ HN'.out).mono ?_; rintro e w1 ⟨rfl, hb⟩; have n1_ := Aside0.mk (below_step HB.out hb); clear HB hb; have HB := n1_; clear n1_))
      go_ret
      exact ⟨rfl, HB.out⟩
  · rw [if_neg h0] at h
    exact absurd h (by simp)

/-! ### names_Iqn: function 12 -/
def names_Iqn.f (a0 : ByteArray) : Option (Bool) := (names_dated.f a0 (⟨#[105, 113, 110]⟩ : ByteArray)).bind fun t102 => (some t102)
set_option maxHeartbeats 8000000 in
set_option maxRecDepth 100000 in
theorem names_Iqn.calls (a0 : ByteArray) (r : Bool) (w : World) (h : names_Iqn.f a0 = some r) :
    Calls Try.prog 12 #[.string a0] w fun e w' => e = .returned (.bool r) ∧ Below w.heap.size w w' := by
  have HB := Aside0.mk (Below.refl w.heap.size w)
  have H : ((names_dated.f a0 (⟨#[105, 113, 110]⟩ : ByteArray)).bind fun t102 => (some t102)) = some r := h
  clear h
  replace H := Option.bind_eq_some_iff.mp H
  obtain ⟨t102, A20, H⟩ := H
  replace H : (some t102) = some r := H
  have A2 := Aside0.mk A20
  clear A20
  obtain rfl := Option.some.inj H
  go_enter Try.func12, Try.ntmps12
  go_wp2_with (first | ((with_reducible refine gate_callee (f := 24) rfl ?_); refine goesL_ (some 4) rfl rfl Try.func24 (by kernel_rfl) rfl #[.string a0, .string (⟨#[105, 113, 110]⟩ : ByteArray)] rfl (by (try simp only [List.map_toArray, List.map_cons, List.map_nil]); first | done | rfl | (simp only [List.length_drop, List.length_take]; rfl)) ?_; (with_reducible refine (names_dated.calls a0 (⟨#[105, 113, 110]⟩ : ByteArray) t102 _ A2.out).mono ?_); rintro e w3 ⟨rfl, hb⟩; refine ⟨_, rfl, ?_⟩; have n0_ := Aside0.mk (below_step (by repeat (first | (with_reducible first | exact HB.out | apply below_alloc | apply pw_below_drewN | apply below_drew1) | exact HB.out)) hb); clear HB; have HB := n0_; clear n0_; (try clear hb); (try clear hb2); (try clear hk); (try clear hi)))
  go_ret
  exact ⟨by first | rfl | (simp [errW_none, errW_some] <;> rfl) | (simp [*, errW_none, errW_some] <;> rfl) | (simp [bt, *]; done) | (unfold bt; simp [*]; done), by repeat (first | (with_reducible first | exact HB.out | apply below_alloc | apply pw_below_drewN | apply below_drew1) | exact HB.out)⟩

/-! ### names_Nqn: function 14 -/
def names_Nqn.f (a0 : ByteArray) : Option (Bool) := (names_dated.f a0 (⟨#[110, 113, 110]⟩ : ByteArray)).bind fun t103 => (some t103)
set_option maxHeartbeats 8000000 in
set_option maxRecDepth 100000 in
theorem names_Nqn.calls (a0 : ByteArray) (r : Bool) (w : World) (h : names_Nqn.f a0 = some r) :
    Calls Try.prog 14 #[.string a0] w fun e w' => e = .returned (.bool r) ∧ Below w.heap.size w w' := by
  have HB := Aside0.mk (Below.refl w.heap.size w)
  have H : ((names_dated.f a0 (⟨#[110, 113, 110]⟩ : ByteArray)).bind fun t103 => (some t103)) = some r := h
  clear h
  replace H := Option.bind_eq_some_iff.mp H
  obtain ⟨t103, A20, H⟩ := H
  replace H : (some t103) = some r := H
  have A2 := Aside0.mk A20
  clear A20
  obtain rfl := Option.some.inj H
  go_enter Try.func14, Try.ntmps14
  go_wp2_with (first | ((with_reducible refine gate_callee (f := 24) rfl ?_); refine goesL_ (some 4) rfl rfl Try.func24 (by kernel_rfl) rfl #[.string a0, .string (⟨#[110, 113, 110]⟩ : ByteArray)] rfl (by (try simp only [List.map_toArray, List.map_cons, List.map_nil]); first | done | rfl | (simp only [List.length_drop, List.length_take]; rfl)) ?_; (with_reducible refine (names_dated.calls a0 (⟨#[110, 113, 110]⟩ : ByteArray) t103 _ A2.out).mono ?_); rintro e w3 ⟨rfl, hb⟩; refine ⟨_, rfl, ?_⟩; have n0_ := Aside0.mk (below_step (by repeat (first | (with_reducible first | exact HB.out | apply below_alloc | apply pw_below_drewN | apply below_drew1) | exact HB.out)) hb); clear HB; have HB := n0_; clear n0_; (try clear hb); (try clear hb2); (try clear hk); (try clear hi)))
  go_ret
  exact ⟨by first | rfl | (simp [errW_none, errW_some] <;> rfl) | (simp [*, errW_none, errW_some] <;> rfl) | (simp [bt, *]; done) | (unfold bt; simp [*]; done), by repeat (first | (with_reducible first | exact HB.out | apply below_alloc | apply pw_below_drewN | apply below_drew1) | exact HB.out)⟩

/-! ### names_Host: function 8 -/
def names_Host.f (a0 : ByteArray) : Option (ByteArray × Int) := (names_Iqn.f a0).bind fun t104 => (if t104 = true then (if 12 ≤ (a0.size : Int) then (some (a0.extract 12 a0.size, 0)) else (none)) else ((names_Nqn.f a0).bind fun t105 => (if t105 = true then (if 12 ≤ (a0.size : Int) then (some (a0.extract 12 a0.size, 0)) else (none)) else (some ((⟨#[]⟩ : ByteArray), 30)))))
set_option maxHeartbeats 8000000 in
set_option maxRecDepth 100000 in
theorem names_Host.calls (a0 : ByteArray) (r1 : ByteArray) (r2 : Int) (w : World) (h : names_Host.f a0 = some (r1, r2)) :
    Calls Try.prog 8 #[.string a0] w fun e w' => e = .returned (.tuple #[.string r1, .int .i64 r2]) ∧ Below w.heap.size w w' := by
  have HB := Aside0.mk (Below.refl w.heap.size w)
  have H : ((names_Iqn.f a0).bind fun t104 => (if t104 = true then (if 12 ≤ (a0.size : Int) then (some (a0.extract 12 a0.size, 0)) else (none)) else ((names_Nqn.f a0).bind fun t105 => (if t105 = true then (if 12 ≤ (a0.size : Int) then (some (a0.extract 12 a0.size, 0)) else (none)) else (some ((⟨#[]⟩ : ByteArray), 30)))))) = some (r1, r2) := h
  clear h
  replace H := Option.bind_eq_some_iff.mp H
  obtain ⟨t104, A20, H⟩ := H
  replace H : (if t104 = true then (if 12 ≤ (a0.size : Int) then (some (a0.extract 12 a0.size, 0)) else (none)) else ((names_Nqn.f a0).bind fun t105 => (if t105 = true then (if 12 ≤ (a0.size : Int) then (some (a0.extract 12 a0.size, 0)) else (none)) else (some ((⟨#[]⟩ : ByteArray), 30))))) = some (r1, r2) := H
  have A2 := Aside0.mk A20
  clear A20
  by_cases c3 : t104 = true
  · subst c3
    have H1 : (if 12 ≤ (a0.size : Int) then (some (a0.extract 12 a0.size, 0)) else (none)) = some (r1, r2) := by rw [if_pos rfl] at H; exact H
    clear H
    have H := H1
    clear H1
    by_cases c4 : 12 ≤ (a0.size : Int)
    · rw [if_pos c4] at H
      have c4b0 := eq_true c4
      have c4b1 : decide (12 ≤ (a0.size : Int)) = true := decide_eq_true c4
      clear c4
      simp only [Option.some.injEq, Prod.mk.injEq] at H
      obtain ⟨rfl, rfl⟩ := H
      go_enter Try.func8, Try.ntmps8
      go_wp2_with (first | ((with_reducible refine gate_callee (f := 12) rfl ?_); refine goesL_ (some 5) rfl rfl Try.func12 (by kernel_rfl) rfl #[.string a0] rfl (by (try simp only [List.map_toArray, List.map_cons, List.map_nil]); first | done | rfl | (simp only [List.length_drop, List.length_take]; rfl)) ?_; (with_reducible refine (names_Iqn.calls a0 true _ A2.out).mono ?_); rintro e w5 ⟨rfl, hb⟩; refine ⟨_, rfl, ?_⟩; have n0_ := Aside0.mk (below_step (by repeat (first | (with_reducible first | exact HB.out | apply below_alloc | apply pw_below_drewN | apply below_drew1) | exact HB.out)) hb); clear HB; have HB := n0_; clear n0_; (try clear hb); (try clear hb2); (try clear hk); (try clear hi)))
      go_ret2
      exact ⟨by first | rfl | (simp [errW_none, errW_some] <;> rfl) | (simp [*, errW_none, errW_some] <;> rfl) | (simp [bt, *]; done) | (unfold bt; simp [*]; done), by repeat (first | (with_reducible first | exact HB.out | apply below_alloc | apply pw_below_drewN | apply below_drew1) | exact HB.out)⟩
    · rw [if_neg c4] at H
      exact absurd H (by simp)
  · replace c3 := Bool.eq_false_iff.mpr c3
    subst c3
    have H1 : ((names_Nqn.f a0).bind fun t105 => (if t105 = true then (if 12 ≤ (a0.size : Int) then (some (a0.extract 12 a0.size, 0)) else (none)) else (some ((⟨#[]⟩ : ByteArray), 30)))) = some (r1, r2) := by rw [if_neg (show ¬ (false = true) by decide)] at H; exact H
    clear H
    have H := H1
    clear H1
    replace H := Option.bind_eq_some_iff.mp H
    obtain ⟨t105, A60, H⟩ := H
    replace H : (if t105 = true then (if 12 ≤ (a0.size : Int) then (some (a0.extract 12 a0.size, 0)) else (none)) else (some ((⟨#[]⟩ : ByteArray), 30))) = some (r1, r2) := H
    have A6 := Aside0.mk A60
    clear A60
    by_cases c7 : t105 = true
    · subst c7
      have H1 : (if 12 ≤ (a0.size : Int) then (some (a0.extract 12 a0.size, 0)) else (none)) = some (r1, r2) := by rw [if_pos rfl] at H; exact H
      clear H
      have H := H1
      clear H1
      by_cases c8 : 12 ≤ (a0.size : Int)
      · rw [if_pos c8] at H
        have c8b0 := eq_true c8
        have c8b1 : decide (12 ≤ (a0.size : Int)) = true := decide_eq_true c8
        clear c8
        simp only [Option.some.injEq, Prod.mk.injEq] at H
        obtain ⟨rfl, rfl⟩ := H
        go_enter Try.func8, Try.ntmps8
        go_wp2_with (first | ((with_reducible refine gate_callee (f := 12) rfl ?_); refine goesL_ (some 5) rfl rfl Try.func12 (by kernel_rfl) rfl #[.string a0] rfl (by (try simp only [List.map_toArray, List.map_cons, List.map_nil]); first | done | rfl | (simp only [List.length_drop, List.length_take]; rfl)) ?_; (with_reducible refine (names_Iqn.calls a0 false _ A2.out).mono ?_); rintro e w9 ⟨rfl, hb⟩; refine ⟨_, rfl, ?_⟩; have n0_ := Aside0.mk (below_step (by repeat (first | (with_reducible first | exact HB.out | apply below_alloc | apply pw_below_drewN | apply below_drew1) | exact HB.out)) hb); clear HB; have HB := n0_; clear n0_; (try clear hb); (try clear hb2); (try clear hk); (try clear hi)) | (go_at_call 14; (with_reducible refine (names_Nqn.calls a0 true _ A6.out).mono ?_); rintro e w10 ⟨rfl, hb⟩; have n0_ := Aside0.mk (below_step (by repeat (first | (with_reducible first | exact HB.out | apply below_alloc | apply pw_below_drewN | apply below_drew1) | exact HB.out)) hb); clear HB; have HB := n0_; clear n0_; (try clear hb); (try clear hb2); (try clear hk); (try clear hi)))
        go_ret2
        exact ⟨by first | rfl | (simp [errW_none, errW_some] <;> rfl) | (simp [*, errW_none, errW_some] <;> rfl) | (simp [bt, *]; done) | (unfold bt; simp [*]; done), by repeat (first | (with_reducible first | exact HB.out | apply below_alloc | apply pw_below_drewN | apply below_drew1) | exact HB.out)⟩
      · rw [if_neg c8] at H
        exact absurd H (by simp)
    · replace c7 := Bool.eq_false_iff.mpr c7
      subst c7
      have H1 : (some ((⟨#[]⟩ : ByteArray), 30)) = some (r1, r2) := by rw [if_neg (show ¬ (false = true) by decide)] at H; exact H
      clear H
      have H := H1
      clear H1
      simp only [Option.some.injEq, Prod.mk.injEq] at H
      obtain ⟨rfl, rfl⟩ := H
      go_enter Try.func8, Try.ntmps8
      go_wp2_with (first | ((with_reducible refine gate_callee (f := 12) rfl ?_); refine goesL_ (some 5) rfl rfl Try.func12 (by kernel_rfl) rfl #[.string a0] rfl (by (try simp only [List.map_toArray, List.map_cons, List.map_nil]); first | done | rfl | (simp only [List.length_drop, List.length_take]; rfl)) ?_; (with_reducible refine (names_Iqn.calls a0 false _ A2.out).mono ?_); rintro e w11 ⟨rfl, hb⟩; refine ⟨_, rfl, ?_⟩; have n0_ := Aside0.mk (below_step (by repeat (first | (with_reducible first | exact HB.out | apply below_alloc | apply pw_below_drewN | apply below_drew1) | exact HB.out)) hb); clear HB; have HB := n0_; clear n0_; (try clear hb); (try clear hb2); (try clear hk); (try clear hi)) | (go_at_call 14; (with_reducible refine (names_Nqn.calls a0 false _ A6.out).mono ?_); rintro e w12 ⟨rfl, hb⟩; have n0_ := Aside0.mk (below_step (by repeat (first | (with_reducible first | exact HB.out | apply below_alloc | apply pw_below_drewN | apply below_drew1) | exact HB.out)) hb); clear HB; have HB := n0_; clear n0_; (try clear hb); (try clear hb2); (try clear hk); (try clear hi)))
      go_ret2
      exact ⟨by first | rfl | (simp [errW_none, errW_some] <;> rfl) | (simp [*, errW_none, errW_some] <;> rfl) | (simp [bt, *]; done) | (unfold bt; simp [*]; done), by repeat (first | (with_reducible first | exact HB.out | apply below_alloc | apply pw_below_drewN | apply below_drew1) | exact HB.out)⟩

/-! ### headgatelaw03_wakes: function 7 -/
def headgatelaw03_wakes.f  : Option (Bool) := (names_Host.f (⟨#[105, 113, 110, 46, 50, 48, 50, 48, 45, 48, 49, 46, 97, 58, 98]⟩ : ByteArray)).bind fun bt106 => (if bt106.2 = 0 then (if bt106.1.toList = ([97, 58, 98] : List UInt8) then ((names_Iqn.f (⟨#[105, 113, 110, 46, 50, 48, 50, 48, 45, 49, 51, 46, 97]⟩ : ByteArray)).bind fun t108 => (if t108 = true then (some false) else ((names_Nqn.f (⟨#[110, 113, 110, 46, 50, 48, 50, 48, 45, 49, 50, 46, 97]⟩ : ByteArray)).bind fun t109 => (some t109)))) else (some false)) else (some false))
set_option maxHeartbeats 8000000 in
set_option maxRecDepth 100000 in
theorem headgatelaw03_wakes.calls  (r : Bool) (w : World) (h : headgatelaw03_wakes.f  = some r) :
    Calls Try.prog 7 #[] w fun e w' => e = .returned (.bool r) ∧ Below w.heap.size w w' := by
  have HB := Aside0.mk (Below.refl w.heap.size w)
  have H : ((names_Host.f (⟨#[105, 113, 110, 46, 50, 48, 50, 48, 45, 48, 49, 46, 97, 58, 98]⟩ : ByteArray)).bind fun bt106 => (if bt106.2 = 0 then (if bt106.1.toList = ([97, 58, 98] : List UInt8) then ((names_Iqn.f (⟨#[105, 113, 110, 46, 50, 48, 50, 48, 45, 49, 51, 46, 97]⟩ : ByteArray)).bind fun t108 => (if t108 = true then (some false) else ((names_Nqn.f (⟨#[110, 113, 110, 46, 50, 48, 50, 48, 45, 49, 50, 46, 97]⟩ : ByteArray)).bind fun t109 => (some t109)))) else (some false)) else (some false))) = some r := h
  clear h
  replace H := Option.bind_eq_some_iff.mp H
  obtain ⟨⟨t106, t107⟩, A10, H⟩ := H
  replace H : (if t107 = 0 then (if t106.toList = ([97, 58, 98] : List UInt8) then ((names_Iqn.f (⟨#[105, 113, 110, 46, 50, 48, 50, 48, 45, 49, 51, 46, 97]⟩ : ByteArray)).bind fun t108 => (if t108 = true then (some false) else ((names_Nqn.f (⟨#[110, 113, 110, 46, 50, 48, 50, 48, 45, 49, 50, 46, 97]⟩ : ByteArray)).bind fun t109 => (some t109)))) else (some false)) else (some false)) = some r := H
  have A1 := Aside0.mk A10
  clear A10
  by_cases c2 : t107 = 0
  · rw [if_pos c2] at H
    have c2b0 : (t107 == 0) = true := beq_iff_eq.mpr c2
    have c2b1 : (t107 != 0) = false := bne_eq_false_iff_eq.mpr c2
    clear c2
    by_cases c3 : t106.toList = ([97, 58, 98] : List UInt8)
    · rw [if_pos c3] at H
      have c3b0 : (t106.toList == ([97, 58, 98] : List UInt8)) = true := beq_iff_eq.mpr c3
      have c3b1 : (t106.toList != ([97, 58, 98] : List UInt8)) = false := bne_eq_false_iff_eq.mpr c3
      clear c3
      replace H := Option.bind_eq_some_iff.mp H
      obtain ⟨t108, A40, H⟩ := H
      replace H : (if t108 = true then (some false) else ((names_Nqn.f (⟨#[110, 113, 110, 46, 50, 48, 50, 48, 45, 49, 50, 46, 97]⟩ : ByteArray)).bind fun t109 => (some t109))) = some r := H
      have A4 := Aside0.mk A40
      clear A40
      by_cases c5 : t108 = true
      · subst c5
        have H1 : (some false) = some r := by rw [if_pos rfl] at H; exact H
        clear H
        have H := H1
        clear H1
        obtain rfl := Option.some.inj H
        go_enter Try.func7, Try.ntmps7
        go_wp2_with (first | ((with_reducible refine gate_callee (f := 8) rfl ?_); refine goesL_ (some 4) rfl rfl Try.func8 (by kernel_rfl) rfl #[.string (⟨#[105, 113, 110, 46, 50, 48, 50, 48, 45, 48, 49, 46, 97, 58, 98]⟩ : ByteArray)] rfl (by (try simp only [List.map_toArray, List.map_cons, List.map_nil]); first | done | rfl | (simp only [List.length_drop, List.length_take]; rfl)) ?_; (with_reducible refine (names_Host.calls (⟨#[105, 113, 110, 46, 50, 48, 50, 48, 45, 48, 49, 46, 97, 58, 98]⟩ : ByteArray) t106 t107 _ A1.out).mono ?_); rintro e w6 ⟨rfl, hb⟩; refine ⟨_, rfl, ?_⟩; have n0_ := Aside0.mk (below_step (by repeat (first | (with_reducible first | exact HB.out | apply below_alloc | apply pw_below_drewN | apply below_drew1) | exact HB.out)) hb); clear HB; have HB := n0_; clear n0_; (try clear hb); (try clear hb2); (try clear hk); (try clear hi)) | (go_at_call 12; (with_reducible refine (names_Iqn.calls (⟨#[105, 113, 110, 46, 50, 48, 50, 48, 45, 49, 51, 46, 97]⟩ : ByteArray) true _ A4.out).mono ?_); rintro e w7 ⟨rfl, hb⟩; have n0_ := Aside0.mk (below_step (by repeat (first | (with_reducible first | exact HB.out | apply below_alloc | apply pw_below_drewN | apply below_drew1) | exact HB.out)) hb); clear HB; have HB := n0_; clear n0_; (try clear hb); (try clear hb2); (try clear hk); (try clear hi)))
        go_ret
        exact ⟨by first | rfl | (simp [errW_none, errW_some] <;> rfl) | (simp [*, errW_none, errW_some] <;> rfl) | (simp [bt, *]; done) | (unfold bt; simp [*]; done), by repeat (first | (with_reducible first | exact HB.out | apply below_alloc | apply pw_below_drewN | apply below_drew1) | exact HB.out)⟩
      · replace c5 := Bool.eq_false_iff.mpr c5
        subst c5
        have H1 : ((names_Nqn.f (⟨#[110, 113, 110, 46, 50, 48, 50, 48, 45, 49, 50, 46, 97]⟩ : ByteArray)).bind fun t109 => (some t109)) = some r := by rw [if_neg (show ¬ (false = true) by decide)] at H; exact H
        clear H
        have H := H1
        clear H1
        replace H := Option.bind_eq_some_iff.mp H
        obtain ⟨t109, A80, H⟩ := H
        replace H : (some t109) = some r := H
        have A8 := Aside0.mk A80
        clear A80
        obtain rfl := Option.some.inj H
        go_enter Try.func7, Try.ntmps7
        go_wp2_with (first | ((with_reducible refine gate_callee (f := 8) rfl ?_); refine goesL_ (some 4) rfl rfl Try.func8 (by kernel_rfl) rfl #[.string (⟨#[105, 113, 110, 46, 50, 48, 50, 48, 45, 48, 49, 46, 97, 58, 98]⟩ : ByteArray)] rfl (by (try simp only [List.map_toArray, List.map_cons, List.map_nil]); first | done | rfl | (simp only [List.length_drop, List.length_take]; rfl)) ?_; (with_reducible refine (names_Host.calls (⟨#[105, 113, 110, 46, 50, 48, 50, 48, 45, 48, 49, 46, 97, 58, 98]⟩ : ByteArray) t106 t107 _ A1.out).mono ?_); rintro e w9 ⟨rfl, hb⟩; refine ⟨_, rfl, ?_⟩; have n0_ := Aside0.mk (below_step (by repeat (first | (with_reducible first | exact HB.out | apply below_alloc | apply pw_below_drewN | apply below_drew1) | exact HB.out)) hb); clear HB; have HB := n0_; clear n0_; (try clear hb); (try clear hb2); (try clear hk); (try clear hi)) | (go_at_call 12; (with_reducible refine (names_Iqn.calls (⟨#[105, 113, 110, 46, 50, 48, 50, 48, 45, 49, 51, 46, 97]⟩ : ByteArray) false _ A4.out).mono ?_); rintro e w10 ⟨rfl, hb⟩; have n0_ := Aside0.mk (below_step (by repeat (first | (with_reducible first | exact HB.out | apply below_alloc | apply pw_below_drewN | apply below_drew1) | exact HB.out)) hb); clear HB; have HB := n0_; clear n0_; (try clear hb); (try clear hb2); (try clear hk); (try clear hi)) | (go_at_call 14; (with_reducible refine (names_Nqn.calls (⟨#[110, 113, 110, 46, 50, 48, 50, 48, 45, 49, 50, 46, 97]⟩ : ByteArray) t109 _ A8.out).mono ?_); rintro e w11 ⟨rfl, hb⟩; have n0_ := Aside0.mk (below_step (by repeat (first | (with_reducible first | exact HB.out | apply below_alloc | apply pw_below_drewN | apply below_drew1) | exact HB.out)) hb); clear HB; have HB := n0_; clear n0_; (try clear hb); (try clear hb2); (try clear hk); (try clear hi)))
        go_ret
        exact ⟨by first | rfl | (simp [errW_none, errW_some] <;> rfl) | (simp [*, errW_none, errW_some] <;> rfl) | (simp [bt, *]; done) | (unfold bt; simp [*]; done), by repeat (first | (with_reducible first | exact HB.out | apply below_alloc | apply pw_below_drewN | apply below_drew1) | exact HB.out)⟩
    · rw [if_neg c3] at H
      have c3b0 : (t106.toList == ([97, 58, 98] : List UInt8)) = false := beq_eq_false_iff_ne.mpr c3
      have c3b1 : (t106.toList != ([97, 58, 98] : List UInt8)) = true := bne_iff_ne.mpr c3
      obtain rfl := Option.some.inj H
      go_enter Try.func7, Try.ntmps7
      go_wp2_with (first | ((with_reducible refine gate_callee (f := 8) rfl ?_); refine goesL_ (some 4) rfl rfl Try.func8 (by kernel_rfl) rfl #[.string (⟨#[105, 113, 110, 46, 50, 48, 50, 48, 45, 48, 49, 46, 97, 58, 98]⟩ : ByteArray)] rfl (by (try simp only [List.map_toArray, List.map_cons, List.map_nil]); first | done | rfl | (simp only [List.length_drop, List.length_take]; rfl)) ?_; (with_reducible refine (names_Host.calls (⟨#[105, 113, 110, 46, 50, 48, 50, 48, 45, 48, 49, 46, 97, 58, 98]⟩ : ByteArray) t106 t107 _ A1.out).mono ?_); rintro e w12 ⟨rfl, hb⟩; refine ⟨_, rfl, ?_⟩; have n0_ := Aside0.mk (below_step (by repeat (first | (with_reducible first | exact HB.out | apply below_alloc | apply pw_below_drewN | apply below_drew1) | exact HB.out)) hb); clear HB; have HB := n0_; clear n0_; (try clear hb); (try clear hb2); (try clear hk); (try clear hi)))
      go_ret
      exact ⟨by first | rfl | (simp [errW_none, errW_some] <;> rfl) | (simp [*, errW_none, errW_some] <;> rfl) | (simp [bt, *]; done) | (unfold bt; simp [*]; done), by repeat (first | (with_reducible first | exact HB.out | apply below_alloc | apply pw_below_drewN | apply below_drew1) | exact HB.out)⟩
  · rw [if_neg c2] at H
    have c2b0 : (t107 == 0) = false := beq_eq_false_iff_ne.mpr c2
    have c2b1 : (t107 != 0) = true := bne_iff_ne.mpr c2
    obtain rfl := Option.some.inj H
    go_enter Try.func7, Try.ntmps7
    go_wp2_with (first | ((with_reducible refine gate_callee (f := 8) rfl ?_); refine goesL_ (some 4) rfl rfl Try.func8 (by kernel_rfl) rfl #[.string (⟨#[105, 113, 110, 46, 50, 48, 50, 48, 45, 48, 49, 46, 97, 58, 98]⟩ : ByteArray)] rfl (by (try simp only [List.map_toArray, List.map_cons, List.map_nil]); first | done | rfl | (simp only [List.length_drop, List.length_take]; rfl)) ?_; (with_reducible refine (names_Host.calls (⟨#[105, 113, 110, 46, 50, 48, 50, 48, 45, 48, 49, 46, 97, 58, 98]⟩ : ByteArray) t106 t107 _ A1.out).mono ?_); rintro e w13 ⟨rfl, hb⟩; refine ⟨_, rfl, ?_⟩; have n0_ := Aside0.mk (below_step (by repeat (first | (with_reducible first | exact HB.out | apply below_alloc | apply pw_below_drewN | apply below_drew1) | exact HB.out)) hb); clear HB; have HB := n0_; clear n0_; (try clear hb); (try clear hb2); (try clear hk); (try clear hi)))
    go_ret
    exact ⟨by first | rfl | (simp [errW_none, errW_some] <;> rfl) | (simp [*, errW_none, errW_some] <;> rfl) | (simp [bt, *]; done) | (unfold bt; simp [*]; done), by repeat (first | (with_reducible first | exact HB.out | apply below_alloc | apply pw_below_drewN | apply below_drew1) | exact HB.out)⟩

/-! ### headgatelaw03_NamesMonths_1: function 16 -/
def headgatelaw03_NamesMonths_1.f (a0 : Int) : Option (ByteArray) := some (strOfNums (([(wrap64 (48 + (Int.tmod a0 10))) % 256] : List Int)))
set_option maxHeartbeats 8000000 in
set_option maxRecDepth 100000 in
theorem headgatelaw03_NamesMonths_1.calls (a0 : Int) (r : ByteArray) (w : World) (h : headgatelaw03_NamesMonths_1.f a0 = some r) :
    Calls Try.prog 16 #[.int .i64 a0] w fun e w' => e = .returned (.string r) ∧ Below w.heap.size w w' := by
  have HB := Aside0.mk (Below.refl w.heap.size w)
  have H : (some (strOfNums (([(wrap64 (48 + (Int.tmod a0 10))) % 256] : List Int)))) = some r := h
  clear h
  obtain ⟨y110, hy110⟩ : ∃ y_ : List Int, y_ = (([(wrap64 (48 + (Int.tmod a0 10))) % 256] : List Int)) := ⟨_, rfl⟩
  replace H : (some (strOfNums y110)) = some r := by first | (rw [hy110]; with_reducible exact H) | (have H2_ := (Option.bind_some _ _).symm.trans H; rw [hy110]; with_reducible exact H2_) | (have H2_ := (Option.bind_some _ _).symm.trans H; with_reducible exact H2_) | with_reducible exact H | (rw [hy110]; exact H) | exact H
  have Ny110 := Aside0.mk hy110
  clear hy110
  obtain rfl := Option.some.inj H
  go_enter Try.func16, Try.ntmps16
  go_wp2_with (first | ((with_reducible refine gate_dst (N := 7) rfl ?_); refine Kd.R_lit (Kd.int .u8) _ 5 ?hg (N := 7) ?hd (xs := ([(wrap64 (48 + (Int.tmod a0 10))) % 256] : List Int)) (inner := [.int .u8 ((wrap64 (48 + (Int.tmod a0 10))) % 256)]) (ok := fun _ => True) (okp := fun _ => True) ?hr ?hp (fun _ hk => hk) trivial (Below.refl _ _) (Nat.le_refl _) (by simp) ?_; (case hd => rfl); (case hg => rfl); (case hr => first | (go_simp; done) | (go_simp; rfl)); (case hp => exact (Reps.one (show Kd.M (Kd.int .u8) _ _ _ ((wrap64 (48 + (Int.tmod a0 10))) % 256) [.int .u8 ((wrap64 (48 + (Int.tmod a0 10))) % 256)] from rfl) (Reps.none _ _))); intro v111 w2 ho3 hb hg_ hnew_; clear hg_ hnew_; (first | rw [← Ny110.out] at ho3 | (simp only [Int.reduceToNat] at ho3; rw [← Ny110.out] at ho3)); have n0_ := Aside0.mk (Kd.R_lower ho3 (below_size (by repeat (first | (with_reducible first | exact HB.out | apply below_alloc | apply pw_below_drewN | apply below_drew1) | exact HB.out)))); have n1_ := Aside0.mk (below_step (by repeat (first | (with_reducible first | exact HB.out | apply below_alloc | apply pw_below_drewN | apply below_drew1) | exact HB.out)) hb); clear HB; have HO112 := n0_; have HB := n1_; clear n0_ n1_; clear hb ho3; have hcv4 := own_string (P := Try.prog) Try.underlying30 Try.underlying5 Try.underlying9 (Kd.own_of_R HO112.out)))
  go_ret
  exact ⟨by first | rfl | (simp [errW_none, errW_some] <;> rfl) | (simp [*, errW_none, errW_some] <;> rfl) | (simp [bt, *]; done) | (unfold bt; simp [*]; done), by repeat (first | (with_reducible first | exact HB.out | apply below_alloc | apply pw_below_drewN | apply below_drew1) | exact HB.out)⟩

end Go.Proofs.Ytgphjijejoagcaa.P
