-- written by this session's patched copy of the printer (wip/tools/patch_print.py); Lean checks it
import Derived.Test.YtmpicpenbhdbhaaDoorPx0
import Derived.Test.YtmpicpenbhdbhaaDoorPx1
namespace Go.Proofs.YtmpicpenbhdbhaaDoor.P
open Go.RowKit Go.Proofs.YtmpicpenbhdbhaaDoorW.PrintWords Go.Proofs.YtmpicpenbhdbhaaDoorW.PrintLast Go.Proofs.YtmpicpenbhdbhaaDoorW.PrintMore
attribute [local go_sem] max2_int min2_int max_two min_two max_three min_three max_four min_four   -- for this text's walks alone
set_option linter.unusedVariables false
set_option linter.unusedSimpArgs false
set_option linter.unnecessarySimpa false

/-! ### api_Reg: function 17 -/
/-- Where a host stands, or -1. -/
def at_ (l : List S48) (host : ByteArray) : Int := match l.findIdx? (fun x => x.f0.toList == host.toList) with | some i => (i : Int) | none => -1
theorem at_found (l : List S48) (host : ByteArray) (i : Nat) (hi : i < l.length) (h : ((rd_T48 l i).f0.toList == host.toList) = true) (hb : ∀ j, j < i → ((rd_T48 l j).f0.toList == host.toList) = false) : at_ l host = i := by
  unfold at_
  have : l.findIdx? (fun x => x.f0.toList == host.toList) = some i := by
    rw [List.findIdx?_eq_some_iff_getElem]
    refine ⟨hi, ?_, fun j hj => ?_⟩
    · have := h
      unfold rd_T48 at this
      rw [List.getD_eq_getElem?_getD, Int.toNat_natCast, List.getElem?_eq_getElem hi] at this
      exact this
    · have := hb j hj
      unfold rd_T48 at this
      rw [List.getD_eq_getElem?_getD, Int.toNat_natCast, List.getElem?_eq_getElem (by omega)] at this
      simpa using this
  rw [this]
theorem at_none (l : List S48) (host : ByteArray) (hb : ∀ j, j < l.length → ((rd_T48 l j).f0.toList == host.toList) = false) : at_ l host = -1 := by
  unfold at_
  have : l.findIdx? (fun x => x.f0.toList == host.toList) = none := by
    rw [List.findIdx?_eq_none_iff]
    intro x hx
    obtain ⟨j, hj, rfl⟩ := List.getElem_of_mem hx
    have := hb j hj
    unfold rd_T48 at this
    rw [List.getD_eq_getElem?_getD, Int.toNat_natCast, List.getElem?_eq_getElem hj] at this
    exact this
  rw [this]
theorem good_len {l : List S48} {typ : Int} {host : ByteArray} {gen : Int} {apt : Bool} (h : resv_Good.f l typ host gen apt = some true) : l.length ≤ 16 := by
  unfold resv_Good.f at h
  split at h
  · have h := Option.some.inj h
    split at h
    · exact absurd h (by decide)
    · omega
  · exact absurd h (by simp)
def api_Reg.f (l : List S48) (host : ByteArray) : Option Int := some (at_ l host)
set_option maxHeartbeats 4000000 in
set_option maxRecDepth 100000 in
theorem encode1_calls (gb : Nat) (s host : ByteArray) (ky typ gen : Int) (apt : Bool) (vA : Value) (w : World) (hb : w.heap[gb]? = some (.cells #[vA, .int .i64 typ, .string host, .int .u32 gen, .bool apt] 27 (0, 0))) :
    Calls Tryd.prog 18 #[.agg #[.string s, .int .u64 ky], .pointer (some ⟨gb, 0, none⟩)] w fun e w' => e = .returned (.bool (s.toList == host.toList)) ∧ Below w.heap.size w w' := by
  have hu48 := Tryd.underlying48
  have HB := Aside0.mk (Below.refl w.heap.size w)
  have BK := Aside0.mk hb
  clear hb
  go_enter Tryd.func18, Tryd.ntmps18
  go_wp2_with (first
    | ((with_reducible refine gate_dst (N := 2) rfl ?_); refine box_event ?hg (N := 2) ?hd (cs := #[.string s, .int .u64 ky]) (t := 48) ?hr ?_; (case hd => rfl); (case hg => rfl); (case hr => first | (go_simp; done) | (go_simp; rfl)); intro gr hg w1 hbox hb; have n1_ := Aside0.mk (below_step HB.out hb); have n2_ := Aside0.mk (blk_below BK.out hb); clear HB BK; have HB := n1_; have hcr0 : w1.cell? ⟨gr, 0, none⟩ = some (.string s) := (blk_cell hbox 0).trans rfl; have hcz2 : w1.cell? ⟨gb, 2, none⟩ = some (.string host) := (blk_cell n2_.out 2).trans rfl; clear n1_ n2_ hb hbox hg))
  go_ret
  exact ⟨rfl, HB.out⟩
set_option maxHeartbeats 4000000 in
set_option maxRecDepth 100000 in
theorem api_Reg.calls (A0 : Option Addr) (c0 : Nat) (l : List S48) (typ : Int) (host : ByteArray) (gen : Int) (apt : Bool) (gb : Nat) (vA : Value) (r : Int) (w : World) (hr0 : Kd.C k48 w A0 l.length l) (_hc0 : l.length ≤ c0) (hb0 : w.heap[gb]? = some (.cells #[vA, .int .i64 typ, .string host, .int .u32 gen, .bool apt] 27 (0, 0))) (hg : resv_Good.f l typ host gen apt = some true) (h : api_Reg.f l host = some r) :
    Calls Tryd.prog 17 #[.slice A0 l.length c0, .func (.func 18) #[] #[.pointer (some ⟨gb, 0, none⟩)]] w fun e w' => e = .returned (.int .i64 r) ∧ Below w.heap.size w w' := by
  have hu48 := Tryd.underlying48
  have HC := Aside0.mk hr0
  have HBX := Aside0.mk hb0
  have HI16 := Aside0.mk (good_len hg)
  unfold api_Reg.f at h
  have HR := Aside0.mk (Option.some.inj h)
  clear hr0 hb0 hg h
  have HB := Aside0.mk (Below.refl w.heap.size w)
  go_enter Tryd.func17, Tryd.ntmps17
  go_wp2
  go_loopw [8] (fun iv wr => ∃ i : Nat, i ≤ l.length ∧ iv = .int .i64 i ∧ Aside0 (∀ j, j < i → ((rd_T48 l j).f0.toList == host.toList) = false) ∧ Aside0 (Below w.heap.size w wr)) (fun iv _ => l.length - (intOf iv).toNat)
  case atStart => exact ⟨0, by omega, rfl, ⟨fun j hj => absurd hj (by omega)⟩, HB⟩
  case round =>
    clear HB
    obtain ⟨i, hi, rfl, OK, HB⟩ := hrel
    by_cases hlt : i < l.length
    · have HI := Aside0.mk (show i ≤ 16 by have := HI16.out; omega)
      have HLT := Aside0.mk hlt
      have p0 : (0 : Int) ≤ (i : Int) := Int.natCast_nonneg i
      have q0 : (i : Int) < (l.length : Int) := by omega
      obtain ⟨ad, ea, hx0, hx1⟩ := at_T48 HC.out (i : Int) p0 q0
      cases ea
      replace hx0 := (HB.out.cell (World.block_lt_of_cell? w _ hx0)).trans hx0
      replace hx1 := (HB.out.cell (World.block_lt_of_cell? w _ hx1)).trans hx1
      obtain ⟨s, hs⟩ : ∃ s, s = (rd_T48 l i).f0 := ⟨_, rfl⟩
      obtain ⟨ky, hky⟩ : ∃ ky, ky = (rd_T48 l i).f1 := ⟨_, rfl⟩
      rw [← hs] at hx0
      rw [← hky] at hx1
      simp only [Int.toNat_natCast] at hx0 hx1
      have d3 : decide ((i : Int) < (l.length : Int)) = true := decide_eq_true q0
      have BK := Aside0.mk (blk_below HBX.out HB.out)
      have HS := Aside0.mk hs
      clear hs hky
      cases hq : (s.toList == host.toList)
      · have HQ := Aside0.mk hq
        go_wp2_with (first
          | (go_at_call 18; refine (encode1_calls gb s host ky typ gen apt vA _ BK.out).mono ?_; rw [hq]; rintro e w8 ⟨rfl, hb⟩; have n1_ := Aside0.mk (below_step HB.out hb); clear HB; have HB := n1_; clear n1_ hb))
        go_roundw
        case rel =>
          have h16_ := HI.out
          have e_ := good_step i h16_
          refine ⟨i + 1, by omega, by rw [e_, Int.natCast_add]; rfl, ⟨fun j hj => ?_⟩, HB⟩
          by_cases hji : j = i
          · subst hji
            rw [← HS.out]
            exact HQ.out
          · exact OK.out j (by omega)
        case measure =>
          have h16_ := HI.out
          exact good_less i l.length h16_ hlt
      · have HQ := Aside0.mk hq
        have hr := HR.out
        rw [at_found l host i hlt (by rw [← HS.out]; exact hq) OK.out] at hr
        subst hr
        clear HR
        go_wp2_with (first
          | (go_at_call 18; refine (encode1_calls gb s host ky typ gen apt vA _ BK.out).mono ?_; rw [hq]; rintro e w8 ⟨rfl, hb⟩; have n1_ := Aside0.mk (below_step HB.out hb); clear HB; have HB := n1_; clear n1_ hb))
        go_ret
        exact ⟨rfl, HB.out⟩
    · have hil : i = l.length := by omega
      subst hil
      have d3 : decide ((l.length : Int) < (l.length : Int)) = false := decide_eq_false (by omega)
      have hr := HR.out
      rw [at_none l host OK.out] at hr
      subst hr
      clear HR
      go_wp2
      go_ret
      exact ⟨rfl, HB.out⟩

-- NOT PRINTED: function 18 (image_Encode_1)

/-! ### fields_shifts: function 44 -/
def fields_shifts.l0 : Nat → Int → Bool → List Int → Int → Int → Option (List Int)
  | 0, _, _, _, _, _ => none
  | k + 1, x0, x1, x5, x7, x8 => if x8 < x7 then (if x1 = true then (if x5.length < 17592186044416 then (fields_shifts.l0 k x0 x1 (x5 ++ [wrap64 (8 * (wrap64 ((wrap64 (x0 - 1)) - x8)))]) x7 (wrap64 (x8 + 1))) else (none)) else (if x5.length < 17592186044416 then (fields_shifts.l0 k x0 x1 (x5 ++ [wrap64 (8 * x8)]) x7 (wrap64 (x8 + 1))) else (none))) else (some x5)
def fields_shifts.f (k : Nat) (a0 : Int) (a1 : Bool) : Option (List Int) := fields_shifts.l0 k a0 a1 ([] : List Int) a0 0
theorem fields_shifts.mono_l : ∀ k, (∀ y0 y1 y2 y3 y4, LeO (fields_shifts.l0 k y0 y1 y2 y3 y4) (fields_shifts.l0 (k + 1) y0 y1 y2 y3 y4))
  | 0 => fun _ _ _ _ _ r h => by simp [fields_shifts.l0] at h
  | k + 1 => by
    have ih0 := fields_shifts.mono_l k
    · intro y0 y1 y2 y3 y4
      unfold fields_shifts.l0
      repeat' first
      | (with_reducible exact ih0 _ _ _ _ _)
      | (with_reducible exact LeO.refl _)
      | (with_reducible exact LeO.none _)
      | (with_reducible refine LeO.ite ?_ ?_)
      | (with_reducible refine LeO.bind ?_ (fun _ => ?_))
      | exact ih0 _ _ _ _ _
      | exact LeO.none _
      | refine LeO.ite ?_ ?_
      | refine LeO.bind ?_ (fun _ => ?_)
theorem fields_shifts.mono : ∀ a0 a1 k, LeO (fields_shifts.f k a0 a1) (fields_shifts.f (k + 1) a0 a1) := by
  intro a0 a1 k
  have ih0 := fields_shifts.mono_l k
  unfold fields_shifts.f
  repeat' first
      | (with_reducible exact ih0 _ _ _ _ _)
      | (with_reducible exact LeO.refl _)
      | (with_reducible exact LeO.none _)
      | (with_reducible refine LeO.ite ?_ ?_)
      | (with_reducible refine LeO.bind ?_ (fun _ => ?_))
      | exact ih0 _ _ _ _ _
      | exact LeO.none _
      | refine LeO.ite ?_ ?_
      | refine LeO.bind ?_ (fun _ => ?_)
set_option maxHeartbeats 8000000 in
set_option maxRecDepth 100000 in
theorem fields_shifts.calls (k : Nat) (a0 : Int) (a1 : Bool) (r : List Int) (w : World) (h : fields_shifts.f k a0 a1 = some r) :
    Calls Tryd.prog 44 #[.int .i64 a0, .bool a1] w fun e w' => ∃ v0_ : Value, e = .returned (v0_) ∧ Kd.R (Kd.int .i64) 3 w' w.heap.size (fun _ => True) v0_ r ∧ Below w.heap.size w w' := by
  have HB := Aside0.mk (Below.refl w.heap.size w)
  have H : (fields_shifts.l0 k a0 a1 ([] : List Int) a0 0) = some r := h
  clear h
  have H' := Aside0.mk H
  clear H
  go_enter Tryd.func44, Tryd.ntmps44
  go_wp2
  go_loopg [5, 8] k (fun kq v5 v8 w' => ∃ (x5_1 : List Int) (x8_1 : Int), v8 = .int .i64 x8_1 ∧ Aside0 (fields_shifts.l0 kq a0 a1 x5_1 a0 x8_1 = some r) ∧ Aside0 (kq ≤ k) ∧ Aside0 (Kd.R (Kd.int .i64) 3 w' w.heap.size (fun _ => True) v5 x5_1) ∧ Aside0 (Below w.heap.size w w'))
  case atStart => exact ⟨(([] : List Int)), (0), (by first | rfl | (simp; done) | (simp [*]; done)), H', ⟨Nat.le_refl _⟩, ⟨by first | exact Kd.R_nil _ _ _ _ _ | exact Kd.N_nil _ _ _ _ _ | exact Kd.V_nil _ _ _ _ _ | exact Kd.Q_nil _ _ _ _ _ | exact Kd.S_nil _ _ _ _ _⟩, ⟨by repeat (first | (with_reducible first | exact HB.out | apply below_alloc | apply pw_below_drewN | apply below_drew1) | exact HB.out)⟩⟩
  case round =>
    clear H'
    try clear p2
    obtain ⟨x5_1, x8_1, rfl, HA, HK1, HO_5, HB⟩ := hrel
    cases gk with
    | zero => exact absurd HA.out (by simp [fields_shifts.l0])
    | succ k1 =>
      have H := HA.out
      clear HA
      simp only [fields_shifts.l0] at H
      by_cases c3 : x8_1 < a0
      · rw [if_pos c3] at H
        have c3b0 : decide (x8_1 < a0) = true := decide_eq_true c3
        clear c3
        by_cases c4 : a1 = true
        · subst c4
          have H1 : (if x5_1.length < 17592186044416 then (fields_shifts.l0 k1 a0 true (x5_1 ++ [wrap64 (8 * (wrap64 ((wrap64 (a0 - 1)) - x8_1)))]) a0 (wrap64 (x8_1 + 1))) else (none)) = some r := by rw [if_pos rfl] at H; exact H
          clear H
          have H := H1
          clear H1
          by_cases c5 : x5_1.length < 17592186044416
          · rw [if_pos c5] at H
            have LMc5 := Aside0.mk c5
            clear c5
            obtain ⟨y104, hy104⟩ : ∃ y_ : List Int, y_ = (x5_1 ++ [wrap64 (8 * (wrap64 ((wrap64 (a0 - 1)) - x8_1)))]) := ⟨_, rfl⟩
            replace H : (fields_shifts.l0 k1 a0 true y104 a0 (wrap64 (x8_1 + 1))) = some r := by first | (rw [hy104]; with_reducible exact H) | (have H2_ := (Option.bind_some _ _).symm.trans H; rw [hy104]; with_reducible exact H2_) | (have H2_ := (Option.bind_some _ _).symm.trans H; with_reducible exact H2_) | with_reducible exact H | (rw [hy104]; exact H) | exact H
            have Ny104 := Aside0.mk hy104
            clear hy104
            have H' := Aside0.mk H
            clear H
            go_wp2_with (first | ((with_reducible refine gate_builtin (b := .append) (xs := #[.tmp 12, .tmp 18]) rfl ?_); at_builtin; refine Kd.R_append (Kd.int .i64) (w0 := w) w.heap.size rfl (.tmp 12) (.tmp 18) 66 3 (.int .i64 0) 8 rfl Tryd.underlying66 info3 rfl (by decide) (by omega) u5 x5_1 (wrap64 (8 * (wrap64 ((wrap64 (a0 - 1)) - x8_1)))) [.int .i64 (wrap64 (8 * (wrap64 ((wrap64 (a0 - 1)) - x8_1))))] (fun _ => True) (fun _ => False) rfl rfl ?aP (fun _ hk => hk.elim) ?aF ?aO ?aB ?aS ?aL ?_; (case aP => exact rfl); (case aB => exact (by repeat (first | (with_reducible first | exact HB.out | apply below_alloc | apply pw_below_drewN | apply below_drew1) | exact HB.out))); (case aF => exact (fun _ _ => trivial)); (case aO => exact (by (with_reducible repeat (first | apply Kd.R_alloc | apply Kd.R_drewN | apply Kd.R_drew)); exact HO_5.out)); (case aS => exact (below_size (by repeat (first | (with_reducible first | exact HB.out | apply below_alloc | apply pw_below_drewN | apply below_drew1) | exact HB.out)))); (case aL => have := LMc5.out; omega); intro v105 w6 ho hb hg hat; rw [← Ny104.out] at ho; have n0_ := Aside0.mk (hb); have n1_ := Aside0.mk (ho); clear HB; clear HO_5; have HB := n0_; have HO106 := n1_; clear n0_ n1_; clear ho hb hg hat))
            go_roundg k1
            case measure => have := HK1.out; omega
            case rel => exact ⟨(y104), (wrap64 (x8_1 + 1)), (by first | rfl | (simp; done) | (simp [*]; done)), H', ⟨by have := HK1.out; omega⟩, ⟨by (with_reducible repeat (first | apply Kd.R_alloc | apply Kd.R_drewN | apply Kd.R_drew)); exact HO106.out⟩, ⟨by repeat (first | (with_reducible first | exact HB.out | apply below_alloc | apply pw_below_drewN | apply below_drew1) | exact HB.out)⟩⟩
          · rw [if_neg c5] at H
            exact absurd H (by simp)
        · replace c4 := Bool.eq_false_iff.mpr c4
          subst c4
          have H1 : (if x5_1.length < 17592186044416 then (fields_shifts.l0 k1 a0 false (x5_1 ++ [wrap64 (8 * x8_1)]) a0 (wrap64 (x8_1 + 1))) else (none)) = some r := by rw [if_neg (show ¬ (false = true) by decide)] at H; exact H
          clear H
          have H := H1
          clear H1
          by_cases c7 : x5_1.length < 17592186044416
          · rw [if_pos c7] at H
            have LMc7 := Aside0.mk c7
            clear c7
            obtain ⟨y107, hy107⟩ : ∃ y_ : List Int, y_ = (x5_1 ++ [wrap64 (8 * x8_1)]) := ⟨_, rfl⟩
            replace H : (fields_shifts.l0 k1 a0 false y107 a0 (wrap64 (x8_1 + 1))) = some r := by first | (rw [hy107]; with_reducible exact H) | (have H2_ := (Option.bind_some _ _).symm.trans H; rw [hy107]; with_reducible exact H2_) | (have H2_ := (Option.bind_some _ _).symm.trans H; with_reducible exact H2_) | with_reducible exact H | (rw [hy107]; exact H) | exact H
            have Ny107 := Aside0.mk hy107
            clear hy107
            have H' := Aside0.mk H
            clear H
            go_wp2_with (first | ((with_reducible refine gate_builtin (b := .append) (xs := #[.tmp 20, .tmp 23]) rfl ?_); at_builtin; refine Kd.R_append (Kd.int .i64) (w0 := w) w.heap.size rfl (.tmp 20) (.tmp 23) 66 3 (.int .i64 0) 8 rfl Tryd.underlying66 info3 rfl (by decide) (by omega) u5 x5_1 (wrap64 (8 * x8_1)) [.int .i64 (wrap64 (8 * x8_1))] (fun _ => True) (fun _ => False) rfl rfl ?aP (fun _ hk => hk.elim) ?aF ?aO ?aB ?aS ?aL ?_; (case aP => exact rfl); (case aB => exact (by repeat (first | (with_reducible first | exact HB.out | apply below_alloc | apply pw_below_drewN | apply below_drew1) | exact HB.out))); (case aF => exact (fun _ _ => trivial)); (case aO => exact (by (with_reducible repeat (first | apply Kd.R_alloc | apply Kd.R_drewN | apply Kd.R_drew)); exact HO_5.out)); (case aS => exact (below_size (by repeat (first | (with_reducible first | exact HB.out | apply below_alloc | apply pw_below_drewN | apply below_drew1) | exact HB.out)))); (case aL => have := LMc7.out; omega); intro v108 w8 ho hb hg hat; rw [← Ny107.out] at ho; have n0_ := Aside0.mk (hb); have n1_ := Aside0.mk (ho); clear HB; clear HO_5; have HB := n0_; have HO109 := n1_; clear n0_ n1_; clear ho hb hg hat))
            go_roundg k1
            case measure => have := HK1.out; omega
            case rel => exact ⟨(y107), (wrap64 (x8_1 + 1)), (by first | rfl | (simp; done) | (simp [*]; done)), H', ⟨by have := HK1.out; omega⟩, ⟨by (with_reducible repeat (first | apply Kd.R_alloc | apply Kd.R_drewN | apply Kd.R_drew)); exact HO109.out⟩, ⟨by repeat (first | (with_reducible first | exact HB.out | apply below_alloc | apply pw_below_drewN | apply below_drew1) | exact HB.out)⟩⟩
          · rw [if_neg c7] at H
            exact absurd H (by simp)
      · rw [if_neg c3] at H
        have c3b0 : decide (x8_1 < a0) = false := decide_eq_false c3
        clear c3
        obtain rfl := Option.some.inj H
        go_wp2
        go_ret
        exact ⟨_, by first | rfl | (simp [errW_none, errW_some] <;> rfl) | (simp [*, errW_none, errW_some] <;> rfl) | (simp [bt, *]; done) | (unfold bt; simp [*]; done), by (with_reducible repeat (first | apply Kd.R_alloc | apply Kd.R_drewN | apply Kd.R_drew)); exact HO_5.out, by repeat (first | (with_reducible first | exact HB.out | apply below_alloc | apply pw_below_drewN | apply below_drew1) | exact HB.out)⟩

/-! ### fields_put_uint64: function 32 -/
mutual
def fields_put_uint64.j0 : Nat → Int → Int → Bool → Bool → Option (ByteArray)
 | 0, _, _, _, _ => none
 | k + 1, x0, x1, x2, x15 => if x15 = true then (some (⟨#[]⟩ : ByteArray)) else ((fields_shifts.f k x1 x2).bind fun t110 => (fields_put_uint64.l0 k x0 ([] : List Int) t110 (t110.length : Int) 0))
def fields_put_uint64.l0 : Nat → Int → List Int → List Int → Int → Int → Option (ByteArray)
 | 0, _, _, _, _, _ => none
 | k + 1, x0, x7, x18, x19, x20 => if x20 < x19 then (if 0 ≤ x20 then (if x20 < (x18.length : Int) then (if 0 ≤ (rd x18 x20) then (if x7.length < 140737488355328 then (fields_put_uint64.l0 k x0 (x7 ++ [(shr .u64 x0 (rd x18 x20)) % 256]) x18 x19 (wrap64 (x20 + 1))) else (none)) else (none)) else (none)) else (none)) else (some (strOfNums x7))
end
def fields_put_uint64.f (k : Nat) (a0 : Int) (a1 : Int) (a2 : Bool) : Option (ByteArray) := if a1 < 1 then (fields_put_uint64.j0 k a0 a1 a2 true) else (fields_put_uint64.j0 k a0 a1 a2 (decide (a1 > 8)))
theorem fields_put_uint64.mono_l : ∀ k, (∀ y0 y1 y2 y3, LeO (fields_put_uint64.j0 k y0 y1 y2 y3) (fields_put_uint64.j0 (k + 1) y0 y1 y2 y3)) ∧ (∀ y0 y1 y2 y3 y4, LeO (fields_put_uint64.l0 k y0 y1 y2 y3 y4) (fields_put_uint64.l0 (k + 1) y0 y1 y2 y3 y4))
 | 0 => ⟨fun _ _ _ _ r h => by simp [fields_put_uint64.j0] at h, fun _ _ _ _ _ r h => by simp [fields_put_uint64.l0] at h⟩
 | k + 1 => by
  obtain ⟨ih0, ih1⟩ := fields_put_uint64.mono_l k
  refine ⟨?_, ?_⟩
  ·intro y0 y1 y2 y3
   unfold fields_put_uint64.j0
   repeat' first
   | (with_reducible exact ih0 _ _ _ _)
   | (with_reducible exact ih1 _ _ _ _ _)
   | (with_reducible exact fields_shifts.mono _ _ _)
   | (with_reducible exact LeO.refl _)
   | (with_reducible exact LeO.none _)
   | (with_reducible refine LeO.ite ?_ ?_)
   | (with_reducible refine LeO.bind ?_ (fun _ => ?_))
   | exact ih0 _ _ _ _
   | exact ih1 _ _ _ _ _
   | exact fields_shifts.mono _ _ _
   | exact LeO.none _
   | refine LeO.ite ?_ ?_
   | refine LeO.bind ?_ (fun _ => ?_)
  ·intro y0 y1 y2 y3 y4
   unfold fields_put_uint64.l0
   repeat' first
   | (with_reducible exact ih0 _ _ _ _)
   | (with_reducible exact ih1 _ _ _ _ _)
   | (with_reducible exact fields_shifts.mono _ _ _)
   | (with_reducible exact LeO.refl _)
   | (with_reducible exact LeO.none _)
   | (with_reducible refine LeO.ite ?_ ?_)
   | (with_reducible refine LeO.bind ?_ (fun _ => ?_))
   | exact ih0 _ _ _ _
   | exact ih1 _ _ _ _ _
   | exact fields_shifts.mono _ _ _
   | exact LeO.none _
   | refine LeO.ite ?_ ?_
   | refine LeO.bind ?_ (fun _ => ?_)
theorem fields_put_uint64.mono : ∀ a0 a1 a2 k, LeO (fields_put_uint64.f k a0 a1 a2) (fields_put_uint64.f (k + 1) a0 a1 a2) := by
 intro a0 a1 a2 k
 obtain ⟨ih0, ih1⟩ := fields_put_uint64.mono_l k
 unfold fields_put_uint64.f
 repeat' first
   | (with_reducible exact ih0 _ _ _ _)
   | (with_reducible exact ih1 _ _ _ _ _)
   | (with_reducible exact fields_shifts.mono _ _ _)
   | (with_reducible exact LeO.refl _)
   | (with_reducible exact LeO.none _)
   | (with_reducible refine LeO.ite ?_ ?_)
   | (with_reducible refine LeO.bind ?_ (fun _ => ?_))
   | exact ih0 _ _ _ _
   | exact ih1 _ _ _ _ _
   | exact fields_shifts.mono _ _ _
   | exact LeO.none _
   | refine LeO.ite ?_ ?_
   | refine LeO.bind ?_ (fun _ => ?_)
set_option maxHeartbeats 8000000 in
set_option maxRecDepth 100000 in
theorem fields_put_uint64.calls (k : Nat) (a0 : Int) (a1 : Int) (a2 : Bool) (r : ByteArray) (w : World) (h : fields_put_uint64.f k a0 a1 a2 = some r) :
  Calls Tryd.prog 32 #[.int .u64 a0, .int .i64 a1, .bool a2] w fun e w' => e = .returned (.string r) ∧ Below w.heap.size w w' := by
 have HB := Aside0.mk (Below.refl w.heap.size w)
 have H : (if a1 < 1 then (fields_put_uint64.j0 k a0 a1 a2 true) else (fields_put_uint64.j0 k a0 a1 a2 (decide (a1 > 8)))) = some r := h
 clear h
 have HC4 := Aside0.mk H
 clear H
 go_enter Tryd.func32, Tryd.ntmps32
 go_upto_region 1 with (fail)
 go_cut [15] (fun v15 wc => ∃ (kq : Nat) (x15_3 : Bool), v15 = .bool x15_3 ∧ Aside0 (fields_put_uint64.j0 kq a0 a1 a2 x15_3 = some r) ∧ Aside0 (kq ≤ k) ∧ Aside0 (Below w.heap.size w wc))
 case first =>
  have H := HC4.out
  clear HC4
  by_cases c5 : a1 < 1
  ·rw [if_pos c5] at H
   have c5b0 : decide (a1 < 1) = true := decide_eq_true c5
   clear c5
   (first | rw [c5b0] | (simp only [i64_w, i32_w]; rw [c5b0]) | skip)
   have H' := Aside0.mk H
   clear H
   go_wp2
   go_meet
   case rel => exact ⟨_, (true), (by first | rfl | (simp; done) | (simp [*]; done)), H', ⟨by first | omega | exact Nat.le_refl _⟩, ⟨hb_ HB⟩⟩
  rw [if_neg c5] at H
  have c5b0 : decide (a1 < 1) = false := decide_eq_false c5
  clear c5
  (first | rw [c5b0] | (simp only [i64_w, i32_w]; rw [c5b0]) | skip)
  have H' := Aside0.mk H
  clear H
  go_wp2
  go_meet
  case rel => exact ⟨_, (decide (a1 > 8)), (by first | rfl | (simp; done) | (simp [*]; done)), H', ⟨by first | omega | exact Nat.le_refl _⟩, ⟨hb_ HB⟩⟩
 case rest =>
  clear HC4
  try clear p2
  try clear c3
  try clear c5
  try clear c5b0
  obtain ⟨kq, x15_3, rfl, HA, HJ3, HB⟩ := hcut
  cases kq with
  | zero => exact absurd HA.out (by simp [fields_put_uint64.j0])
  | succ kj3 =>
   have H := HA.out
   clear HA
   simp only [fields_put_uint64.j0] at H
   by_cases c6 : x15_3 = true
   ·subst c6
    have H1 := H
    rw [if_pos rfl] at H1
    clear H
    have H := H1
    clear H1
    obtain rfl := Option.some.inj H
    go_wp2
    go_ret
    exact ⟨by first | rfl | (simp [errW_none, errW_some] <;> rfl) | (simp [*, errW_none, errW_some] <;> rfl) | (simp [bt, *]; done) | (unfold bt; simp [*]; done), by repeat (first | (with_reducible first | exact HB.out | apply below_alloc | apply pw_below_drewN | apply below_drew1) | exact HB.out)⟩
   replace c6 := Bool.eq_false_iff.mpr c6
   subst c6
   have H1 := H
   rw [if_neg (show ¬ (false = true) by decide)] at H1
   clear H
   have H := H1
   clear H1
   replace H := Option.bind_eq_some_iff.mp H
   obtain ⟨t110, A70, H⟩ := H
   try dsimp only at H
   have A7 := Aside0.mk A70
   clear A70
   have H' := Aside0.mk H
   clear H
   go_wp2_with (first | ((with_reducible refine gate_callee (f := 44) rfl ?_); refine goesL_ (some 18) rfl rfl Tryd.func44 (by kernel_rfl) rfl #[.int .i64 a1, .bool a2] rfl (by (try simp only [List.map_toArray, List.map_cons, List.map_nil]); first | done | rfl | (simp only [List.length_drop, List.length_take]; rfl)) ?_; (with_reducible refine (fields_shifts.calls kj3 a1 a2 t110 _ A7.out).mono ?_); rintro e w8 ⟨v111, rfl, ho0, hb⟩; refine ⟨_, rfl, ?_⟩; have n0_ := Aside0.mk (Kd.R_lower ho0 (below_size (hb_ HB))); have n1_ := Aside0.mk (below_step (hb_ HB) hb); clear HB; have HO112 := n0_; have HB := n1_; clear n0_ n1_; (try clear hb); (try clear hb2); (try clear hk); (try clear hi); (try clear ho0); obtain ⟨Ao9, co9, eo9⟩ := Kd.R_slice HO112.out; subst eo9))
   go_loopg [7, 20] kj3 (fun kq v7 v20 w' => ∃ (x7_2 : List Int) (x20_2 : Int), v20 = .int .i64 x20_2 ∧ Aside0 (fields_put_uint64.l0 kq a0 x7_2 t110 (t110.length : Int) x20_2 = some r) ∧ Aside0 (kq ≤ kj3) ∧ Aside0 (Kd.R (Kd.int .u8) 5 w' w.heap.size (fun _ => True) v7 x7_2) ∧ Aside0 (Kd.R (Kd.int .i64) 3 w' w.heap.size (fun _ => True) (.slice Ao9 t110.length co9) t110) ∧ Aside0 (Below w.heap.size w w'))
   case atStart => exact ⟨(([] : List Int)), (0), (by first | rfl | (simp; done) | (simp [*]; done)), H', ⟨Nat.le_refl _⟩, ⟨by first | exact Kd.R_nil _ _ _ _ _ | exact Kd.N_nil _ _ _ _ _ | exact Kd.V_nil _ _ _ _ _ | exact Kd.Q_nil _ _ _ _ _ | exact Kd.S_nil _ _ _ _ _⟩, ⟨by (with_reducible repeat (first | apply Kd.R_alloc | apply Kd.R_drewN | apply Kd.R_drew)); exact HO112.out⟩, ⟨hb_ HB⟩⟩
   case round =>
    clear H'
    try clear p2
    try clear c3
    try clear c4
    try clear c5
    try clear c5b0
    try clear c6
    try clear p2
    obtain ⟨x7_2, x20_2, rfl, HA, HK2, HO_7, HO_18, HB⟩ := hrel
    cases gk with
    | zero => exact absurd HA.out (by simp [fields_put_uint64.l0])
    | succ k2 =>
     have H := HA.out
     clear HA
     simp only [fields_put_uint64.l0] at H
     refine neg_first (p := (x20_2 < (t110.length : Int))) (fun c10 => ?_) (fun c10 => ?_)
     ·rw [if_neg c10] at H
      have c10b0 : decide (x20_2 < (t110.length : Int)) = false := decide_eq_false c10
      clear c10
      obtain rfl := Option.some.inj H
      have hcv17 := own_string (P := Tryd.prog) Tryd.underlying44 Tryd.underlying5 Tryd.underlying9 (Kd.own_of_R HO_7.out)
      go_wp2
      go_ret
      exact ⟨by first | rfl | (simp [errW_none, errW_some] <;> rfl) | (simp [*, errW_none, errW_some] <;> rfl) | (simp [bt, *]; done) | (unfold bt; simp [*]; done), by repeat (first | (with_reducible first | exact HB.out | apply below_alloc | apply pw_below_drewN | apply below_drew1) | exact HB.out)⟩

     rw [if_pos c10] at H
     have c10b0 : decide (x20_2 < (t110.length : Int)) = true := decide_eq_true c10
     clear c10
     refine neg_first (p := (0 ≤ x20_2)) (fun c11 => ?_) (fun c11 => ?_)
     ·rw [if_neg c11] at H
      exact absurd H (by simp)
     rw [if_pos c11] at H
     have c11b0 : decide (0 ≤ x20_2) = true := decide_eq_true c11
     clear c11
     refine neg_first (p := (x20_2 < (t110.length : Int))) (fun c12 => ?_) (fun c12 => ?_)
     ·rw [if_neg c12] at H
      exact absurd H (by simp)
     rw [if_pos c12] at H
     have c12b0 : decide (x20_2 < (t110.length : Int)) = true := decide_eq_true c12
     clear c12
     refine neg_first (p := (0 ≤ (rd t110 x20_2))) (fun c13 => ?_) (fun c13 => ?_)
     ·rw [if_neg c13] at H
      exact absurd H (by simp)
     rw [if_pos c13] at H
     have c13b0 := eq_true c13
     have c13b1 : decide (0 ≤ (rd t110 x20_2)) = true := decide_eq_true c13
     clear c13
     obtain ⟨ji14, hji14⟩ : ∃ j_ : Int, (shr .u64 a0 (rd t110 x20_2)) = j_ := ⟨_, rfl⟩
     replace H : (if x7_2.length < 140737488355328 then (fields_put_uint64.l0 k2 a0 (x7_2 ++ [(ji14) % 256]) t110 (t110.length : Int) (wrap64 (x20_2 + 1))) else (none)) = some r := by first | (rw [hji14] at H; exact H) | (simp only [hji14] at H ⊢; exact H)
     have hji14_ : (a0 / 2 ^ min (rd t110 x20_2).toNat 64) = ji14 := hji14
     have hji14z : (rd t110 x20_2) ≤ 64 → (a0 / 2 ^ (rd t110 x20_2).toNat) = ji14 := shr_small hji14
     refine neg_first (p := (x7_2.length < 140737488355328)) (fun c15 => ?_) (fun c15 => ?_)
     ·rw [if_neg c15] at H
      exact absurd H (by simp)
     rw [if_pos c15] at H
     have LMc15 := Aside0.mk c15
     clear c15
     obtain ⟨y114, hy114⟩ : ∃ y_ : List Int, y_ = (x7_2 ++ [(ji14) % 256]) := ⟨_, rfl⟩
     replace H : (fields_put_uint64.l0 k2 a0 y114 t110 (t110.length : Int) (wrap64 (x20_2 + 1))) = some r := by first | (rw [hy114]; with_reducible exact H) | (have H2_ := (Option.bind_some _ _).symm.trans H; rw [hy114]; with_reducible exact H2_) | (have H2_ := (Option.bind_some _ _).symm.trans H; with_reducible exact H2_) | with_reducible exact H | (rw [hy114]; exact H) | exact H
     have Ny114 := Aside0.mk hy114
     clear hy114
     have H' := Aside0.mk H
     clear H
     have p113 : 0 ≤ (x20_2 : Int) := of_decide_eq_true (by first | (with_reducible assumption) | assumption)
     have q113 : x20_2 < (t110.length : Int) := of_decide_eq_true (by first | (with_reducible assumption) | assumption)
     obtain ⟨ad113, e113, hx113_0⟩ := Kd.at_int (Kd.R_reads' HO_18.out).2.2 x20_2 p113 q113
     cases e113
     replace p113 := eq_true p113
     replace q113 := eq_true q113
     go_wp2_with (first | ((with_reducible refine gate_builtin (b := .append) (xs := #[.tmp 24, .tmp 29]) rfl ?_); at_builtin; refine Kd.R_append (Kd.int .u8) (w0 := w) w.heap.size rfl (.tmp 24) (.tmp 29) 44 5 (.int .u8 0) 1 rfl Tryd.underlying44 info5 rfl (by decide) (by omega) u7 x7_2 ((ji14) % 256) [.int .u8 ((ji14) % 256)] (fun _ => True) (fun _ => False) rfl rfl ?aP (fun _ hk => hk.elim) ?aF ?aO ?aB ?aS ?aL ?_; (case aP => exact rfl); (case aB => exact (hb_ HB)); (case aF => exact (fun _ _ => trivial)); (case aO => exact (by (with_reducible repeat (first | apply Kd.R_alloc | apply Kd.R_drewN | apply Kd.R_drew)); exact HO_7.out)); (case aS => exact (below_size (hb_ HB))); (case aL => have := LMc15.out; omega); intro v115 w16 ho hb hg hat; rw [← Ny114.out] at ho; have n0_ := Aside0.mk (Kd.R_over' (by (with_reducible repeat (first | apply Kd.R_alloc | apply Kd.R_drewN | apply Kd.R_drew)); exact HO_18.out) (Kd.R_typed (by (with_reducible repeat (first | apply Kd.R_alloc | apply Kd.R_drewN | apply Kd.R_drew)); exact HO_7.out)) (by decide) hg); have n1_ := Aside0.mk (hb); have n2_ := Aside0.mk (ho); clear HO_18; clear HB; clear HO_7; have HO_18 := n0_; have HB := n1_; have HO116 := n2_; clear n0_ n1_ n2_; clear ho hb hg hat))
     go_roundg k2
     case measure => have := HJ3.out; have := HK2.out; omega
     case rel => exact ⟨(y114), (wrap64 (x20_2 + 1)), (by first | rfl | (simp; done) | (simp [*]; done)), H', ⟨by have := HJ3.out; have := HK2.out; omega⟩, ⟨by (with_reducible repeat (first | apply Kd.R_alloc | apply Kd.R_drewN | apply Kd.R_drew)); exact HO116.out⟩, ⟨by (with_reducible repeat (first | apply Kd.R_alloc | apply Kd.R_drewN | apply Kd.R_drew)); exact HO_18.out⟩, ⟨hb_ HB⟩⟩
/-! ### fields_PutBig: function 19 -/
def fields_PutBig.f (k : Nat) (a0 : Int) (a1 : Int) : Option (ByteArray) := (fields_put_uint64.f k a0 a1 true).bind fun t117 => (some t117)
theorem fields_PutBig.mono : ∀ a0 a1 k, LeO (fields_PutBig.f k a0 a1) (fields_PutBig.f (k + 1) a0 a1) := by
  intro a0 a1 k
  unfold fields_PutBig.f
  repeat' first
      | (with_reducible exact fields_put_uint64.mono _ _ _ _)
      | (with_reducible exact LeO.refl _)
      | (with_reducible exact LeO.none _)
      | (with_reducible refine LeO.ite ?_ ?_)
      | (with_reducible refine LeO.bind ?_ (fun _ => ?_))
      | exact fields_put_uint64.mono _ _ _ _
      | exact LeO.none _
      | refine LeO.ite ?_ ?_
      | refine LeO.bind ?_ (fun _ => ?_)
set_option maxHeartbeats 8000000 in
set_option maxRecDepth 100000 in
theorem fields_PutBig.calls (k : Nat) (a0 : Int) (a1 : Int) (r : ByteArray) (w : World) (h : fields_PutBig.f k a0 a1 = some r) :
    Calls Tryd.prog 19 #[.int .u64 a0, .int .i64 a1] w fun e w' => e = .returned (.string r) ∧ Below w.heap.size w w' := by
  have HB := Aside0.mk (Below.refl w.heap.size w)
  have H : ((fields_put_uint64.f k a0 a1 true).bind fun t117 => (some t117)) = some r := h
  clear h
  replace H := Option.bind_eq_some_iff.mp H
  obtain ⟨t117, A30, H⟩ := H
  replace H : (some t117) = some r := H
  have A3 := Aside0.mk A30
  clear A30
  obtain rfl := Option.some.inj H
  go_enter Tryd.func19, Tryd.ntmps19
  go_wp2_with (first | ((with_reducible refine gate_callee (f := 32) rfl ?_); refine goesL_ (some 7) rfl rfl Tryd.func32 (by kernel_rfl) rfl #[.int .u64 a0, .int .i64 a1, .bool true] rfl (by (try simp only [List.map_toArray, List.map_cons, List.map_nil]); first | done | rfl | (simp only [List.length_drop, List.length_take]; rfl)) ?_; (with_reducible refine (fields_put_uint64.calls k a0 a1 true t117 _ A3.out).mono ?_); rintro e w4 ⟨rfl, hb⟩; refine ⟨_, rfl, ?_⟩; have n0_ := Aside0.mk (below_step (by repeat (first | (with_reducible first | exact HB.out | apply below_alloc | apply pw_below_drewN | apply below_drew1) | exact HB.out)) hb); clear HB; have HB := n0_; clear n0_; (try clear hb); (try clear hb2); (try clear hk); (try clear hi)))
  go_ret
  exact ⟨by first | rfl | (simp [errW_none, errW_some] <;> rfl) | (simp [*, errW_none, errW_some] <;> rfl) | (simp [bt, *]; done) | (unfold bt; simp [*]; done), by repeat (first | (with_reducible first | exact HB.out | apply below_alloc | apply pw_below_drewN | apply below_drew1) | exact HB.out)⟩

/-! ### fields_PutLittle: function 33 -/
def fields_PutLittle.f (k : Nat) (a0 : Int) (a1 : Int) : Option (ByteArray) := (fields_put_uint64.f k a0 a1 false).bind fun t118 => (some t118)
theorem fields_PutLittle.mono : ∀ a0 a1 k, LeO (fields_PutLittle.f k a0 a1) (fields_PutLittle.f (k + 1) a0 a1) := by
  intro a0 a1 k
  unfold fields_PutLittle.f
  repeat' first
      | (with_reducible exact fields_put_uint64.mono _ _ _ _)
      | (with_reducible exact LeO.refl _)
      | (with_reducible exact LeO.none _)
      | (with_reducible refine LeO.ite ?_ ?_)
      | (with_reducible refine LeO.bind ?_ (fun _ => ?_))
      | exact fields_put_uint64.mono _ _ _ _
      | exact LeO.none _
      | refine LeO.ite ?_ ?_
      | refine LeO.bind ?_ (fun _ => ?_)
set_option maxHeartbeats 8000000 in
set_option maxRecDepth 100000 in
theorem fields_PutLittle.calls (k : Nat) (a0 : Int) (a1 : Int) (r : ByteArray) (w : World) (h : fields_PutLittle.f k a0 a1 = some r) :
    Calls Tryd.prog 33 #[.int .u64 a0, .int .i64 a1] w fun e w' => e = .returned (.string r) ∧ Below w.heap.size w w' := by
  have HB := Aside0.mk (Below.refl w.heap.size w)
  have H : ((fields_put_uint64.f k a0 a1 false).bind fun t118 => (some t118)) = some r := h
  clear h
  replace H := Option.bind_eq_some_iff.mp H
  obtain ⟨t118, A30, H⟩ := H
  replace H : (some t118) = some r := H
  have A3 := Aside0.mk A30
  clear A30
  obtain rfl := Option.some.inj H
  go_enter Tryd.func33, Tryd.ntmps33
  go_wp2_with (first | ((with_reducible refine gate_callee (f := 32) rfl ?_); refine goesL_ (some 7) rfl rfl Tryd.func32 (by kernel_rfl) rfl #[.int .u64 a0, .int .i64 a1, .bool false] rfl (by (try simp only [List.map_toArray, List.map_cons, List.map_nil]); first | done | rfl | (simp only [List.length_drop, List.length_take]; rfl)) ?_; (with_reducible refine (fields_put_uint64.calls k a0 a1 false t118 _ A3.out).mono ?_); rintro e w4 ⟨rfl, hb⟩; refine ⟨_, rfl, ?_⟩; have n0_ := Aside0.mk (below_step (by repeat (first | (with_reducible first | exact HB.out | apply below_alloc | apply pw_below_drewN | apply below_drew1) | exact HB.out)) hb); clear HB; have HB := n0_; clear n0_; (try clear hb); (try clear hb2); (try clear hk); (try clear hi)))
  go_ret
  exact ⟨by first | rfl | (simp [errW_none, errW_some] <;> rfl) | (simp [*, errW_none, errW_some] <;> rfl) | (simp [bt, *]; done) | (unfold bt; simp [*]; done), by repeat (first | (with_reducible first | exact HB.out | apply below_alloc | apply pw_below_drewN | apply below_drew1) | exact HB.out)⟩

/-! ### crc_More: function 45 -/
def crc_More.f (a0 : Int) (a1 : ByteArray) : Option Int :=
  if a1.size ≤ 9223372036854775807 ∧ 0 ≤ a0 ∧ a0 < 4294967296 then some (Go.bits .xor .u32 4294967295 (Crc.fold (Go.bits .xor .u32 4294967295 a0) a1.data.toList)) else none
theorem crc_and15 (x : Int) : 0 ≤ Go.bits .and .u32 x 15 ∧ Go.bits .and .u32 x 15 < 16 := by
  have h : ∀ a : BitVec 32, (a &&& 15#32).toNat < 16 := fun a => by
    rw [BitVec.toNat_and]
    exact Nat.lt_of_le_of_lt Nat.and_le_right (by decide)
  have e : Go.bits .and .u32 x 15 = IntKind.u32.wrap ((BitVec.ofInt 32 x &&& 15#32).toNat : Int) := rfl
  rw [e, IntKind.wrap_u32]
  have := h (BitVec.ofInt 32 x)
  omega
theorem crc_take (s : ByteArray) (k : Nat) (h : k < s.size) : s.data.toList.take (k + 1) = s.data.toList.take k ++ [s[k]] := by
  rw [List.take_succ_eq_append_getElem (by simpa using h)]; rfl
set_option maxHeartbeats 4000000 in
set_option maxRecDepth 100000 in
theorem crc_More.calls (a0 : Int) (a1 : ByteArray) (r : Int) (w : World) (hG : Glob w) (h : crc_More.f a0 a1 = some r) :
    Calls Tryd.prog 45 #[.int .u32 a0, .string a1] w fun e w' => e = .returned (.int .u32 r) ∧ Drawn0 w w' := by
  unfold crc_More.f at h
  split at h
  · rename_i hs
    obtain ⟨hs, _, _⟩ := hs
    obtain rfl := Option.some.inj h
    clear h
    have HG := Aside0.mk (hG.crc_steps)
    clear hG
    have hsg : IntKind.u32.signed = false := rfl
    have hmx : IntKind.u32.max = 4294967295 := by decide
    go_enter Tryd.func45, Tryd.ntmps45
    go_wp2
    go_loop [0, 10] (fun wv iv => ∃ k : Nat, k ≤ a1.size ∧ iv = .int .i64 k ∧ wv = .int .u32 (Crc.fold (Go.bits .xor .u32 4294967295 a0) (a1.data.toList.take k))) (fun _ iv => a1.size - (intOf iv).toNat)
    case atStart => exact ⟨0, Nat.zero_le _, rfl, rfl⟩
    case round =>
      obtain ⟨k, hk, rfl, rfl⟩ := hrel
      by_cases hlt : k < a1.size
      · have HS : Aside0 (Crc.fold (Go.bits .xor .u32 4294967295 a0) (a1.data.toList.take (k + 1)) = Crc.step (Crc.fold (Go.bits .xor .u32 4294967295 a0) (a1.data.toList.take k)) (a1[k].toNat : Int)) := Aside0.mk (by rw [crc_take a1 k hlt, Crc.fold_append]; rfl)
        generalize Crc.fold (Go.bits .xor .u32 4294967295 a0) (a1.data.toList.take k) = x at *
        have hb0 : (0 : Int) ≤ (a1[k].toNat : Int) := by omega
        have hb1 : (a1[k].toNat : Int) < 256 := by have := a1[k].toNat_lt; omega
        obtain ⟨t, ht⟩ : ∃ t, t = Go.bits .xor .u32 x (a1[k].toNat : Int) := ⟨_, rfl⟩
        have hA := HG.out (Go.bits .and .u32 t 15).toNat (by have := crc_and15 t; omega)
        have hA0 := (crc_and15 t).1
        have hA1 := (crc_and15 t).2
        obtain ⟨u, hu⟩ : ∃ u, u = Go.bits .xor .u32 (t / 16) (Crc.tat (Go.bits .and .u32 t 15).toNat) := ⟨_, rfl⟩
        have hB := HG.out (Go.bits .and .u32 u 15).toNat (by have := crc_and15 u; omega)
        have hB0 := (crc_and15 u).1
        have hB1 := (crc_and15 u).2
        subst hu
        subst ht
        go_wp2
        go_round
        case rel => exact ⟨k + 1, by omega, by go_num, by rw [HS.out]; rfl⟩
        case measure => simp [intOf]; omega
      · go_wp2
        go_ret
        exact ⟨by rw [List.take_of_length_le (by simp; omega)]; rfl, Drawn0.refl _⟩
  · cases h

/-! ### crc_Sum: function 34 -/
def crc_Sum.f (a0 : ByteArray) : Option (Int) := (crc_More.f 0 a0).bind fun t119 => (some t119)
set_option maxHeartbeats 8000000 in
set_option maxRecDepth 100000 in
theorem crc_Sum.calls (a0 : ByteArray) (r : Int) (w : World) (hG : Glob w) (h : crc_Sum.f a0 = some r) :
    Calls Tryd.prog 34 #[.string a0] w fun e w' => e = .returned (.int .u32 r) ∧ Drawn0 w w' := by
  have HG := Aside0.mk hG
  clear hG
  have H : ((crc_More.f 0 a0).bind fun t119 => (some t119)) = some r := h
  clear h
  replace H := Option.bind_eq_some_iff.mp H
  obtain ⟨t119, A20, H⟩ := H
  replace H : (some t119) = some r := H
  have A2 := Aside0.mk A20
  clear A20
  obtain rfl := Option.some.inj H
  go_enter Tryd.func34, Tryd.ntmps34
  go_wp2_with (first | ((with_reducible refine gate_callee (f := 45) rfl ?_); refine goesL_ (some 4) rfl rfl Tryd.func45 (by kernel_rfl) rfl #[.int .u32 0, .string a0] rfl (by (try simp only [List.map_toArray, List.map_cons, List.map_nil]); first | done | rfl | (simp only [List.length_drop, List.length_take]; rfl)) ?_; (with_reducible refine (crc_More.calls 0 a0 t119 _ ?side1 A2.out).mono ?_); (case side1 => first | ((refine Glob.keep HG.out ?_); (repeat (first | (with_reducible first | exact HB.out | apply below_alloc | apply pw_below_drewN | apply below_drew1) | exact HB.out)); done) | exact HG.out); rintro e w' ⟨rfl, ⟨nd, rfl⟩⟩; refine ⟨_, rfl, ?_⟩))
  go_ret
  exact ⟨by first | rfl | (simp; done) | (simp [*]; done), by repeat (first | exact Drawn0.refl _ | apply Drawn0.step)⟩

/-! ### crc_Digest: function 20 -/
def crc_Digest.f (k : Nat) (a0 : ByteArray) : Option (ByteArray) := (crc_Sum.f a0).bind fun t120 => ((fields_PutLittle.f k (IntKind.u64.wrap (t120)) 4).bind fun t121 => (some t121))
theorem crc_Digest.mono : ∀ a0 k, LeO (crc_Digest.f k a0) (crc_Digest.f (k + 1) a0) := by
  intro a0 k
  unfold crc_Digest.f
  repeat' first
      | (with_reducible exact fields_PutLittle.mono _ _ _)
      | (with_reducible exact LeO.refl _)
      | (with_reducible exact LeO.none _)
      | (with_reducible refine LeO.ite ?_ ?_)
      | (with_reducible refine LeO.bind ?_ (fun _ => ?_))
      | exact fields_PutLittle.mono _ _ _
      | exact LeO.none _
      | refine LeO.ite ?_ ?_
      | refine LeO.bind ?_ (fun _ => ?_)
set_option maxHeartbeats 8000000 in
set_option maxRecDepth 100000 in
theorem crc_Digest.calls (k : Nat) (a0 : ByteArray) (r : ByteArray) (w : World) (hG : Glob w) (h : crc_Digest.f k a0 = some r) :
    Calls Tryd.prog 20 #[.string a0] w fun e w' => e = .returned (.string r) ∧ Below w.heap.size w w' := by
  have HG := Aside0.mk hG
  clear hG
  have HB := Aside0.mk (Below.refl w.heap.size w)
  have H : ((crc_Sum.f a0).bind fun t120 => ((fields_PutLittle.f k (IntKind.u64.wrap (t120)) 4).bind fun t121 => (some t121))) = some r := h
  clear h
  replace H := Option.bind_eq_some_iff.mp H
  obtain ⟨t120, A20, H⟩ := H
  replace H : ((fields_PutLittle.f k (IntKind.u64.wrap (t120)) 4).bind fun t121 => (some t121)) = some r := H
  have A2 := Aside0.mk A20
  clear A20
  replace H := Option.bind_eq_some_iff.mp H
  obtain ⟨t121, A30, H⟩ := H
  replace H : (some t121) = some r := H
  have A3 := Aside0.mk A30
  clear A30
  obtain rfl := Option.some.inj H
  go_enter Tryd.func20, Tryd.ntmps20
  go_wp2_with (first | ((with_reducible refine gate_callee (f := 34) rfl ?_); refine goesL_ (some 4) rfl rfl Tryd.func34 (by kernel_rfl) rfl #[.string a0] rfl (by (try simp only [List.map_toArray, List.map_cons, List.map_nil]); first | done | rfl | (simp only [List.length_drop, List.length_take]; rfl)) ?_; (with_reducible refine (crc_Sum.calls a0 t120 _ ?side1 A2.out).mono ?_); (case side1 => first | ((refine Glob.keep HG.out ?_); (repeat (first | (with_reducible first | exact HB.out | apply below_alloc | apply pw_below_drewN | apply below_drew1) | exact HB.out)); done) | exact HG.out); rintro e w' ⟨rfl, ⟨nd, rfl⟩⟩; refine ⟨_, rfl, ?_⟩) | ((with_reducible refine gate_callee (f := 33) rfl ?_); refine goesL_ (some 6) rfl rfl Tryd.func33 (by kernel_rfl) rfl #[.int .u64 (IntKind.u64.wrap (t120)), .int .i64 4] rfl (by (try simp only [List.map_toArray, List.map_cons, List.map_nil]); first | done | rfl | (simp only [List.length_drop, List.length_take]; rfl)) ?_; (with_reducible refine (fields_PutLittle.calls k (IntKind.u64.wrap (t120)) 4 t121 _ A3.out).mono ?_); rintro e w4 ⟨rfl, hb⟩; refine ⟨_, rfl, ?_⟩; have n0_ := Aside0.mk (below_step (by repeat (first | (with_reducible first | exact HB.out | apply below_alloc | apply pw_below_drewN | apply below_drew1) | exact HB.out)) hb); clear HB; have HB := n0_; clear n0_; (try clear hb); (try clear hb2); (try clear hk); (try clear hi)))
  go_ret
  exact ⟨by first | rfl | (simp [errW_none, errW_some] <;> rfl) | (simp [*, errW_none, errW_some] <;> rfl) | (simp [bt, *]; done) | (unfold bt; simp [*]; done), by repeat (first | (with_reducible first | exact HB.out | apply below_alloc | apply pw_below_drewN | apply below_drew1) | exact HB.out)⟩

end Go.Proofs.YtmpicpenbhdbhaaDoor.P
