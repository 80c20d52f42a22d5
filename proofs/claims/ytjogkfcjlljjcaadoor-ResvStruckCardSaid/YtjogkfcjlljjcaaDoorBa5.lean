-- joined by this session's wip/tools/pack.py: words of the kit's print, cut to what the claim names; functions printed by a patched copy of the printer; walks and lemmas of this session; Lean checks it
import Derived.Test.YtjogkfcjlljjcaaDoorBa4
import Derived.Maps.Own
import Derived.Maps.OwnOps
import Derived.Maps.Views
import Derived.Carry
import Derived.Lib.SliceRun
import Derived.Deep.QuietTactic
import Derived.BigQuiet
import Derived.OwnWalk
namespace Go.Proofs.YtjogkfcjlljjcaaDoor.P
open Go.RowKit Go.Proofs.YtjogkfcjlljjcaaDoorW.PrintWords Go.Proofs.YtjogkfcjlljjcaaDoorW.PrintLast Go.Proofs.YtjogkfcjlljjcaaDoorW.PrintMore
attribute [local go_sem] max2_int min2_int max_two min_two max_three min_three max_four min_four   -- for this text's walks alone
set_option linter.unusedVariables false
set_option linter.unusedSimpArgs false
set_option linter.unnecessarySimpa false
theorem rowc_set1 (m : List S53) (i : Nat) (hi : i < m.length) (ky : Int) : (rowc m).set (i * 2 + 1) (.int .u64 ky) = rowc (m.set i ⟨m[i].f0, ky⟩) := by
  induction m generalizing i with
  | nil => exact absurd hi (Nat.not_lt_zero i)
  | cons y m ih =>
    cases i with
    | zero => rfl
    | succ i => rw [show (i + 1) * 2 + 1 = (i * 2 + 1) + 1 + 1 by omega, rowc_cons, List.set_cons_succ, List.set_cons_succ, ih i (Nat.lt_of_succ_lt_succ hi)]; rfl
theorem Bk.key {w : World} {g : Nat} {m : List S53} {rest : List Value} (h : Bk w g m rest) (i : Nat) (hi : i < m.length) (ky : Int) : Bk (w.setCell ⟨g, i * 2 + 1, none⟩ (.int .u64 ky)) g (m.set i ⟨m[i].f0, ky⟩) rest := by
  have hl := rowc_length m
  refine blk_put h (i * 2 + 1) _ ?_
  rw [List.setIfInBounds_toArray, List.set_append_left _ _ (by omega), rowc_set1]
def keyed (l : List S53) (i : Nat) (ky : Int) : List S53 := l.set i ⟨(rd_T53 l i).f0, ky⟩
theorem Dd.key {w0 w : World} {gd g : Nat} {c : S31} {rg ue : Value} {n cap : Nat} {l : List S53} {typ : Int} {host : ByteArray} {gen : Int} {apt : Bool} {ev : List S46} (h : Dd w0 w gd c rg (.slice (some ⟨g, 0, none⟩) n cap) l typ host gen apt ue ev) (i : Nat) (hi : i < l.length) (ky : Int) :
    (∃ v, w.cell? ⟨g, i * 2 + 1, none⟩ = some (.int .u64 v)) ∧ w.frozen? ⟨g, i * 2 + 1, none⟩ = false ∧ Dd w0 (w.setCell ⟨g, i * 2 + 1, none⟩ (.int .u64 ky)) gd c rg (.slice (some ⟨g, 0, none⟩) n cap) (keyed l i ky) typ host gen apt ue ev := by
  obtain ⟨g', rest, eg, hg, hb, rfl, hc, hm, hr⟩ := R_block h.r
  injection eg with eg
  subst eg
  have hcl := (Bk.cells hb i hi).2
  rw [row_addr] at hcl
  have hb2 := Bk.key hb i hi ky
  have hne : gd ≠ g := fun z => by
    subst z
    have := h.b
    unfold Bk at hb
    rw [this] at hb
    injection hb with hb
    injection hb with _ hb
    exact absurd hb (by decide)
  have hk : keyed l i ky = l.set i ⟨l[i].f0, ky⟩ := by unfold keyed; rw [rd_lt l i hi]
  refine ⟨⟨_, hcl⟩, blk_frozen hb (i * 2 + 1), h.o, blk_far h.b (p := ⟨g, i * 2 + 1, none⟩) (fun z => hne z) _, ?_, Kd.R_mono (Kd.R_far (p := ⟨g, i * 2 + 1, none⟩) (Kd.R_types h.re hb (by decide)) (fun _ hk => hk.2) _) (fun _ hk => hk.1), below_set h.hb hg⟩
  have := block_R (k := l.length) (c := cap) hb2 hg (by rw [List.length_set]; exact Nat.le_refl _) (by rw [List.length_set]; omega) hm (by rw [List.length_set]; omega)
  rw [hk]
  rwa [List.take_of_length_le (by rw [List.length_set]; exact Nat.le_refl _)] at this
theorem Dd.some {w0 w : World} {gd : Nat} {c : S31} {rg ue : Value} {A : Option Addr} {n cap : Nat} {l : List S53} {typ : Int} {host : ByteArray} {gen : Int} {apt : Bool} {ev : List S46} (h : Dd w0 w gd c rg (.slice A n cap) l typ host gen apt ue ev) (hl : 0 < l.length) : ∃ g, A = some ⟨g, 0, none⟩ := by
  obtain ⟨ad, e, _⟩ := (Kd.R_reads' h.r).2.2.2.2 hl
  subst e
  obtain ⟨g, _, e, _⟩ := R_block h.r
  exact ⟨g, by rw [e]⟩
def aptP (c : S31) (apt : Bool) : Bool := if c.f13 = 1 then false else if c.f13 = 2 then true else apt
theorem apt3 (c : S31) (apt : Bool) : (aptP c apt = false ∧ (c.f13 == 1) = true) ∨ (aptP c apt = true ∧ (c.f13 == 1) = false ∧ (c.f13 == 2) = true) ∨ (apt = aptP c apt ∧ (c.f13 == 1) = false ∧ (c.f13 == 2) = false) := by
  unfold aptP
  by_cases h1 : c.f13 = 1
  · exact Or.inl ⟨if_pos h1, beq_iff_eq.mpr h1⟩
  · rw [if_neg h1]
    by_cases h2 : c.f13 = 2
    · exact Or.inr (Or.inl ⟨if_pos h2, beq_eq_false_iff_ne.mpr h1, beq_iff_eq.mpr h2⟩)
    · exact Or.inr (Or.inr ⟨(if_neg h2).symm, beq_eq_false_iff_ne.mpr h1, beq_eq_false_iff_ne.mpr h2⟩)
theorem pass2 (b d : Bool) (h : (!b && d) = false) : b = true ∨ (b = false ∧ d = false) := by cases b <;> cases d <;> simp_all
def freed (c : S31) (typ : Int) (l : List S53) : List S46 := if (typ == 3 || typ == 4) = true then told c (fun _ _ => true) 3 l l.length else []
set_option maxHeartbeats 8000000 in
set_option maxRecDepth 100000 in
theorem register_no (k : Nat) (w0 : World) (gd : Nat) (c : S31) (rg u ue : Value) (l : List S53) (ev : List S46) (typ : Int) (host : ByteArray) (gen : Int) (apt : Bool) (kk : Int) (w : World) (hd : Dd w0 w gd c rg u l typ host gen apt ue ev) (hk : resv_Key.f k l typ host gen apt c.f2 = some kk) (f12 : c.f12 = false) (hk8 : (c.f8 != kk) = true) :
    Calls Tryd.prog 30 #[.pointer (some ⟨gd, 0, none⟩)] w fun e w' => e = .returned (.int .i64 2) ∧ Dd w0 w' gd c rg u l typ host gen apt ue ev := by
  have hu66 := Tryd.underlying66
  have hu31 := Tryd.underlying31
  have hu27 := Tryd.underlying27
  have hu24 := Tryd.underlying24
  have D := Aside0.mk hd
  have HK := Aside0.mk hk
  obtain ⟨Au, cu, eu⟩ := Kd.R_slice hd.r
  subst eu
  clear hd hk
  go_enter Tryd.func30, Tryd.ntmps30
  go_wp2
  have n1_ := Aside0.mk (D.out.below (below_drew (Below.refl _ _)))
  clear D
  have D := n1_
  clear n1_
  refine start_ (n := 11) (S := fun w' => w'.cell? ⟨gd, 14, none⟩ = some (.slice Au l.length cu) ∧ w'.cell? ⟨gd, 15, none⟩ = some (.int .i64 typ) ∧ w'.cell? ⟨gd, 16, none⟩ = some (.string host) ∧ w'.cell? ⟨gd, 17, none⟩ = some (.int .u32 gen) ∧ w'.cell? ⟨gd, 18, none⟩ = some (.bool apt) ∧ w'.cell? ⟨gd, 2, none⟩ = some (.string c.f2)) (ds := []) #[false, false, false, false, false, false, false, false, false, false, false] (by kernel_rfl) rfl rfl ⟨(blk_cell D.out.b 14).trans rfl, (blk_cell D.out.b 15).trans rfl, (blk_cell D.out.b 16).trans rfl, (blk_cell D.out.b 17).trans rfl, (blk_cell D.out.b 18).trans rfl, (blk_cell D.out.b 2).trans rfl⟩ (fun hHeld => ?_)
  generalize w.drew = w1 at D hHeld ⊢
  refine qon_ 0 (some 6) (dB 11 1) ?_
  refine qon_ 1 (some 7) (dB 11 3) ?_
  refine qon_ 2 (some 8) (dB 11 7) ?_
  refine qon_ 4 (some 10) (dB 11 23) ?_
  refine qon_ 5 (some 11) (dB 11 55) ?_
  refine qon_ 6 (some 12) (dB 11 119) ?_
  refine qon_ 7 (some 13) (dB 11 247) ?_
  refine qtk_ 3 (some 9) (dB 11 255) hHeld ?_
  refine qtk_ 8 (some 14) (dB 11 511) hHeld ?_
  refine one_ (i := 9) (N := some 15) (dB 11 1023) rfl rfl (by kernel_rfl) (by decide) (fun K hK => ?_)
  refine goes_ Tryd.func24 (by kernel_rfl) rfl #[.agg #[.slice Au l.length cu, .int .i64 typ, .string host, .int .u32 gen, .bool apt], .string c.f2] (by rfl) rfl rfl (by simp only [List.map_toArray, List.map_cons, List.map_nil]; rfl) ?_
  with_reducible refine (resv_Key.calls k Au cu l typ host gen apt c.f2 kk _ (Kd.R_reads' D.out.r).2.2 (Kd.R_reads' D.out.r).2.1 HK.out).mono ?_
  rintro e_ w2 ⟨rfl, hb⟩
  have n1_ := Aside0.mk (D.out.below hb)
  clear D hb
  have D := n1_
  clear n1_
  refine ⟨_, rfl, ?_⟩
  refine hK.out _ _ ⟨(blk_cell D.out.b 14).trans rfl, (blk_cell D.out.b 15).trans rfl, (blk_cell D.out.b 16).trans rfl, (blk_cell D.out.b 17).trans rfl, (blk_cell D.out.b 18).trans rfl, (blk_cell D.out.b 2).trans rfl⟩ (fun hHeld => ?_)
  clear hK K
  refine norm_ (a' := ?_) ?_ ?_
  rotate_left
  ·show Act.put _ (some 15) _ = _
   simp only [Act.put, la_, lb_, lc_, i64_w, i32_w]
   rfl
  refine qon_ 10 (some 3) (dB 11 2047) ?_
  refine done_ (by kernel_rfl) ?_
  have hcd8 : w2.cell? ⟨gd, 8, none⟩ = some (.int .u64 c.f8) := (blk_cell D.out.b 8).trans rfl
  have hcd12 : w2.cell? ⟨gd, 12, none⟩ = some (.bool false) := (blk_cell D.out.b 12).trans (by show some (Value.bool c.f12) = _; rw [f12])
  go_wp2
  go_ret
  exact ⟨rfl, D.out⟩
set_option maxHeartbeats 8000000 in
set_option maxRecDepth 100000 in
theorem register_same (k : Nat) (w0 : World) (gd : Nat) (c : S31) (rg u ue : Value) (l : List S53) (ev : List S46) (typ : Int) (host : ByteArray) (gen : Int) (apt : Bool) (kk : Int) (w : World) (hd : Dd w0 w gd c rg u l typ host gen apt ue ev) (hk : resv_Key.f k l typ host gen apt c.f2 = some kk) (hps : (!c.f12 && c.f8 != kk) = false) (h9 : c.f9 = 0) (h0 : kk = 0) :
    Calls Tryd.prog 30 #[.pointer (some ⟨gd, 0, none⟩)] w fun e w' => e = .returned (.int .i64 1) ∧ Dd w0 w' gd c rg u l typ host gen (aptP c apt) ue ev := by
  have hu66 := Tryd.underlying66
  have hu31 := Tryd.underlying31
  have hu27 := Tryd.underlying27
  have hu24 := Tryd.underlying24
  have D := Aside0.mk hd
  have HK := Aside0.mk hk
  have F3 := apt3 c apt
  obtain ⟨ap, hap⟩ : ∃ ap, ap = aptP c apt := ⟨_, rfl⟩
  rw [← hap] at F3 ⊢
  clear hap
  have d9 : (c.f9 != 0) = false := by rw [h9]; rfl
  clear h9
  have dk : (kk != 0) = false := by rw [h0]; rfl
  have dk0 : (kk == 0) = true := by rw [h0]; rfl
  clear h0
  obtain ⟨Au, cu, eu⟩ := Kd.R_slice hd.r
  subst eu
  clear hd hk
  rcases pass2 _ _ hps with f12 | ⟨f12, hk8⟩
  · rcases F3 with ⟨rfl, a1⟩ | ⟨rfl, a1, a2⟩ | ⟨rfl, a1, a2⟩
    all_goals
      go_enter Tryd.func30, Tryd.ntmps30
      go_wp2
      have n1_ := Aside0.mk (D.out.below (below_drew (Below.refl _ _)))
      clear D
      have D := n1_
      clear n1_
      refine start_ (n := 11) (S := fun w' => w'.cell? ⟨gd, 14, none⟩ = some (.slice Au l.length cu) ∧ w'.cell? ⟨gd, 15, none⟩ = some (.int .i64 typ) ∧ w'.cell? ⟨gd, 16, none⟩ = some (.string host) ∧ w'.cell? ⟨gd, 17, none⟩ = some (.int .u32 gen) ∧ w'.cell? ⟨gd, 18, none⟩ = some (.bool apt) ∧ w'.cell? ⟨gd, 2, none⟩ = some (.string c.f2)) (ds := []) #[false, false, false, false, false, false, false, false, false, false, false] (by kernel_rfl) rfl rfl ⟨(blk_cell D.out.b 14).trans rfl, (blk_cell D.out.b 15).trans rfl, (blk_cell D.out.b 16).trans rfl, (blk_cell D.out.b 17).trans rfl, (blk_cell D.out.b 18).trans rfl, (blk_cell D.out.b 2).trans rfl⟩ (fun hHeld => ?_)
      generalize w.drew = w1 at D hHeld ⊢
      refine qon_ 0 (some 6) (dB 11 1) ?_
      refine qon_ 1 (some 7) (dB 11 3) ?_
      refine qon_ 2 (some 8) (dB 11 7) ?_
      refine qon_ 4 (some 10) (dB 11 23) ?_
      refine qon_ 5 (some 11) (dB 11 55) ?_
      refine qon_ 6 (some 12) (dB 11 119) ?_
      refine qon_ 7 (some 13) (dB 11 247) ?_
      refine qtk_ 3 (some 9) (dB 11 255) hHeld ?_
      refine qtk_ 8 (some 14) (dB 11 511) hHeld ?_
      refine one_ (i := 9) (N := some 15) (dB 11 1023) rfl rfl (by kernel_rfl) (by decide) (fun K hK => ?_)
      refine goes_ Tryd.func24 (by kernel_rfl) rfl #[.agg #[.slice Au l.length cu, .int .i64 typ, .string host, .int .u32 gen, .bool apt], .string c.f2] (by rfl) rfl rfl (by simp only [List.map_toArray, List.map_cons, List.map_nil]; rfl) ?_
      with_reducible refine (resv_Key.calls k Au cu l typ host gen apt c.f2 kk _ (Kd.R_reads' D.out.r).2.2 (Kd.R_reads' D.out.r).2.1 HK.out).mono ?_
      rintro e_ w2 ⟨rfl, hb⟩
      have n1_ := Aside0.mk (D.out.below hb)
      clear D hb
      have D := n1_
      clear n1_
      refine ⟨_, rfl, ?_⟩
      refine hK.out _ _ ⟨(blk_cell D.out.b 14).trans rfl, (blk_cell D.out.b 15).trans rfl, (blk_cell D.out.b 16).trans rfl, (blk_cell D.out.b 17).trans rfl, (blk_cell D.out.b 18).trans rfl, (blk_cell D.out.b 2).trans rfl⟩ (fun hHeld => ?_)
      clear hK K
      refine norm_ (a' := ?_) ?_ ?_
      rotate_left
      ·show Act.put _ (some 15) _ = _
       simp only [Act.put, la_, lb_, lc_, i64_w, i32_w]
       rfl
      refine qon_ 10 (some 3) (dB 11 2047) ?_
      refine done_ (by kernel_rfl) ?_
      have hcd8 : w2.cell? ⟨gd, 8, none⟩ = some (.int .u64 c.f8) := (blk_cell D.out.b 8).trans rfl
      have hcd9 : w2.cell? ⟨gd, 9, none⟩ = some (.int .u64 c.f9) := (blk_cell D.out.b 9).trans rfl
      have hcd12 : w2.cell? ⟨gd, 12, none⟩ = some (.bool true) := (blk_cell D.out.b 12).trans (by show some (Value.bool c.f12) = _; rw [f12])
      have hcd13 : w2.cell? ⟨gd, 13, none⟩ = some (.int .i64 c.f13) := (blk_cell D.out.b 13).trans rfl
      have hcd18 : w2.cell? ⟨gd, 18, none⟩ = some (.bool apt) := (blk_cell D.out.b 18).trans rfl
      have hfd18 := blk_frozen D.out.b 18
      go_wp2
      go_ret
      exact ⟨rfl, by first | exact D.out.put 18 _ rfl | exact D.out⟩
  · rcases F3 with ⟨rfl, a1⟩ | ⟨rfl, a1, a2⟩ | ⟨rfl, a1, a2⟩
    all_goals
      go_enter Tryd.func30, Tryd.ntmps30
      go_wp2
      have n1_ := Aside0.mk (D.out.below (below_drew (Below.refl _ _)))
      clear D
      have D := n1_
      clear n1_
      refine start_ (n := 11) (S := fun w' => w'.cell? ⟨gd, 14, none⟩ = some (.slice Au l.length cu) ∧ w'.cell? ⟨gd, 15, none⟩ = some (.int .i64 typ) ∧ w'.cell? ⟨gd, 16, none⟩ = some (.string host) ∧ w'.cell? ⟨gd, 17, none⟩ = some (.int .u32 gen) ∧ w'.cell? ⟨gd, 18, none⟩ = some (.bool apt) ∧ w'.cell? ⟨gd, 2, none⟩ = some (.string c.f2)) (ds := []) #[false, false, false, false, false, false, false, false, false, false, false] (by kernel_rfl) rfl rfl ⟨(blk_cell D.out.b 14).trans rfl, (blk_cell D.out.b 15).trans rfl, (blk_cell D.out.b 16).trans rfl, (blk_cell D.out.b 17).trans rfl, (blk_cell D.out.b 18).trans rfl, (blk_cell D.out.b 2).trans rfl⟩ (fun hHeld => ?_)
      generalize w.drew = w1 at D hHeld ⊢
      refine qon_ 0 (some 6) (dB 11 1) ?_
      refine qon_ 1 (some 7) (dB 11 3) ?_
      refine qon_ 2 (some 8) (dB 11 7) ?_
      refine qon_ 4 (some 10) (dB 11 23) ?_
      refine qon_ 5 (some 11) (dB 11 55) ?_
      refine qon_ 6 (some 12) (dB 11 119) ?_
      refine qon_ 7 (some 13) (dB 11 247) ?_
      refine qtk_ 3 (some 9) (dB 11 255) hHeld ?_
      refine qtk_ 8 (some 14) (dB 11 511) hHeld ?_
      refine one_ (i := 9) (N := some 15) (dB 11 1023) rfl rfl (by kernel_rfl) (by decide) (fun K hK => ?_)
      refine goes_ Tryd.func24 (by kernel_rfl) rfl #[.agg #[.slice Au l.length cu, .int .i64 typ, .string host, .int .u32 gen, .bool apt], .string c.f2] (by rfl) rfl rfl (by simp only [List.map_toArray, List.map_cons, List.map_nil]; rfl) ?_
      with_reducible refine (resv_Key.calls k Au cu l typ host gen apt c.f2 kk _ (Kd.R_reads' D.out.r).2.2 (Kd.R_reads' D.out.r).2.1 HK.out).mono ?_
      rintro e_ w2 ⟨rfl, hb⟩
      have n1_ := Aside0.mk (D.out.below hb)
      clear D hb
      have D := n1_
      clear n1_
      refine ⟨_, rfl, ?_⟩
      refine hK.out _ _ ⟨(blk_cell D.out.b 14).trans rfl, (blk_cell D.out.b 15).trans rfl, (blk_cell D.out.b 16).trans rfl, (blk_cell D.out.b 17).trans rfl, (blk_cell D.out.b 18).trans rfl, (blk_cell D.out.b 2).trans rfl⟩ (fun hHeld => ?_)
      clear hK K
      refine norm_ (a' := ?_) ?_ ?_
      rotate_left
      ·show Act.put _ (some 15) _ = _
       simp only [Act.put, la_, lb_, lc_, i64_w, i32_w]
       rfl
      refine qon_ 10 (some 3) (dB 11 2047) ?_
      refine done_ (by kernel_rfl) ?_
      have hcd8 : w2.cell? ⟨gd, 8, none⟩ = some (.int .u64 c.f8) := (blk_cell D.out.b 8).trans rfl
      have hcd9 : w2.cell? ⟨gd, 9, none⟩ = some (.int .u64 c.f9) := (blk_cell D.out.b 9).trans rfl
      have hcd12 : w2.cell? ⟨gd, 12, none⟩ = some (.bool false) := (blk_cell D.out.b 12).trans (by show some (Value.bool c.f12) = _; rw [f12])
      have hcd13 : w2.cell? ⟨gd, 13, none⟩ = some (.int .i64 c.f13) := (blk_cell D.out.b 13).trans rfl
      have hcd18 : w2.cell? ⟨gd, 18, none⟩ = some (.bool apt) := (blk_cell D.out.b 18).trans rfl
      have hfd18 := blk_frozen D.out.b 18
      go_wp2
      go_ret
      exact ⟨rfl, by first | exact D.out.put 18 _ rfl | exact D.out⟩
set_option maxHeartbeats 8000000 in
set_option maxRecDepth 100000 in
theorem register_full (k : Nat) (w0 : World) (gd : Nat) (c : S31) (rg u ue : Value) (l : List S53) (ev : List S46) (typ : Int) (host : ByteArray) (gen : Int) (apt : Bool) (kk : Int) (w : World) (hd : Dd w0 w gd c rg u l typ host gen apt ue ev) (hk : resv_Key.f k l typ host gen apt c.f2 = some kk) (hps : (!c.f12 && c.f8 != kk) = false) (h9 : c.f9 ≠ 0) (h0 : kk = 0) (h16 : l.length = 16) :
    Calls Tryd.prog 30 #[.pointer (some ⟨gd, 0, none⟩)] w fun e w' => e = .returned (.int .i64 8) ∧ Dd w0 w' gd c rg u l typ host gen apt ue ev := by
  have hu66 := Tryd.underlying66
  have hu31 := Tryd.underlying31
  have hu27 := Tryd.underlying27
  have hu24 := Tryd.underlying24
  have D := Aside0.mk hd
  have HK := Aside0.mk hk
  have d9 : (c.f9 != 0) = true := bne_iff_ne.mpr h9
  clear h9
  have dk : (kk != 0) = false := by rw [h0]; rfl
  have dk0 : (kk == 0) = true := by rw [h0]; rfl
  clear h0
  have d16 : ((l.length : Int) == 16) = true := beq_iff_eq.mpr (by omega)
  clear h16
  obtain ⟨Au, cu, eu⟩ := Kd.R_slice hd.r
  subst eu
  clear hd hk
  rcases pass2 _ _ hps with f12 | ⟨f12, hk8⟩
  · skip
    go_enter Tryd.func30, Tryd.ntmps30
    go_wp2
    have n1_ := Aside0.mk (D.out.below (below_drew (Below.refl _ _)))
    clear D
    have D := n1_
    clear n1_
    refine start_ (n := 11) (S := fun w' => w'.cell? ⟨gd, 14, none⟩ = some (.slice Au l.length cu) ∧ w'.cell? ⟨gd, 15, none⟩ = some (.int .i64 typ) ∧ w'.cell? ⟨gd, 16, none⟩ = some (.string host) ∧ w'.cell? ⟨gd, 17, none⟩ = some (.int .u32 gen) ∧ w'.cell? ⟨gd, 18, none⟩ = some (.bool apt) ∧ w'.cell? ⟨gd, 2, none⟩ = some (.string c.f2)) (ds := []) #[false, false, false, false, false, false, false, false, false, false, false] (by kernel_rfl) rfl rfl ⟨(blk_cell D.out.b 14).trans rfl, (blk_cell D.out.b 15).trans rfl, (blk_cell D.out.b 16).trans rfl, (blk_cell D.out.b 17).trans rfl, (blk_cell D.out.b 18).trans rfl, (blk_cell D.out.b 2).trans rfl⟩ (fun hHeld => ?_)
    generalize w.drew = w1 at D hHeld ⊢
    refine qon_ 0 (some 6) (dB 11 1) ?_
    refine qon_ 1 (some 7) (dB 11 3) ?_
    refine qon_ 2 (some 8) (dB 11 7) ?_
    refine qon_ 4 (some 10) (dB 11 23) ?_
    refine qon_ 5 (some 11) (dB 11 55) ?_
    refine qon_ 6 (some 12) (dB 11 119) ?_
    refine qon_ 7 (some 13) (dB 11 247) ?_
    refine qtk_ 3 (some 9) (dB 11 255) hHeld ?_
    refine qtk_ 8 (some 14) (dB 11 511) hHeld ?_
    refine one_ (i := 9) (N := some 15) (dB 11 1023) rfl rfl (by kernel_rfl) (by decide) (fun K hK => ?_)
    refine goes_ Tryd.func24 (by kernel_rfl) rfl #[.agg #[.slice Au l.length cu, .int .i64 typ, .string host, .int .u32 gen, .bool apt], .string c.f2] (by rfl) rfl rfl (by simp only [List.map_toArray, List.map_cons, List.map_nil]; rfl) ?_
    with_reducible refine (resv_Key.calls k Au cu l typ host gen apt c.f2 kk _ (Kd.R_reads' D.out.r).2.2 (Kd.R_reads' D.out.r).2.1 HK.out).mono ?_
    rintro e_ w2 ⟨rfl, hb⟩
    have n1_ := Aside0.mk (D.out.below hb)
    clear D hb
    have D := n1_
    clear n1_
    refine ⟨_, rfl, ?_⟩
    refine hK.out _ _ ⟨(blk_cell D.out.b 14).trans rfl, (blk_cell D.out.b 15).trans rfl, (blk_cell D.out.b 16).trans rfl, (blk_cell D.out.b 17).trans rfl, (blk_cell D.out.b 18).trans rfl, (blk_cell D.out.b 2).trans rfl⟩ (fun hHeld => ?_)
    clear hK K
    refine norm_ (a' := ?_) ?_ ?_
    rotate_left
    ·show Act.put _ (some 15) _ = _
     simp only [Act.put, la_, lb_, lc_, i64_w, i32_w]
     rfl
    refine qon_ 10 (some 3) (dB 11 2047) ?_
    refine done_ (by kernel_rfl) ?_
    have hcd8 : w2.cell? ⟨gd, 8, none⟩ = some (.int .u64 c.f8) := (blk_cell D.out.b 8).trans rfl
    have hcd9 : w2.cell? ⟨gd, 9, none⟩ = some (.int .u64 c.f9) := (blk_cell D.out.b 9).trans rfl
    have hcd12 : w2.cell? ⟨gd, 12, none⟩ = some (.bool true) := (blk_cell D.out.b 12).trans (by show some (Value.bool c.f12) = _; rw [f12])
    have hcd14 : w2.cell? ⟨gd, 14, none⟩ = some (.slice Au l.length cu) := (blk_cell D.out.b 14).trans rfl
    go_wp2
    go_ret
    exact ⟨rfl, D.out⟩
  · skip
    go_enter Tryd.func30, Tryd.ntmps30
    go_wp2
    have n1_ := Aside0.mk (D.out.below (below_drew (Below.refl _ _)))
    clear D
    have D := n1_
    clear n1_
    refine start_ (n := 11) (S := fun w' => w'.cell? ⟨gd, 14, none⟩ = some (.slice Au l.length cu) ∧ w'.cell? ⟨gd, 15, none⟩ = some (.int .i64 typ) ∧ w'.cell? ⟨gd, 16, none⟩ = some (.string host) ∧ w'.cell? ⟨gd, 17, none⟩ = some (.int .u32 gen) ∧ w'.cell? ⟨gd, 18, none⟩ = some (.bool apt) ∧ w'.cell? ⟨gd, 2, none⟩ = some (.string c.f2)) (ds := []) #[false, false, false, false, false, false, false, false, false, false, false] (by kernel_rfl) rfl rfl ⟨(blk_cell D.out.b 14).trans rfl, (blk_cell D.out.b 15).trans rfl, (blk_cell D.out.b 16).trans rfl, (blk_cell D.out.b 17).trans rfl, (blk_cell D.out.b 18).trans rfl, (blk_cell D.out.b 2).trans rfl⟩ (fun hHeld => ?_)
    generalize w.drew = w1 at D hHeld ⊢
    refine qon_ 0 (some 6) (dB 11 1) ?_
    refine qon_ 1 (some 7) (dB 11 3) ?_
    refine qon_ 2 (some 8) (dB 11 7) ?_
    refine qon_ 4 (some 10) (dB 11 23) ?_
    refine qon_ 5 (some 11) (dB 11 55) ?_
    refine qon_ 6 (some 12) (dB 11 119) ?_
    refine qon_ 7 (some 13) (dB 11 247) ?_
    refine qtk_ 3 (some 9) (dB 11 255) hHeld ?_
    refine qtk_ 8 (some 14) (dB 11 511) hHeld ?_
    refine one_ (i := 9) (N := some 15) (dB 11 1023) rfl rfl (by kernel_rfl) (by decide) (fun K hK => ?_)
    refine goes_ Tryd.func24 (by kernel_rfl) rfl #[.agg #[.slice Au l.length cu, .int .i64 typ, .string host, .int .u32 gen, .bool apt], .string c.f2] (by rfl) rfl rfl (by simp only [List.map_toArray, List.map_cons, List.map_nil]; rfl) ?_
    with_reducible refine (resv_Key.calls k Au cu l typ host gen apt c.f2 kk _ (Kd.R_reads' D.out.r).2.2 (Kd.R_reads' D.out.r).2.1 HK.out).mono ?_
    rintro e_ w2 ⟨rfl, hb⟩
    have n1_ := Aside0.mk (D.out.below hb)
    clear D hb
    have D := n1_
    clear n1_
    refine ⟨_, rfl, ?_⟩
    refine hK.out _ _ ⟨(blk_cell D.out.b 14).trans rfl, (blk_cell D.out.b 15).trans rfl, (blk_cell D.out.b 16).trans rfl, (blk_cell D.out.b 17).trans rfl, (blk_cell D.out.b 18).trans rfl, (blk_cell D.out.b 2).trans rfl⟩ (fun hHeld => ?_)
    clear hK K
    refine norm_ (a' := ?_) ?_ ?_
    rotate_left
    ·show Act.put _ (some 15) _ = _
     simp only [Act.put, la_, lb_, lc_, i64_w, i32_w]
     rfl
    refine qon_ 10 (some 3) (dB 11 2047) ?_
    refine done_ (by kernel_rfl) ?_
    have hcd8 : w2.cell? ⟨gd, 8, none⟩ = some (.int .u64 c.f8) := (blk_cell D.out.b 8).trans rfl
    have hcd9 : w2.cell? ⟨gd, 9, none⟩ = some (.int .u64 c.f9) := (blk_cell D.out.b 9).trans rfl
    have hcd12 : w2.cell? ⟨gd, 12, none⟩ = some (.bool false) := (blk_cell D.out.b 12).trans (by show some (Value.bool c.f12) = _; rw [f12])
    have hcd14 : w2.cell? ⟨gd, 14, none⟩ = some (.slice Au l.length cu) := (blk_cell D.out.b 14).trans rfl
    go_wp2
    go_ret
    exact ⟨rfl, D.out⟩
set_option maxHeartbeats 8000000 in
set_option maxRecDepth 100000 in
theorem register_put (k : Nat) (w0 : World) (gd : Nat) (c : S31) (rg u ue : Value) (l : List S53) (ev : List S46) (typ : Int) (host : ByteArray) (gen : Int) (apt : Bool) (kk : Int) (w : World) (hd : Dd w0 w gd c rg u l typ host gen apt ue ev) (hk : resv_Key.f k l typ host gen apt c.f2 = some kk) (hps : (!c.f12 && c.f8 != kk) = false) (h9 : c.f9 ≠ 0) (h0 : kk ≠ 0) (hn : l.length ≤ 1000) (i : Nat) (hi : i < l.length) (hx : idxP (fun s _ => s.toList == c.f2.toList) l = i) :
    Calls Tryd.prog 30 #[.pointer (some ⟨gd, 0, none⟩)] w fun e w' => e = .returned (.int .i64 1) ∧ ∃ u2, Dd w0 w' gd c rg u2 (keyed l i c.f9) typ host ((gen + 1) % 4294967296) (aptP c apt) ue ev := by
  have hu66 := Tryd.underlying66
  have hu31 := Tryd.underlying31
  have hu27 := Tryd.underlying27
  have hu24 := Tryd.underlying24
  have D := Aside0.mk hd
  have HK := Aside0.mk hk
  have F3 := apt3 c apt
  obtain ⟨ap, hap⟩ : ∃ ap, ap = aptP c apt := ⟨_, rfl⟩
  rw [← hap] at F3 ⊢
  clear hap
  have d9 : (c.f9 != 0) = true := bne_iff_ne.mpr h9
  clear h9
  have dk : (kk != 0) = true := bne_iff_ne.mpr h0
  have dk0 : (kk == 0) = false := beq_eq_false_iff_ne.mpr h0
  clear h0
  have hmf : ∀ (fn : Fn) (first cap : Array Value) (w : World), (Instr.makeFunc fn first cap).run Tryd.prog w = .ok (.func fn first cap) w := fun _ _ _ _ => rfl
  have HN2 := Aside0.mk hn
  have HI := Aside0.mk hi
  have HX := Aside0.mk hx
  have p0 : (0 : Int) ≤ (i : Int) := Int.natCast_nonneg i
  have q0 : (i : Int) < (l.length : Int) := by omega
  clear hx hn
  obtain ⟨Au, cu, eu⟩ := Kd.R_slice hd.r
  subst eu
  clear hd hk
  obtain ⟨g, eg⟩ := D.out.some (Nat.lt_of_le_of_lt (Nat.zero_le i) hi)
  subst eg
  clear hi
  rcases pass2 _ _ hps with f12 | ⟨f12, hk8⟩
  · skip
    go_enter Tryd.func30, Tryd.ntmps30
    go_wp2
    have n1_ := Aside0.mk (D.out.below (below_drew (Below.refl _ _)))
    clear D
    have D := n1_
    clear n1_
    refine start_ (n := 11) (S := fun w' => w'.cell? ⟨gd, 14, none⟩ = some (.slice (some ⟨g, 0, none⟩) l.length cu) ∧ w'.cell? ⟨gd, 15, none⟩ = some (.int .i64 typ) ∧ w'.cell? ⟨gd, 16, none⟩ = some (.string host) ∧ w'.cell? ⟨gd, 17, none⟩ = some (.int .u32 gen) ∧ w'.cell? ⟨gd, 18, none⟩ = some (.bool apt) ∧ w'.cell? ⟨gd, 2, none⟩ = some (.string c.f2)) (ds := []) #[false, false, false, false, false, false, false, false, false, false, false] (by kernel_rfl) rfl rfl ⟨(blk_cell D.out.b 14).trans rfl, (blk_cell D.out.b 15).trans rfl, (blk_cell D.out.b 16).trans rfl, (blk_cell D.out.b 17).trans rfl, (blk_cell D.out.b 18).trans rfl, (blk_cell D.out.b 2).trans rfl⟩ (fun hHeld => ?_)
    generalize w.drew = w1 at D hHeld ⊢
    refine qon_ 0 (some 6) (dB 11 1) ?_
    refine qon_ 1 (some 7) (dB 11 3) ?_
    refine qon_ 2 (some 8) (dB 11 7) ?_
    refine qon_ 4 (some 10) (dB 11 23) ?_
    refine qon_ 5 (some 11) (dB 11 55) ?_
    refine qon_ 6 (some 12) (dB 11 119) ?_
    refine qon_ 7 (some 13) (dB 11 247) ?_
    refine qtk_ 3 (some 9) (dB 11 255) hHeld ?_
    refine qtk_ 8 (some 14) (dB 11 511) hHeld ?_
    refine one_ (i := 9) (N := some 15) (dB 11 1023) rfl rfl (by kernel_rfl) (by decide) (fun K hK => ?_)
    refine goes_ Tryd.func24 (by kernel_rfl) rfl #[.agg #[.slice (some ⟨g, 0, none⟩) l.length cu, .int .i64 typ, .string host, .int .u32 gen, .bool apt], .string c.f2] (by rfl) rfl rfl (by simp only [List.map_toArray, List.map_cons, List.map_nil]; rfl) ?_
    with_reducible refine (resv_Key.calls k (some ⟨g, 0, none⟩) cu l typ host gen apt c.f2 kk _ (Kd.R_reads' D.out.r).2.2 (Kd.R_reads' D.out.r).2.1 HK.out).mono ?_
    rintro e_ w2 ⟨rfl, hb⟩
    have n1_ := Aside0.mk (D.out.below hb)
    clear D hb
    have D := n1_
    clear n1_
    refine ⟨_, rfl, ?_⟩
    refine hK.out _ _ ⟨(blk_cell D.out.b 14).trans rfl, (blk_cell D.out.b 15).trans rfl, (blk_cell D.out.b 16).trans rfl, (blk_cell D.out.b 17).trans rfl, (blk_cell D.out.b 18).trans rfl, (blk_cell D.out.b 2).trans rfl⟩ (fun hHeld => ?_)
    clear hK K
    refine norm_ (a' := ?_) ?_ ?_
    rotate_left
    ·show Act.put _ (some 15) _ = _
     simp only [Act.put, la_, lb_, lc_, i64_w, i32_w]
     rfl
    refine qon_ 10 (some 3) (dB 11 2047) ?_
    refine done_ (by kernel_rfl) ?_
    have hcd8 : w2.cell? ⟨gd, 8, none⟩ = some (.int .u64 c.f8) := (blk_cell D.out.b 8).trans rfl
    have hcd9 : w2.cell? ⟨gd, 9, none⟩ = some (.int .u64 c.f9) := (blk_cell D.out.b 9).trans rfl
    have hcd12 : w2.cell? ⟨gd, 12, none⟩ = some (.bool true) := (blk_cell D.out.b 12).trans (by show some (Value.bool c.f12) = _; rw [f12])
    go_wp2
    clear hcd8 hcd9 hcd12
    have n1_ := Aside0.mk (D.out.below (below_drew (Below.refl _ _)))
    clear D
    have D := n1_
    clear n1_
    refine start_ (n := 21) (S := fun w' => w'.cell? ⟨gd, 14, none⟩ = some (.slice (some ⟨g, 0, none⟩) l.length cu) ∧ w'.cell? ⟨gd, 9, none⟩ = some (.int .u64 c.f9)) (ds := [20]) #[false, false, false, false, false, false, false, false, false, false, false, false, false, false, false, false, false, false, false, false, false] (by kernel_rfl) rfl rfl ⟨(blk_cell D.out.b 14).trans rfl, (blk_cell D.out.b 9).trans rfl⟩ (fun hHeld => ?_)
    generalize w2.drew = w3 at D hHeld ⊢
    refine qon_ 0 (some 64) (dB 21 1) ?_
    refine qon_ 1 (some 65) (dB 21 3) ?_
    refine qon_ 2 (some 66) (dB 21 7) ?_
    refine qon_ 3 (some 67) (dB 21 15) ?_
    refine qon_ 5 (some 69) (dB 21 47) ?_
    refine qon_ 6 (some 70) (dB 21 111) ?_
    refine qon_ 7 (some 71) (dB 21 239) ?_
    refine qon_ 8 (some 72) (dB 21 495) ?_
    refine qon_ 10 (some 74) (dB 21 1519) ?_
    refine qon_ 11 (some 75) (dB 21 3567) ?_
    refine qon_ 13 (some 77) (dB 21 11759) ?_
    refine qon_ 14 (some 78) (dB 21 28143) ?_
    refine qon_ 15 (some 79) (dB 21 60911) ?_
    refine qon_ 16 (some 80) (dB 21 126447) ?_
    refine qtk_ 4 (some 68) (dB 21 126463) hHeld ?_
    refine qtk_ 9 (some 73) (dB 21 126975) hHeld ?_
    refine qtk_ 17 (some 81) (dB 21 258047) hHeld ?_
    refine one_ (i := 12) (N := some 76) (dB 21 262143) rfl rfl (by kernel_rfl) (by decide) (fun K hK => ?_)
    refine goes_ Tryd.func52 (by kernel_rfl) rfl #[.slice (some ⟨g, 0, none⟩) l.length cu, (.func (.func 53) #[.pointer (some ⟨gd, 0, none⟩)] #[])] (by rfl) rfl rfl (by simp only [List.map_toArray, List.map_cons, List.map_nil]; rfl) ?_
    with_reducible refine (index_itself (fun s _ => s.toList == c.f2.toList) gd (some ⟨g, 0, none⟩) cu l _ (Kd.R_reads' D.out.r).2.2 HN2.out (fun s ky w1 hb => itself_calls gd c rg _ _ typ host gen apt s ky w1 (blk_below D.out.b hb))).mono ?_
    rw [HX.out]
    rintro e_ w4 ⟨rfl, hb⟩
    have n1_ := Aside0.mk (D.out.below hb)
    clear D hb
    have D := n1_
    clear n1_
    refine ⟨_, rfl, ?_⟩
    refine hK.out _ _ ⟨(blk_cell D.out.b 14).trans rfl, (blk_cell D.out.b 9).trans rfl⟩ (fun hHeld => ?_)
    clear hK K
    refine norm_ (a' := ?_) ?_ ?_
    rotate_left
    ·show Act.put _ (some 76) _ = _
     simp only [Act.put, la_, lb_, lc_, i64_w, i32_w]
     rfl
    refine qon_ 18 (some 82) (dB 21 524287) ?_
    refine qon_ 19 (some 83) (dB 21 1048575) ?_
    refine last_ (i := 20) (N := none) (dB 21 2097151) rfl rfl (by kernel_rfl) (by decide) (fun K hK => ?_)
    obtain ⟨⟨vk_, hs_⟩, hfs_, hd9_⟩ := D.out.key i HI.out c.f9
    have D9_ := Aside0.mk hd9_
    clear hd9_
    refine skip_ (w1 := ?_) (by rfl) rfl ?_ ?_
    rotate_left
    ·go_simp
     rfl
    refine hK.out _ _ ?_
    clear hK K
    refine done_ (by kernel_rfl) ?_
    (first | refine deed_then (fun w' => Aside0 (Dd w0 w' gd c rg (.slice (some ⟨g, 0, none⟩) l.length cu) (keyed l i c.f9) typ host gen apt ue ev)) D9_ ?_ | refine deed_exit (fun w' => Aside0 (Dd w0 w' gd c rg (.slice (some ⟨g, 0, none⟩) l.length cu) (keyed l i c.f9) typ host gen apt ue ev)) D9_ ?_)
    intro w9 DK_
    clear D D9_ hs_ hfs_
    have D := DK_
    clear DK_
    have hcd13 : w9.cell? ⟨gd, 13, none⟩ = some (.int .i64 c.f13) := (blk_cell D.out.b 13).trans rfl
    have hcd17 : w9.cell? ⟨gd, 17, none⟩ = some (.int .u32 gen) := (blk_cell D.out.b 17).trans rfl
    have hcd18 : w9.cell? ⟨gd, 18, none⟩ = some (.bool apt) := (blk_cell D.out.b 18).trans rfl
    have hfd17 := blk_frozen D.out.b 17
    have hfd18 := blk_frozen D.out.b 18
    rcases F3 with ⟨rfl, a1⟩ | ⟨rfl, a1, a2⟩ | ⟨rfl, a1, a2⟩
    all_goals
      go_wp2
      go_ret
      exact ⟨rfl, _, by first | exact (D.out.put 17 _ rfl).put 18 _ rfl | exact D.out.put 17 _ rfl⟩
  · skip
    go_enter Tryd.func30, Tryd.ntmps30
    go_wp2
    have n1_ := Aside0.mk (D.out.below (below_drew (Below.refl _ _)))
    clear D
    have D := n1_
    clear n1_
    refine start_ (n := 11) (S := fun w' => w'.cell? ⟨gd, 14, none⟩ = some (.slice (some ⟨g, 0, none⟩) l.length cu) ∧ w'.cell? ⟨gd, 15, none⟩ = some (.int .i64 typ) ∧ w'.cell? ⟨gd, 16, none⟩ = some (.string host) ∧ w'.cell? ⟨gd, 17, none⟩ = some (.int .u32 gen) ∧ w'.cell? ⟨gd, 18, none⟩ = some (.bool apt) ∧ w'.cell? ⟨gd, 2, none⟩ = some (.string c.f2)) (ds := []) #[false, false, false, false, false, false, false, false, false, false, false] (by kernel_rfl) rfl rfl ⟨(blk_cell D.out.b 14).trans rfl, (blk_cell D.out.b 15).trans rfl, (blk_cell D.out.b 16).trans rfl, (blk_cell D.out.b 17).trans rfl, (blk_cell D.out.b 18).trans rfl, (blk_cell D.out.b 2).trans rfl⟩ (fun hHeld => ?_)
    generalize w.drew = w1 at D hHeld ⊢
    refine qon_ 0 (some 6) (dB 11 1) ?_
    refine qon_ 1 (some 7) (dB 11 3) ?_
    refine qon_ 2 (some 8) (dB 11 7) ?_
    refine qon_ 4 (some 10) (dB 11 23) ?_
    refine qon_ 5 (some 11) (dB 11 55) ?_
    refine qon_ 6 (some 12) (dB 11 119) ?_
    refine qon_ 7 (some 13) (dB 11 247) ?_
    refine qtk_ 3 (some 9) (dB 11 255) hHeld ?_
    refine qtk_ 8 (some 14) (dB 11 511) hHeld ?_
    refine one_ (i := 9) (N := some 15) (dB 11 1023) rfl rfl (by kernel_rfl) (by decide) (fun K hK => ?_)
    refine goes_ Tryd.func24 (by kernel_rfl) rfl #[.agg #[.slice (some ⟨g, 0, none⟩) l.length cu, .int .i64 typ, .string host, .int .u32 gen, .bool apt], .string c.f2] (by rfl) rfl rfl (by simp only [List.map_toArray, List.map_cons, List.map_nil]; rfl) ?_
    with_reducible refine (resv_Key.calls k (some ⟨g, 0, none⟩) cu l typ host gen apt c.f2 kk _ (Kd.R_reads' D.out.r).2.2 (Kd.R_reads' D.out.r).2.1 HK.out).mono ?_
    rintro e_ w2 ⟨rfl, hb⟩
    have n1_ := Aside0.mk (D.out.below hb)
    clear D hb
    have D := n1_
    clear n1_
    refine ⟨_, rfl, ?_⟩
    refine hK.out _ _ ⟨(blk_cell D.out.b 14).trans rfl, (blk_cell D.out.b 15).trans rfl, (blk_cell D.out.b 16).trans rfl, (blk_cell D.out.b 17).trans rfl, (blk_cell D.out.b 18).trans rfl, (blk_cell D.out.b 2).trans rfl⟩ (fun hHeld => ?_)
    clear hK K
    refine norm_ (a' := ?_) ?_ ?_
    rotate_left
    ·show Act.put _ (some 15) _ = _
     simp only [Act.put, la_, lb_, lc_, i64_w, i32_w]
     rfl
    refine qon_ 10 (some 3) (dB 11 2047) ?_
    refine done_ (by kernel_rfl) ?_
    have hcd8 : w2.cell? ⟨gd, 8, none⟩ = some (.int .u64 c.f8) := (blk_cell D.out.b 8).trans rfl
    have hcd9 : w2.cell? ⟨gd, 9, none⟩ = some (.int .u64 c.f9) := (blk_cell D.out.b 9).trans rfl
    have hcd12 : w2.cell? ⟨gd, 12, none⟩ = some (.bool false) := (blk_cell D.out.b 12).trans (by show some (Value.bool c.f12) = _; rw [f12])
    go_wp2
    clear hcd8 hcd9 hcd12
    have n1_ := Aside0.mk (D.out.below (below_drew (Below.refl _ _)))
    clear D
    have D := n1_
    clear n1_
    refine start_ (n := 21) (S := fun w' => w'.cell? ⟨gd, 14, none⟩ = some (.slice (some ⟨g, 0, none⟩) l.length cu) ∧ w'.cell? ⟨gd, 9, none⟩ = some (.int .u64 c.f9)) (ds := [20]) #[false, false, false, false, false, false, false, false, false, false, false, false, false, false, false, false, false, false, false, false, false] (by kernel_rfl) rfl rfl ⟨(blk_cell D.out.b 14).trans rfl, (blk_cell D.out.b 9).trans rfl⟩ (fun hHeld => ?_)
    generalize w2.drew = w3 at D hHeld ⊢
    refine qon_ 0 (some 64) (dB 21 1) ?_
    refine qon_ 1 (some 65) (dB 21 3) ?_
    refine qon_ 2 (some 66) (dB 21 7) ?_
    refine qon_ 3 (some 67) (dB 21 15) ?_
    refine qon_ 5 (some 69) (dB 21 47) ?_
    refine qon_ 6 (some 70) (dB 21 111) ?_
    refine qon_ 7 (some 71) (dB 21 239) ?_
    refine qon_ 8 (some 72) (dB 21 495) ?_
    refine qon_ 10 (some 74) (dB 21 1519) ?_
    refine qon_ 11 (some 75) (dB 21 3567) ?_
    refine qon_ 13 (some 77) (dB 21 11759) ?_
    refine qon_ 14 (some 78) (dB 21 28143) ?_
    refine qon_ 15 (some 79) (dB 21 60911) ?_
    refine qon_ 16 (some 80) (dB 21 126447) ?_
    refine qtk_ 4 (some 68) (dB 21 126463) hHeld ?_
    refine qtk_ 9 (some 73) (dB 21 126975) hHeld ?_
    refine qtk_ 17 (some 81) (dB 21 258047) hHeld ?_
    refine one_ (i := 12) (N := some 76) (dB 21 262143) rfl rfl (by kernel_rfl) (by decide) (fun K hK => ?_)
    refine goes_ Tryd.func52 (by kernel_rfl) rfl #[.slice (some ⟨g, 0, none⟩) l.length cu, (.func (.func 53) #[.pointer (some ⟨gd, 0, none⟩)] #[])] (by rfl) rfl rfl (by simp only [List.map_toArray, List.map_cons, List.map_nil]; rfl) ?_
    with_reducible refine (index_itself (fun s _ => s.toList == c.f2.toList) gd (some ⟨g, 0, none⟩) cu l _ (Kd.R_reads' D.out.r).2.2 HN2.out (fun s ky w1 hb => itself_calls gd c rg _ _ typ host gen apt s ky w1 (blk_below D.out.b hb))).mono ?_
    rw [HX.out]
    rintro e_ w4 ⟨rfl, hb⟩
    have n1_ := Aside0.mk (D.out.below hb)
    clear D hb
    have D := n1_
    clear n1_
    refine ⟨_, rfl, ?_⟩
    refine hK.out _ _ ⟨(blk_cell D.out.b 14).trans rfl, (blk_cell D.out.b 9).trans rfl⟩ (fun hHeld => ?_)
    clear hK K
    refine norm_ (a' := ?_) ?_ ?_
    rotate_left
    ·show Act.put _ (some 76) _ = _
     simp only [Act.put, la_, lb_, lc_, i64_w, i32_w]
     rfl
    refine qon_ 18 (some 82) (dB 21 524287) ?_
    refine qon_ 19 (some 83) (dB 21 1048575) ?_
    refine last_ (i := 20) (N := none) (dB 21 2097151) rfl rfl (by kernel_rfl) (by decide) (fun K hK => ?_)
    obtain ⟨⟨vk_, hs_⟩, hfs_, hd9_⟩ := D.out.key i HI.out c.f9
    have D9_ := Aside0.mk hd9_
    clear hd9_
    refine skip_ (w1 := ?_) (by rfl) rfl ?_ ?_
    rotate_left
    ·go_simp
     rfl
    refine hK.out _ _ ?_
    clear hK K
    refine done_ (by kernel_rfl) ?_
    (first | refine deed_then (fun w' => Aside0 (Dd w0 w' gd c rg (.slice (some ⟨g, 0, none⟩) l.length cu) (keyed l i c.f9) typ host gen apt ue ev)) D9_ ?_ | refine deed_exit (fun w' => Aside0 (Dd w0 w' gd c rg (.slice (some ⟨g, 0, none⟩) l.length cu) (keyed l i c.f9) typ host gen apt ue ev)) D9_ ?_)
    intro w9 DK_
    clear D D9_ hs_ hfs_
    have D := DK_
    clear DK_
    have hcd13 : w9.cell? ⟨gd, 13, none⟩ = some (.int .i64 c.f13) := (blk_cell D.out.b 13).trans rfl
    have hcd17 : w9.cell? ⟨gd, 17, none⟩ = some (.int .u32 gen) := (blk_cell D.out.b 17).trans rfl
    have hcd18 : w9.cell? ⟨gd, 18, none⟩ = some (.bool apt) := (blk_cell D.out.b 18).trans rfl
    have hfd17 := blk_frozen D.out.b 17
    have hfd18 := blk_frozen D.out.b 18
    rcases F3 with ⟨rfl, a1⟩ | ⟨rfl, a1, a2⟩ | ⟨rfl, a1, a2⟩
    all_goals
      go_wp2
      go_ret
      exact ⟨rfl, _, by first | exact (D.out.put 17 _ rfl).put 18 _ rfl | exact D.out.put 17 _ rfl⟩
set_option maxHeartbeats 8000000 in
set_option maxRecDepth 100000 in
theorem register_new (k : Nat) (w0 : World) (gd : Nat) (c : S31) (rg u ue : Value) (l : List S53) (ev : List S46) (typ : Int) (host : ByteArray) (gen : Int) (apt : Bool) (kk : Int) (w : World) (hd : Dd w0 w gd c rg u l typ host gen apt ue ev) (hk : resv_Key.f k l typ host gen apt c.f2 = some kk) (hps : (!c.f12 && c.f8 != kk) = false) (h9 : c.f9 ≠ 0) (h0 : kk = 0) (h16 : l.length ≠ 16) (hn : l.length ≤ 900) (hx : idxP (fun s _ => s.toList == c.f2.toList) (l ++ [(⟨c.f2, 0⟩ : S53)]) = l.length) :
    Calls Tryd.prog 30 #[.pointer (some ⟨gd, 0, none⟩)] w fun e w' => e = .returned (.int .i64 1) ∧ ∃ u2, Dd w0 w' gd c rg u2 (keyed (l ++ [(⟨c.f2, 0⟩ : S53)]) l.length c.f9) typ host ((gen + 1) % 4294967296) (aptP c apt) ue ev := by
  have hu66 := Tryd.underlying66
  have hu31 := Tryd.underlying31
  have hu27 := Tryd.underlying27
  have hu24 := Tryd.underlying24
  have D := Aside0.mk hd
  have HK := Aside0.mk hk
  have F3 := apt3 c apt
  obtain ⟨ap, hap⟩ : ∃ ap, ap = aptP c apt := ⟨_, rfl⟩
  rw [← hap] at F3 ⊢
  clear hap
  have d9 : (c.f9 != 0) = true := bne_iff_ne.mpr h9
  clear h9
  have dk : (kk != 0) = false := by rw [h0]; rfl
  have dk0 : (kk == 0) = true := by rw [h0]; rfl
  clear h0
  have hmf : ∀ (fn : Fn) (first cap : Array Value) (w : World), (Instr.makeFunc fn first cap).run Tryd.prog w = .ok (.func fn first cap) w := fun _ _ _ _ => rfl
  have d16 : ((l.length : Int) == 16) = false := beq_eq_false_iff_ne.mpr (by omega)
  obtain ⟨l2, hl2⟩ : ∃ l2, l2 = l ++ [(⟨c.f2, 0⟩ : S53)] := ⟨_, rfl⟩
  rw [← hl2] at hx ⊢
  have L2 := Aside0.mk hl2
  have hl_ : l2.length = l.length + 1 := by rw [hl2, List.length_append]; rfl
  have HN1 := Aside0.mk hn
  have HN2 := Aside0.mk (show l2.length ≤ 1000 by omega)
  have HI := Aside0.mk (show l.length < l2.length by omega)
  have HX := Aside0.mk hx
  have p0 : (0 : Int) ≤ (l.length : Int) := Int.natCast_nonneg l.length
  have q0 : (l.length : Int) < (l2.length : Int) := by omega
  clear hx hn h16 hl2 hl_
  obtain ⟨Au, cu, eu⟩ := Kd.R_slice hd.r
  subst eu
  clear hd hk
  rcases pass2 _ _ hps with f12 | ⟨f12, hk8⟩
  · skip
    go_enter Tryd.func30, Tryd.ntmps30
    go_wp2
    have n1_ := Aside0.mk (D.out.below (below_drew (Below.refl _ _)))
    clear D
    have D := n1_
    clear n1_
    refine start_ (n := 11) (S := fun w' => w'.cell? ⟨gd, 14, none⟩ = some (.slice Au l.length cu) ∧ w'.cell? ⟨gd, 15, none⟩ = some (.int .i64 typ) ∧ w'.cell? ⟨gd, 16, none⟩ = some (.string host) ∧ w'.cell? ⟨gd, 17, none⟩ = some (.int .u32 gen) ∧ w'.cell? ⟨gd, 18, none⟩ = some (.bool apt) ∧ w'.cell? ⟨gd, 2, none⟩ = some (.string c.f2)) (ds := []) #[false, false, false, false, false, false, false, false, false, false, false] (by kernel_rfl) rfl rfl ⟨(blk_cell D.out.b 14).trans rfl, (blk_cell D.out.b 15).trans rfl, (blk_cell D.out.b 16).trans rfl, (blk_cell D.out.b 17).trans rfl, (blk_cell D.out.b 18).trans rfl, (blk_cell D.out.b 2).trans rfl⟩ (fun hHeld => ?_)
    generalize w.drew = w1 at D hHeld ⊢
    refine qon_ 0 (some 6) (dB 11 1) ?_
    refine qon_ 1 (some 7) (dB 11 3) ?_
    refine qon_ 2 (some 8) (dB 11 7) ?_
    refine qon_ 4 (some 10) (dB 11 23) ?_
    refine qon_ 5 (some 11) (dB 11 55) ?_
    refine qon_ 6 (some 12) (dB 11 119) ?_
    refine qon_ 7 (some 13) (dB 11 247) ?_
    refine qtk_ 3 (some 9) (dB 11 255) hHeld ?_
    refine qtk_ 8 (some 14) (dB 11 511) hHeld ?_
    refine one_ (i := 9) (N := some 15) (dB 11 1023) rfl rfl (by kernel_rfl) (by decide) (fun K hK => ?_)
    refine goes_ Tryd.func24 (by kernel_rfl) rfl #[.agg #[.slice Au l.length cu, .int .i64 typ, .string host, .int .u32 gen, .bool apt], .string c.f2] (by rfl) rfl rfl (by simp only [List.map_toArray, List.map_cons, List.map_nil]; rfl) ?_
    with_reducible refine (resv_Key.calls k Au cu l typ host gen apt c.f2 kk _ (Kd.R_reads' D.out.r).2.2 (Kd.R_reads' D.out.r).2.1 HK.out).mono ?_
    rintro e_ w2 ⟨rfl, hb⟩
    have n1_ := Aside0.mk (D.out.below hb)
    clear D hb
    have D := n1_
    clear n1_
    refine ⟨_, rfl, ?_⟩
    refine hK.out _ _ ⟨(blk_cell D.out.b 14).trans rfl, (blk_cell D.out.b 15).trans rfl, (blk_cell D.out.b 16).trans rfl, (blk_cell D.out.b 17).trans rfl, (blk_cell D.out.b 18).trans rfl, (blk_cell D.out.b 2).trans rfl⟩ (fun hHeld => ?_)
    clear hK K
    refine norm_ (a' := ?_) ?_ ?_
    rotate_left
    ·show Act.put _ (some 15) _ = _
     simp only [Act.put, la_, lb_, lc_, i64_w, i32_w]
     rfl
    refine qon_ 10 (some 3) (dB 11 2047) ?_
    refine done_ (by kernel_rfl) ?_
    have hcd8 : w2.cell? ⟨gd, 8, none⟩ = some (.int .u64 c.f8) := (blk_cell D.out.b 8).trans rfl
    have hcd9 : w2.cell? ⟨gd, 9, none⟩ = some (.int .u64 c.f9) := (blk_cell D.out.b 9).trans rfl
    have hcd12 : w2.cell? ⟨gd, 12, none⟩ = some (.bool true) := (blk_cell D.out.b 12).trans (by show some (Value.bool c.f12) = _; rw [f12])
    have hcd14 : w2.cell? ⟨gd, 14, none⟩ = some (.slice Au l.length cu) := (blk_cell D.out.b 14).trans rfl
    go_wp2
    clear hcd8 hcd9 hcd12 hcd14
    have n1_ := Aside0.mk (D.out.below (below_drew (Below.refl _ _)))
    clear D
    have D := n1_
    clear n1_
    refine start_ (n := 18) (S := fun w' => w'.cell? ⟨gd, 14, none⟩ = some (.slice Au l.length cu) ∧ w'.cell? ⟨gd, 2, none⟩ = some (.string c.f2)) (ds := [17]) #[false, false, false, false, false, false, false, false, false, false, false, false, false, false, false, false, false, false] (by kernel_rfl) rfl rfl ⟨(blk_cell D.out.b 14).trans rfl, (blk_cell D.out.b 2).trans rfl⟩ (fun hHeld => ?_)
    generalize w2.drew = w3 at D hHeld ⊢
    refine qon_ 0 (some 47) (dB 18 1) ?_
    refine qon_ 1 (some 48) (dB 18 3) ?_
    refine qon_ 2 (some 49) (dB 18 7) ?_
    refine qon_ 3 (some 50) (dB 18 15) ?_
    refine qon_ 4 (some 51) (dB 18 31) ?_
    refine qon_ 6 (some 53) (dB 18 95) ?_
    refine qon_ 7 (some 54) (dB 18 223) ?_
    refine qon_ 8 (some 55) (dB 18 479) ?_
    refine qon_ 9 (some 56) (dB 18 991) ?_
    refine qtk_ 5 (some 52) (dB 18 1023) hHeld ?_
    refine qtk_ 10 (some 57) (dB 18 2047) hHeld ?_
    refine qon_ 11 (some 58) (dB 18 4095) ?_
    refine one_ (i := 12) (N := some 59) (dB 18 8191) rfl rfl (by kernel_rfl) (by decide) (fun K hK => ?_)
    refine deed_value (w1 := ?_) (v := ?_) (by rfl) rfl ?_ ?_
    rotate_left 2
    ·go_simp
     constructor
     ·rfl
     ·rfl
    refine hK.out _ _ ⟨(blk_cell (blk_alloc D.out.b _) 14).trans rfl, (blk_cell (blk_alloc D.out.b _) 2).trans rfl⟩ (fun hHeld => ?_)
    clear hK K
    refine norm_ (a' := ?_) ?_ ?_
    rotate_left
    ·show Act.put _ (some 59) _ = _
     simp only [Act.put, la_, lb_, lc_, i64_w, i32_w]
     rfl
    refine one_ (i := 13) (N := some 60) (dB 18 16383) rfl rfl (by kernel_rfl) (by decide) (fun K hK => ?_)
    refine Kd.R_append_step k53 (w0 := w0) w0.heap.size (by rfl) (.tmp 52) (.tmp 59) 22 53 (.agg #[(.string ⟨#[]⟩), (.int .u64 0)]) 24 rfl Tryd.underlying22 info53 rfl (by decide) (by omega) (.slice Au l.length cu) l (⟨c.f2, 0⟩ : S53) [.string c.f2, .int .u64 0] (fun _ => True) (fun _ => False) rfl rfl ?aP (fun _ hk => hk.elim) ?aF ?aO ?aB ?aS ?aL ?_
    (case aP => exact k53_mkM _ _ _ (⟨c.f2, 0⟩ : S53))
    (case aB => exact D.out.hb)
    (case aF => exact (fun _ _ => trivial))
    (case aO => exact D.out.r)
    (case aS => exact below_size D.out.hb)
    (case aL => have := HN1.out; omega)
    intro v1 y1 ho hb hg hat
    rw [← L2.out] at ho
    (try rw [← L2.out])
    obtain ⟨A1, c1, e1⟩ := Kd.R_slice ho
    subst e1
    have n1_ := Aside0.mk (blk_grown D.out.b hg (Kd.R_ne D.out.r D.out.b (by decide)))
    have n2_ := Aside0.mk (row_grown D.out.re D.out.r (by decide) hg)
    have n3_ := Aside0.mk ho
    have n4_ := Aside0.mk hb
    have n5_ := Aside0.mk D.out.o
    clear D ho hb hg hat
    have DB := n1_
    have DE := n2_
    have DR := n3_
    have DH := n4_
    have DO := n5_
    clear n1_ n2_ n3_ n4_ n5_
    refine hK.out _ _ ⟨(blk_cell DB.out 14).trans rfl, (blk_cell DB.out 2).trans rfl⟩ (fun hHeld => ?_)
    clear hK K
    refine norm_ (a' := ?_) ?_ ?_
    rotate_left
    ·show Act.put _ (some 60) _ = _
     simp only [Act.put, la_, lb_, lc_, i64_w, i32_w]
     rfl
    refine qon_ 14 (some 61) (dB 18 32767) ?_
    refine qon_ 15 (some 62) (dB 18 65535) ?_
    refine qon_ 16 (some 63) (dB 18 131071) ?_
    refine last_ (i := 17) (N := none) (dB 18 262143) rfl rfl (by kernel_rfl) (by decide) (fun K hK => ?_)
    have hs_ : y1.cell? ⟨gd, 14, none⟩ = some (.slice Au l.length cu) := (blk_cell DB.out 14).trans rfl
    have hfs_ := blk_frozen DB.out 14
    refine skip_ (w1 := ?_) (by rfl) rfl ?_ ?_
    rotate_left
    ·go_simp
     rfl
    refine hK.out _ _ ?_
    clear hK K
    refine done_ (by kernel_rfl) ?_
    (first | refine deed_then (fun w' => Aside0 (Dd w0 w' gd c rg (.slice A1 l2.length c1) l2 typ host gen apt ue ev)) ⟨⟨DO.out, blk_put DB.out 14 _ rfl, Kd.R_mono (Kd.R_far (p := ⟨gd, 14, none⟩) (Kd.R_types DR.out DB.out (by decide)) (fun _ hk => hk.2) _) (fun _ hk => hk.1), Kd.R_mono (Kd.R_far (p := ⟨gd, 14, none⟩) (Kd.R_types DE.out DB.out (by decide)) (fun _ hk => hk.2) _) (fun _ hk => hk.1), below_set DH.out DO.out⟩⟩ ?_ | refine deed_exit (fun w' => Aside0 (Dd w0 w' gd c rg (.slice A1 l2.length c1) l2 typ host gen apt ue ev)) ⟨⟨DO.out, blk_put DB.out 14 _ rfl, Kd.R_mono (Kd.R_far (p := ⟨gd, 14, none⟩) (Kd.R_types DR.out DB.out (by decide)) (fun _ hk => hk.2) _) (fun _ hk => hk.1), Kd.R_mono (Kd.R_far (p := ⟨gd, 14, none⟩) (Kd.R_types DE.out DB.out (by decide)) (fun _ hk => hk.2) _) (fun _ hk => hk.1), below_set DH.out DO.out⟩⟩ ?_)
    intro w5 DK_
    clear DB DR DE DH DO hs_ hfs_
    have D := DK_
    clear DK_
    obtain ⟨g, eg⟩ := D.out.some (Nat.lt_of_le_of_lt (Nat.zero_le _) HI.out)
    subst eg
    go_wp2
    have n1_ := Aside0.mk (D.out.below (below_drew (Below.refl _ _)))
    clear D
    have D := n1_
    clear n1_
    refine start_ (n := 21) (S := fun w' => w'.cell? ⟨gd, 14, none⟩ = some (.slice (some ⟨g, 0, none⟩) l2.length c1) ∧ w'.cell? ⟨gd, 9, none⟩ = some (.int .u64 c.f9)) (ds := [20]) #[false, false, false, false, false, false, false, false, false, false, false, false, false, false, false, false, false, false, false, false, false] (by kernel_rfl) rfl rfl ⟨(blk_cell D.out.b 14).trans rfl, (blk_cell D.out.b 9).trans rfl⟩ (fun hHeld => ?_)
    generalize w5.drew = w6 at D hHeld ⊢
    refine qon_ 0 (some 64) (dB 21 1) ?_
    refine qon_ 1 (some 65) (dB 21 3) ?_
    refine qon_ 2 (some 66) (dB 21 7) ?_
    refine qon_ 3 (some 67) (dB 21 15) ?_
    refine qon_ 5 (some 69) (dB 21 47) ?_
    refine qon_ 6 (some 70) (dB 21 111) ?_
    refine qon_ 7 (some 71) (dB 21 239) ?_
    refine qon_ 8 (some 72) (dB 21 495) ?_
    refine qon_ 10 (some 74) (dB 21 1519) ?_
    refine qon_ 11 (some 75) (dB 21 3567) ?_
    refine qon_ 13 (some 77) (dB 21 11759) ?_
    refine qon_ 14 (some 78) (dB 21 28143) ?_
    refine qon_ 15 (some 79) (dB 21 60911) ?_
    refine qon_ 16 (some 80) (dB 21 126447) ?_
    refine qtk_ 4 (some 68) (dB 21 126463) hHeld ?_
    refine qtk_ 9 (some 73) (dB 21 126975) hHeld ?_
    refine qtk_ 17 (some 81) (dB 21 258047) hHeld ?_
    refine one_ (i := 12) (N := some 76) (dB 21 262143) rfl rfl (by kernel_rfl) (by decide) (fun K hK => ?_)
    refine goes_ Tryd.func52 (by kernel_rfl) rfl #[.slice (some ⟨g, 0, none⟩) l2.length c1, (.func (.func 53) #[.pointer (some ⟨gd, 0, none⟩)] #[])] (by rfl) rfl rfl (by simp only [List.map_toArray, List.map_cons, List.map_nil]; rfl) ?_
    with_reducible refine (index_itself (fun s _ => s.toList == c.f2.toList) gd (some ⟨g, 0, none⟩) c1 l2 _ (Kd.R_reads' D.out.r).2.2 HN2.out (fun s ky w1 hb => itself_calls gd c rg _ _ typ host gen apt s ky w1 (blk_below D.out.b hb))).mono ?_
    rw [HX.out]
    rintro e_ w7 ⟨rfl, hb⟩
    have n1_ := Aside0.mk (D.out.below hb)
    clear D hb
    have D := n1_
    clear n1_
    refine ⟨_, rfl, ?_⟩
    refine hK.out _ _ ⟨(blk_cell D.out.b 14).trans rfl, (blk_cell D.out.b 9).trans rfl⟩ (fun hHeld => ?_)
    clear hK K
    refine norm_ (a' := ?_) ?_ ?_
    rotate_left
    ·show Act.put _ (some 76) _ = _
     simp only [Act.put, la_, lb_, lc_, i64_w, i32_w]
     rfl
    refine qon_ 18 (some 82) (dB 21 524287) ?_
    refine qon_ 19 (some 83) (dB 21 1048575) ?_
    refine last_ (i := 20) (N := none) (dB 21 2097151) rfl rfl (by kernel_rfl) (by decide) (fun K hK => ?_)
    obtain ⟨⟨vk_, hs_⟩, hfs_, hd9_⟩ := D.out.key l.length HI.out c.f9
    have D9_ := Aside0.mk hd9_
    clear hd9_
    refine skip_ (w1 := ?_) (by rfl) rfl ?_ ?_
    rotate_left
    ·go_simp
     rfl
    refine hK.out _ _ ?_
    clear hK K
    refine done_ (by kernel_rfl) ?_
    (first | refine deed_then (fun w' => Aside0 (Dd w0 w' gd c rg (.slice (some ⟨g, 0, none⟩) l2.length c1) (keyed l2 l.length c.f9) typ host gen apt ue ev)) D9_ ?_ | refine deed_exit (fun w' => Aside0 (Dd w0 w' gd c rg (.slice (some ⟨g, 0, none⟩) l2.length c1) (keyed l2 l.length c.f9) typ host gen apt ue ev)) D9_ ?_)
    intro w9 DK_
    clear D D9_ hs_ hfs_
    have D := DK_
    clear DK_
    have hcd13 : w9.cell? ⟨gd, 13, none⟩ = some (.int .i64 c.f13) := (blk_cell D.out.b 13).trans rfl
    have hcd17 : w9.cell? ⟨gd, 17, none⟩ = some (.int .u32 gen) := (blk_cell D.out.b 17).trans rfl
    have hcd18 : w9.cell? ⟨gd, 18, none⟩ = some (.bool apt) := (blk_cell D.out.b 18).trans rfl
    have hfd17 := blk_frozen D.out.b 17
    have hfd18 := blk_frozen D.out.b 18
    rcases F3 with ⟨rfl, a1⟩ | ⟨rfl, a1, a2⟩ | ⟨rfl, a1, a2⟩
    all_goals
      go_wp2
      go_ret
      exact ⟨rfl, _, by first | exact (D.out.put 17 _ rfl).put 18 _ rfl | exact D.out.put 17 _ rfl⟩
  · skip
    go_enter Tryd.func30, Tryd.ntmps30
    go_wp2
    have n1_ := Aside0.mk (D.out.below (below_drew (Below.refl _ _)))
    clear D
    have D := n1_
    clear n1_
    refine start_ (n := 11) (S := fun w' => w'.cell? ⟨gd, 14, none⟩ = some (.slice Au l.length cu) ∧ w'.cell? ⟨gd, 15, none⟩ = some (.int .i64 typ) ∧ w'.cell? ⟨gd, 16, none⟩ = some (.string host) ∧ w'.cell? ⟨gd, 17, none⟩ = some (.int .u32 gen) ∧ w'.cell? ⟨gd, 18, none⟩ = some (.bool apt) ∧ w'.cell? ⟨gd, 2, none⟩ = some (.string c.f2)) (ds := []) #[false, false, false, false, false, false, false, false, false, false, false] (by kernel_rfl) rfl rfl ⟨(blk_cell D.out.b 14).trans rfl, (blk_cell D.out.b 15).trans rfl, (blk_cell D.out.b 16).trans rfl, (blk_cell D.out.b 17).trans rfl, (blk_cell D.out.b 18).trans rfl, (blk_cell D.out.b 2).trans rfl⟩ (fun hHeld => ?_)
    generalize w.drew = w1 at D hHeld ⊢
    refine qon_ 0 (some 6) (dB 11 1) ?_
    refine qon_ 1 (some 7) (dB 11 3) ?_
    refine qon_ 2 (some 8) (dB 11 7) ?_
    refine qon_ 4 (some 10) (dB 11 23) ?_
    refine qon_ 5 (some 11) (dB 11 55) ?_
    refine qon_ 6 (some 12) (dB 11 119) ?_
    refine qon_ 7 (some 13) (dB 11 247) ?_
    refine qtk_ 3 (some 9) (dB 11 255) hHeld ?_
    refine qtk_ 8 (some 14) (dB 11 511) hHeld ?_
    refine one_ (i := 9) (N := some 15) (dB 11 1023) rfl rfl (by kernel_rfl) (by decide) (fun K hK => ?_)
    refine goes_ Tryd.func24 (by kernel_rfl) rfl #[.agg #[.slice Au l.length cu, .int .i64 typ, .string host, .int .u32 gen, .bool apt], .string c.f2] (by rfl) rfl rfl (by simp only [List.map_toArray, List.map_cons, List.map_nil]; rfl) ?_
    with_reducible refine (resv_Key.calls k Au cu l typ host gen apt c.f2 kk _ (Kd.R_reads' D.out.r).2.2 (Kd.R_reads' D.out.r).2.1 HK.out).mono ?_
    rintro e_ w2 ⟨rfl, hb⟩
    have n1_ := Aside0.mk (D.out.below hb)
    clear D hb
    have D := n1_
    clear n1_
    refine ⟨_, rfl, ?_⟩
    refine hK.out _ _ ⟨(blk_cell D.out.b 14).trans rfl, (blk_cell D.out.b 15).trans rfl, (blk_cell D.out.b 16).trans rfl, (blk_cell D.out.b 17).trans rfl, (blk_cell D.out.b 18).trans rfl, (blk_cell D.out.b 2).trans rfl⟩ (fun hHeld => ?_)
    clear hK K
    refine norm_ (a' := ?_) ?_ ?_
    rotate_left
    ·show Act.put _ (some 15) _ = _
     simp only [Act.put, la_, lb_, lc_, i64_w, i32_w]
     rfl
    refine qon_ 10 (some 3) (dB 11 2047) ?_
    refine done_ (by kernel_rfl) ?_
    have hcd8 : w2.cell? ⟨gd, 8, none⟩ = some (.int .u64 c.f8) := (blk_cell D.out.b 8).trans rfl
    have hcd9 : w2.cell? ⟨gd, 9, none⟩ = some (.int .u64 c.f9) := (blk_cell D.out.b 9).trans rfl
    have hcd12 : w2.cell? ⟨gd, 12, none⟩ = some (.bool false) := (blk_cell D.out.b 12).trans (by show some (Value.bool c.f12) = _; rw [f12])
    have hcd14 : w2.cell? ⟨gd, 14, none⟩ = some (.slice Au l.length cu) := (blk_cell D.out.b 14).trans rfl
    go_wp2
    clear hcd8 hcd9 hcd12 hcd14
    have n1_ := Aside0.mk (D.out.below (below_drew (Below.refl _ _)))
    clear D
    have D := n1_
    clear n1_
    refine start_ (n := 18) (S := fun w' => w'.cell? ⟨gd, 14, none⟩ = some (.slice Au l.length cu) ∧ w'.cell? ⟨gd, 2, none⟩ = some (.string c.f2)) (ds := [17]) #[false, false, false, false, false, false, false, false, false, false, false, false, false, false, false, false, false, false] (by kernel_rfl) rfl rfl ⟨(blk_cell D.out.b 14).trans rfl, (blk_cell D.out.b 2).trans rfl⟩ (fun hHeld => ?_)
    generalize w2.drew = w3 at D hHeld ⊢
    refine qon_ 0 (some 47) (dB 18 1) ?_
    refine qon_ 1 (some 48) (dB 18 3) ?_
    refine qon_ 2 (some 49) (dB 18 7) ?_
    refine qon_ 3 (some 50) (dB 18 15) ?_
    refine qon_ 4 (some 51) (dB 18 31) ?_
    refine qon_ 6 (some 53) (dB 18 95) ?_
    refine qon_ 7 (some 54) (dB 18 223) ?_
    refine qon_ 8 (some 55) (dB 18 479) ?_
    refine qon_ 9 (some 56) (dB 18 991) ?_
    refine qtk_ 5 (some 52) (dB 18 1023) hHeld ?_
    refine qtk_ 10 (some 57) (dB 18 2047) hHeld ?_
    refine qon_ 11 (some 58) (dB 18 4095) ?_
    refine one_ (i := 12) (N := some 59) (dB 18 8191) rfl rfl (by kernel_rfl) (by decide) (fun K hK => ?_)
    refine deed_value (w1 := ?_) (v := ?_) (by rfl) rfl ?_ ?_
    rotate_left 2
    ·go_simp
     constructor
     ·rfl
     ·rfl
    refine hK.out _ _ ⟨(blk_cell (blk_alloc D.out.b _) 14).trans rfl, (blk_cell (blk_alloc D.out.b _) 2).trans rfl⟩ (fun hHeld => ?_)
    clear hK K
    refine norm_ (a' := ?_) ?_ ?_
    rotate_left
    ·show Act.put _ (some 59) _ = _
     simp only [Act.put, la_, lb_, lc_, i64_w, i32_w]
     rfl
    refine one_ (i := 13) (N := some 60) (dB 18 16383) rfl rfl (by kernel_rfl) (by decide) (fun K hK => ?_)
    refine Kd.R_append_step k53 (w0 := w0) w0.heap.size (by rfl) (.tmp 52) (.tmp 59) 22 53 (.agg #[(.string ⟨#[]⟩), (.int .u64 0)]) 24 rfl Tryd.underlying22 info53 rfl (by decide) (by omega) (.slice Au l.length cu) l (⟨c.f2, 0⟩ : S53) [.string c.f2, .int .u64 0] (fun _ => True) (fun _ => False) rfl rfl ?aP (fun _ hk => hk.elim) ?aF ?aO ?aB ?aS ?aL ?_
    (case aP => exact k53_mkM _ _ _ (⟨c.f2, 0⟩ : S53))
    (case aB => exact D.out.hb)
    (case aF => exact (fun _ _ => trivial))
    (case aO => exact D.out.r)
    (case aS => exact below_size D.out.hb)
    (case aL => have := HN1.out; omega)
    intro v1 y1 ho hb hg hat
    rw [← L2.out] at ho
    (try rw [← L2.out])
    obtain ⟨A1, c1, e1⟩ := Kd.R_slice ho
    subst e1
    have n1_ := Aside0.mk (blk_grown D.out.b hg (Kd.R_ne D.out.r D.out.b (by decide)))
    have n2_ := Aside0.mk (row_grown D.out.re D.out.r (by decide) hg)
    have n3_ := Aside0.mk ho
    have n4_ := Aside0.mk hb
    have n5_ := Aside0.mk D.out.o
    clear D ho hb hg hat
    have DB := n1_
    have DE := n2_
    have DR := n3_
    have DH := n4_
    have DO := n5_
    clear n1_ n2_ n3_ n4_ n5_
    refine hK.out _ _ ⟨(blk_cell DB.out 14).trans rfl, (blk_cell DB.out 2).trans rfl⟩ (fun hHeld => ?_)
    clear hK K
    refine norm_ (a' := ?_) ?_ ?_
    rotate_left
    ·show Act.put _ (some 60) _ = _
     simp only [Act.put, la_, lb_, lc_, i64_w, i32_w]
     rfl
    refine qon_ 14 (some 61) (dB 18 32767) ?_
    refine qon_ 15 (some 62) (dB 18 65535) ?_
    refine qon_ 16 (some 63) (dB 18 131071) ?_
    refine last_ (i := 17) (N := none) (dB 18 262143) rfl rfl (by kernel_rfl) (by decide) (fun K hK => ?_)
    have hs_ : y1.cell? ⟨gd, 14, none⟩ = some (.slice Au l.length cu) := (blk_cell DB.out 14).trans rfl
    have hfs_ := blk_frozen DB.out 14
    refine skip_ (w1 := ?_) (by rfl) rfl ?_ ?_
    rotate_left
    ·go_simp
     rfl
    refine hK.out _ _ ?_
    clear hK K
    refine done_ (by kernel_rfl) ?_
    (first | refine deed_then (fun w' => Aside0 (Dd w0 w' gd c rg (.slice A1 l2.length c1) l2 typ host gen apt ue ev)) ⟨⟨DO.out, blk_put DB.out 14 _ rfl, Kd.R_mono (Kd.R_far (p := ⟨gd, 14, none⟩) (Kd.R_types DR.out DB.out (by decide)) (fun _ hk => hk.2) _) (fun _ hk => hk.1), Kd.R_mono (Kd.R_far (p := ⟨gd, 14, none⟩) (Kd.R_types DE.out DB.out (by decide)) (fun _ hk => hk.2) _) (fun _ hk => hk.1), below_set DH.out DO.out⟩⟩ ?_ | refine deed_exit (fun w' => Aside0 (Dd w0 w' gd c rg (.slice A1 l2.length c1) l2 typ host gen apt ue ev)) ⟨⟨DO.out, blk_put DB.out 14 _ rfl, Kd.R_mono (Kd.R_far (p := ⟨gd, 14, none⟩) (Kd.R_types DR.out DB.out (by decide)) (fun _ hk => hk.2) _) (fun _ hk => hk.1), Kd.R_mono (Kd.R_far (p := ⟨gd, 14, none⟩) (Kd.R_types DE.out DB.out (by decide)) (fun _ hk => hk.2) _) (fun _ hk => hk.1), below_set DH.out DO.out⟩⟩ ?_)
    intro w5 DK_
    clear DB DR DE DH DO hs_ hfs_
    have D := DK_
    clear DK_
    obtain ⟨g, eg⟩ := D.out.some (Nat.lt_of_le_of_lt (Nat.zero_le _) HI.out)
    subst eg
    go_wp2
    have n1_ := Aside0.mk (D.out.below (below_drew (Below.refl _ _)))
    clear D
    have D := n1_
    clear n1_
    refine start_ (n := 21) (S := fun w' => w'.cell? ⟨gd, 14, none⟩ = some (.slice (some ⟨g, 0, none⟩) l2.length c1) ∧ w'.cell? ⟨gd, 9, none⟩ = some (.int .u64 c.f9)) (ds := [20]) #[false, false, false, false, false, false, false, false, false, false, false, false, false, false, false, false, false, false, false, false, false] (by kernel_rfl) rfl rfl ⟨(blk_cell D.out.b 14).trans rfl, (blk_cell D.out.b 9).trans rfl⟩ (fun hHeld => ?_)
    generalize w5.drew = w6 at D hHeld ⊢
    refine qon_ 0 (some 64) (dB 21 1) ?_
    refine qon_ 1 (some 65) (dB 21 3) ?_
    refine qon_ 2 (some 66) (dB 21 7) ?_
    refine qon_ 3 (some 67) (dB 21 15) ?_
    refine qon_ 5 (some 69) (dB 21 47) ?_
    refine qon_ 6 (some 70) (dB 21 111) ?_
    refine qon_ 7 (some 71) (dB 21 239) ?_
    refine qon_ 8 (some 72) (dB 21 495) ?_
    refine qon_ 10 (some 74) (dB 21 1519) ?_
    refine qon_ 11 (some 75) (dB 21 3567) ?_
    refine qon_ 13 (some 77) (dB 21 11759) ?_
    refine qon_ 14 (some 78) (dB 21 28143) ?_
    refine qon_ 15 (some 79) (dB 21 60911) ?_
    refine qon_ 16 (some 80) (dB 21 126447) ?_
    refine qtk_ 4 (some 68) (dB 21 126463) hHeld ?_
    refine qtk_ 9 (some 73) (dB 21 126975) hHeld ?_
    refine qtk_ 17 (some 81) (dB 21 258047) hHeld ?_
    refine one_ (i := 12) (N := some 76) (dB 21 262143) rfl rfl (by kernel_rfl) (by decide) (fun K hK => ?_)
    refine goes_ Tryd.func52 (by kernel_rfl) rfl #[.slice (some ⟨g, 0, none⟩) l2.length c1, (.func (.func 53) #[.pointer (some ⟨gd, 0, none⟩)] #[])] (by rfl) rfl rfl (by simp only [List.map_toArray, List.map_cons, List.map_nil]; rfl) ?_
    with_reducible refine (index_itself (fun s _ => s.toList == c.f2.toList) gd (some ⟨g, 0, none⟩) c1 l2 _ (Kd.R_reads' D.out.r).2.2 HN2.out (fun s ky w1 hb => itself_calls gd c rg _ _ typ host gen apt s ky w1 (blk_below D.out.b hb))).mono ?_
    rw [HX.out]
    rintro e_ w7 ⟨rfl, hb⟩
    have n1_ := Aside0.mk (D.out.below hb)
    clear D hb
    have D := n1_
    clear n1_
    refine ⟨_, rfl, ?_⟩
    refine hK.out _ _ ⟨(blk_cell D.out.b 14).trans rfl, (blk_cell D.out.b 9).trans rfl⟩ (fun hHeld => ?_)
    clear hK K
    refine norm_ (a' := ?_) ?_ ?_
    rotate_left
    ·show Act.put _ (some 76) _ = _
     simp only [Act.put, la_, lb_, lc_, i64_w, i32_w]
     rfl
    refine qon_ 18 (some 82) (dB 21 524287) ?_
    refine qon_ 19 (some 83) (dB 21 1048575) ?_
    refine last_ (i := 20) (N := none) (dB 21 2097151) rfl rfl (by kernel_rfl) (by decide) (fun K hK => ?_)
    obtain ⟨⟨vk_, hs_⟩, hfs_, hd9_⟩ := D.out.key l.length HI.out c.f9
    have D9_ := Aside0.mk hd9_
    clear hd9_
    refine skip_ (w1 := ?_) (by rfl) rfl ?_ ?_
    rotate_left
    ·go_simp
     rfl
    refine hK.out _ _ ?_
    clear hK K
    refine done_ (by kernel_rfl) ?_
    (first | refine deed_then (fun w' => Aside0 (Dd w0 w' gd c rg (.slice (some ⟨g, 0, none⟩) l2.length c1) (keyed l2 l.length c.f9) typ host gen apt ue ev)) D9_ ?_ | refine deed_exit (fun w' => Aside0 (Dd w0 w' gd c rg (.slice (some ⟨g, 0, none⟩) l2.length c1) (keyed l2 l.length c.f9) typ host gen apt ue ev)) D9_ ?_)
    intro w9 DK_
    clear D D9_ hs_ hfs_
    have D := DK_
    clear DK_
    have hcd13 : w9.cell? ⟨gd, 13, none⟩ = some (.int .i64 c.f13) := (blk_cell D.out.b 13).trans rfl
    have hcd17 : w9.cell? ⟨gd, 17, none⟩ = some (.int .u32 gen) := (blk_cell D.out.b 17).trans rfl
    have hcd18 : w9.cell? ⟨gd, 18, none⟩ = some (.bool apt) := (blk_cell D.out.b 18).trans rfl
    have hfd17 := blk_frozen D.out.b 17
    have hfd18 := blk_frozen D.out.b 18
    rcases F3 with ⟨rfl, a1⟩ | ⟨rfl, a1, a2⟩ | ⟨rfl, a1, a2⟩
    all_goals
      go_wp2
      go_ret
      exact ⟨rfl, _, by first | exact (D.out.put 17 _ rfl).put 18 _ rfl | exact D.out.put 17 _ rfl⟩
set_option maxHeartbeats 8000000 in
set_option maxRecDepth 100000 in
theorem register_stay (k : Nat) (w0 : World) (gd : Nat) (c : S31) (rg u ue : Value) (l : List S53) (ev : List S46) (typ : Int) (host : ByteArray) (gen : Int) (apt : Bool) (kk : Int) (w : World) (hd : Dd w0 w gd c rg u l typ host gen apt ue ev) (hk : resv_Key.f k l typ host gen apt c.f2 = some kk) (hps : (!c.f12 && c.f8 != kk) = false) (h9 : c.f9 = 0) (h0 : kk ≠ 0) (hn : l.length ≤ 1000) (eb : Bool) (he : resv_everybody.f typ = some eb) (al : Bool) (hal : (host.toList == c.f2.toList) = al) (z : Bool) (hz : ((l.filter fun x => !(x.f0.toList == c.f2.toList)).length == 0) = z) (hs : (al || eb && z) = false) :
    Calls Tryd.prog 30 #[.pointer (some ⟨gd, 0, none⟩)] w fun e w' => e = .returned (.int .i64 1) ∧ ∃ u2, Dd w0 w' gd c rg u2 (l.filter fun x => !(x.f0.toList == c.f2.toList)) typ host ((gen + 1) % 4294967296) (aptP c apt) ue ev := by
  have hu66 := Tryd.underlying66
  have hu31 := Tryd.underlying31
  have hu27 := Tryd.underlying27
  have hu24 := Tryd.underlying24
  have D := Aside0.mk hd
  have HK := Aside0.mk hk
  have F3 := apt3 c apt
  obtain ⟨ap, hap⟩ : ∃ ap, ap = aptP c apt := ⟨_, rfl⟩
  rw [← hap] at F3 ⊢
  clear hap
  have hmf : ∀ (fn : Fn) (first cap : Array Value) (w : World), (Instr.makeFunc fn first cap).run Tryd.prog w = .ok (.func fn first cap) w := fun _ _ _ _ => rfl
  have d9 : (c.f9 != 0) = false := by rw [h9]; rfl
  clear h9
  have dk : (kk != 0) = true := bne_iff_ne.mpr h0
  have dk0 : (kk == 0) = false := beq_eq_false_iff_ne.mpr h0
  clear h0
  obtain ⟨l2, hl2⟩ : ∃ l2, l2 = l.filter fun x => !(x.f0.toList == c.f2.toList) := ⟨_, rfl⟩
  rw [← hl2] at hz ⊢
  have L2 := Aside0.mk hl2
  have HN := Aside0.mk hn
  have HN2 := Aside0.mk (show l2.length ≤ 1000 by have := List.length_filter_le (fun x : S53 => !(x.f0.toList == c.f2.toList)) l; rw [← hl2] at this; omega)
  clear hn hl2
  have HE := Aside0.mk he
  have hz2 : ((l2.length : Int) == 0) = z := by rw [← hz]; cases h : l2.length <;> rfl
  clear he hz
  obtain ⟨Au, cu, eu⟩ := Kd.R_slice hd.r
  subst eu
  clear hd hk
  rcases pass2 _ _ hps with f12 | ⟨f12, hk8⟩
  · skip
    go_enter Tryd.func30, Tryd.ntmps30
    go_wp2
    have n1_ := Aside0.mk (D.out.below (below_drew (Below.refl _ _)))
    clear D
    have D := n1_
    clear n1_
    refine start_ (n := 11) (S := fun w' => w'.cell? ⟨gd, 14, none⟩ = some (.slice Au l.length cu) ∧ w'.cell? ⟨gd, 15, none⟩ = some (.int .i64 typ) ∧ w'.cell? ⟨gd, 16, none⟩ = some (.string host) ∧ w'.cell? ⟨gd, 17, none⟩ = some (.int .u32 gen) ∧ w'.cell? ⟨gd, 18, none⟩ = some (.bool apt) ∧ w'.cell? ⟨gd, 2, none⟩ = some (.string c.f2)) (ds := []) #[false, false, false, false, false, false, false, false, false, false, false] (by kernel_rfl) rfl rfl ⟨(blk_cell D.out.b 14).trans rfl, (blk_cell D.out.b 15).trans rfl, (blk_cell D.out.b 16).trans rfl, (blk_cell D.out.b 17).trans rfl, (blk_cell D.out.b 18).trans rfl, (blk_cell D.out.b 2).trans rfl⟩ (fun hHeld => ?_)
    generalize w.drew = w1 at D hHeld ⊢
    refine qon_ 0 (some 6) (dB 11 1) ?_
    refine qon_ 1 (some 7) (dB 11 3) ?_
    refine qon_ 2 (some 8) (dB 11 7) ?_
    refine qon_ 4 (some 10) (dB 11 23) ?_
    refine qon_ 5 (some 11) (dB 11 55) ?_
    refine qon_ 6 (some 12) (dB 11 119) ?_
    refine qon_ 7 (some 13) (dB 11 247) ?_
    refine qtk_ 3 (some 9) (dB 11 255) hHeld ?_
    refine qtk_ 8 (some 14) (dB 11 511) hHeld ?_
    refine one_ (i := 9) (N := some 15) (dB 11 1023) rfl rfl (by kernel_rfl) (by decide) (fun K hK => ?_)
    refine goes_ Tryd.func24 (by kernel_rfl) rfl #[.agg #[.slice Au l.length cu, .int .i64 typ, .string host, .int .u32 gen, .bool apt], .string c.f2] (by rfl) rfl rfl (by simp only [List.map_toArray, List.map_cons, List.map_nil]; rfl) ?_
    with_reducible refine (resv_Key.calls k Au cu l typ host gen apt c.f2 kk _ (Kd.R_reads' D.out.r).2.2 (Kd.R_reads' D.out.r).2.1 HK.out).mono ?_
    rintro e_ w2 ⟨rfl, hb⟩
    have n1_ := Aside0.mk (D.out.below hb)
    clear D hb
    have D := n1_
    clear n1_
    refine ⟨_, rfl, ?_⟩
    refine hK.out _ _ ⟨(blk_cell D.out.b 14).trans rfl, (blk_cell D.out.b 15).trans rfl, (blk_cell D.out.b 16).trans rfl, (blk_cell D.out.b 17).trans rfl, (blk_cell D.out.b 18).trans rfl, (blk_cell D.out.b 2).trans rfl⟩ (fun hHeld => ?_)
    clear hK K
    refine norm_ (a' := ?_) ?_ ?_
    rotate_left
    ·show Act.put _ (some 15) _ = _
     simp only [Act.put, la_, lb_, lc_, i64_w, i32_w]
     rfl
    refine qon_ 10 (some 3) (dB 11 2047) ?_
    refine done_ (by kernel_rfl) ?_
    have hcd8 : w2.cell? ⟨gd, 8, none⟩ = some (.int .u64 c.f8) := (blk_cell D.out.b 8).trans rfl
    have hcd9 : w2.cell? ⟨gd, 9, none⟩ = some (.int .u64 c.f9) := (blk_cell D.out.b 9).trans rfl
    have hcd12 : w2.cell? ⟨gd, 12, none⟩ = some (.bool true) := (blk_cell D.out.b 12).trans (by show some (Value.bool c.f12) = _; rw [f12])
    go_wp2_with (first
      | (go_at_call 54; refine (drop_itself w0 gd c rg _ _ l _ typ host gen apt _ D.out HN.out).mono ?_; rintro e w5 ⟨rfl, ⟨u2, hd2_⟩⟩; clear D; have D := Aside0.mk (show Dd w0 w5 gd c rg u2 l2 typ host gen apt ue ev by rw [L2.out]; exact hd2_); clear hd2_; obtain ⟨A2, c2, e2⟩ := Kd.R_slice D.out.r; subst e2; have hcd17 : w5.cell? ⟨gd, 17, none⟩ = some (.int .u32 gen) := (blk_cell D.out.b 17).trans rfl; have hfd17 := blk_frozen D.out.b 17))
    refine Hand.at_world (fun w' => Aside0 (Dd w0 w' gd c rg (.slice A2 l2.length c2) l2 typ host ((gen + 1) % 4294967296) apt ue ev)) ⟨D.out.put 17 _ rfl⟩ ?_
    intro w6 DK_
    clear D hcd17 hfd17 hcd8 hcd9 hcd12
    have D := DK_
    clear DK_
    have n1_ := Aside0.mk (D.out.below (below_drew (Below.refl _ _)))
    clear D
    have D := n1_
    clear n1_
    refine start_ (n := 13) (S := fun w' => w'.cell? ⟨gd, 16, none⟩ = some (.string host) ∧ w'.cell? ⟨gd, 2, none⟩ = some (.string c.f2)) (ds := []) #[false, false, false, false, false, false, false, false, false, false, false, false, false] (by kernel_rfl) rfl rfl ⟨(blk_cell D.out.b 16).trans rfl, (blk_cell D.out.b 2).trans rfl⟩ (fun hHeld => ?_)
    generalize w6.drew = w7 at D hHeld ⊢
    refine qon_ 0 (some 109) (dB 13 1) ?_
    refine qon_ 1 (some 110) (dB 13 3) ?_
    refine qon_ 2 (some 111) (dB 13 7) ?_
    refine qon_ 3 (some 112) (dB 13 15) ?_
    refine qon_ 4 (some 113) (dB 13 31) ?_
    refine qon_ 6 (some 115) (dB 13 95) ?_
    refine qon_ 7 (some 116) (dB 13 223) ?_
    refine qon_ 8 (some 117) (dB 13 479) ?_
    refine qon_ 9 (some 118) (dB 13 991) ?_
    refine qtk_ 5 (some 114) (dB 13 1023) hHeld ?_
    refine qtk_ 10 (some 119) (dB 13 2047) hHeld ?_
    refine qon_ 11 (some 120) (dB 13 4095) ?_
    refine qon_ 12 (some 4) (dB 13 8191) ?_
    refine done_ (by kernel_rfl) ?_
    have hcd13 : w7.cell? ⟨gd, 13, none⟩ = some (.int .i64 c.f13) := (blk_cell D.out.b 13).trans rfl
    have hcd14 : w7.cell? ⟨gd, 14, none⟩ = some (.slice A2 l2.length c2) := (blk_cell D.out.b 14).trans rfl
    have hcd15 : w7.cell? ⟨gd, 15, none⟩ = some (.int .i64 typ) := (blk_cell D.out.b 15).trans rfl
    have hcd16 : w7.cell? ⟨gd, 16, none⟩ = some (.string host) := (blk_cell D.out.b 16).trans rfl
    have hcd18 : w7.cell? ⟨gd, 18, none⟩ = some (.bool apt) := (blk_cell D.out.b 18).trans rfl
    have hfd15 := blk_frozen D.out.b 15
    have hfd16 := blk_frozen D.out.b 16
    have hfd18 := blk_frozen D.out.b 18
    cases al
    · cases eb
      · skip
        rcases F3 with ⟨rfl, a1⟩ | ⟨rfl, a1, a2⟩ | ⟨rfl, a1, a2⟩
        all_goals
          go_wp2_with (first
            | (go_at_call 46; refine (resv_everybody.calls typ false _ HE.out).mono ?_; rintro e w8 ⟨rfl, hd⟩; have hb_ := hd.below; have n1_ := Aside0.mk (D.out.below hb_); clear D hd hb_; clear hcd13 hcd14 hcd15 hcd16 hcd18 hfd15 hfd16 hfd18; have D := n1_; clear n1_; have hcd13 : w8.cell? ⟨gd, 13, none⟩ = some (.int .i64 c.f13) := (blk_cell D.out.b 13).trans rfl; have hcd14 : w8.cell? ⟨gd, 14, none⟩ = some (.slice A2 l2.length c2) := (blk_cell D.out.b 14).trans rfl; have hcd15 : w8.cell? ⟨gd, 15, none⟩ = some (.int .i64 typ) := (blk_cell D.out.b 15).trans rfl; have hcd16 : w8.cell? ⟨gd, 16, none⟩ = some (.string host) := (blk_cell D.out.b 16).trans rfl; have hcd18 : w8.cell? ⟨gd, 18, none⟩ = some (.bool apt) := (blk_cell D.out.b 18).trans rfl; have hfd15 := blk_frozen D.out.b 15; have hfd16 := blk_frozen D.out.b 16; have hfd18 := blk_frozen D.out.b 18))
          go_ret
          exact ⟨rfl, _, by first | exact D.out.put 18 _ rfl | exact D.out⟩
      · cases z
        · skip
          rcases F3 with ⟨rfl, a1⟩ | ⟨rfl, a1, a2⟩ | ⟨rfl, a1, a2⟩
          all_goals
            go_wp2_with (first
              | (go_at_call 46; refine (resv_everybody.calls typ true _ HE.out).mono ?_; rintro e w8 ⟨rfl, hd⟩; have hb_ := hd.below; have n1_ := Aside0.mk (D.out.below hb_); clear D hd hb_; clear hcd13 hcd14 hcd15 hcd16 hcd18 hfd15 hfd16 hfd18; have D := n1_; clear n1_; have hcd13 : w8.cell? ⟨gd, 13, none⟩ = some (.int .i64 c.f13) := (blk_cell D.out.b 13).trans rfl; have hcd14 : w8.cell? ⟨gd, 14, none⟩ = some (.slice A2 l2.length c2) := (blk_cell D.out.b 14).trans rfl; have hcd15 : w8.cell? ⟨gd, 15, none⟩ = some (.int .i64 typ) := (blk_cell D.out.b 15).trans rfl; have hcd16 : w8.cell? ⟨gd, 16, none⟩ = some (.string host) := (blk_cell D.out.b 16).trans rfl; have hcd18 : w8.cell? ⟨gd, 18, none⟩ = some (.bool apt) := (blk_cell D.out.b 18).trans rfl; have hfd15 := blk_frozen D.out.b 15; have hfd16 := blk_frozen D.out.b 16; have hfd18 := blk_frozen D.out.b 18))
            go_ret
            exact ⟨rfl, _, by first | exact D.out.put 18 _ rfl | exact D.out⟩
        · exact absurd hs (by decide)
    · exact absurd hs (by simp)
  · skip
    go_enter Tryd.func30, Tryd.ntmps30
    go_wp2
    have n1_ := Aside0.mk (D.out.below (below_drew (Below.refl _ _)))
    clear D
    have D := n1_
    clear n1_
    refine start_ (n := 11) (S := fun w' => w'.cell? ⟨gd, 14, none⟩ = some (.slice Au l.length cu) ∧ w'.cell? ⟨gd, 15, none⟩ = some (.int .i64 typ) ∧ w'.cell? ⟨gd, 16, none⟩ = some (.string host) ∧ w'.cell? ⟨gd, 17, none⟩ = some (.int .u32 gen) ∧ w'.cell? ⟨gd, 18, none⟩ = some (.bool apt) ∧ w'.cell? ⟨gd, 2, none⟩ = some (.string c.f2)) (ds := []) #[false, false, false, false, false, false, false, false, false, false, false] (by kernel_rfl) rfl rfl ⟨(blk_cell D.out.b 14).trans rfl, (blk_cell D.out.b 15).trans rfl, (blk_cell D.out.b 16).trans rfl, (blk_cell D.out.b 17).trans rfl, (blk_cell D.out.b 18).trans rfl, (blk_cell D.out.b 2).trans rfl⟩ (fun hHeld => ?_)
    generalize w.drew = w1 at D hHeld ⊢
    refine qon_ 0 (some 6) (dB 11 1) ?_
    refine qon_ 1 (some 7) (dB 11 3) ?_
    refine qon_ 2 (some 8) (dB 11 7) ?_
    refine qon_ 4 (some 10) (dB 11 23) ?_
    refine qon_ 5 (some 11) (dB 11 55) ?_
    refine qon_ 6 (some 12) (dB 11 119) ?_
    refine qon_ 7 (some 13) (dB 11 247) ?_
    refine qtk_ 3 (some 9) (dB 11 255) hHeld ?_
    refine qtk_ 8 (some 14) (dB 11 511) hHeld ?_
    refine one_ (i := 9) (N := some 15) (dB 11 1023) rfl rfl (by kernel_rfl) (by decide) (fun K hK => ?_)
    refine goes_ Tryd.func24 (by kernel_rfl) rfl #[.agg #[.slice Au l.length cu, .int .i64 typ, .string host, .int .u32 gen, .bool apt], .string c.f2] (by rfl) rfl rfl (by simp only [List.map_toArray, List.map_cons, List.map_nil]; rfl) ?_
    with_reducible refine (resv_Key.calls k Au cu l typ host gen apt c.f2 kk _ (Kd.R_reads' D.out.r).2.2 (Kd.R_reads' D.out.r).2.1 HK.out).mono ?_
    rintro e_ w2 ⟨rfl, hb⟩
    have n1_ := Aside0.mk (D.out.below hb)
    clear D hb
    have D := n1_
    clear n1_
    refine ⟨_, rfl, ?_⟩
    refine hK.out _ _ ⟨(blk_cell D.out.b 14).trans rfl, (blk_cell D.out.b 15).trans rfl, (blk_cell D.out.b 16).trans rfl, (blk_cell D.out.b 17).trans rfl, (blk_cell D.out.b 18).trans rfl, (blk_cell D.out.b 2).trans rfl⟩ (fun hHeld => ?_)
    clear hK K
    refine norm_ (a' := ?_) ?_ ?_
    rotate_left
    ·show Act.put _ (some 15) _ = _
     simp only [Act.put, la_, lb_, lc_, i64_w, i32_w]
     rfl
    refine qon_ 10 (some 3) (dB 11 2047) ?_
    refine done_ (by kernel_rfl) ?_
    have hcd8 : w2.cell? ⟨gd, 8, none⟩ = some (.int .u64 c.f8) := (blk_cell D.out.b 8).trans rfl
    have hcd9 : w2.cell? ⟨gd, 9, none⟩ = some (.int .u64 c.f9) := (blk_cell D.out.b 9).trans rfl
    have hcd12 : w2.cell? ⟨gd, 12, none⟩ = some (.bool false) := (blk_cell D.out.b 12).trans (by show some (Value.bool c.f12) = _; rw [f12])
    go_wp2_with (first
      | (go_at_call 54; refine (drop_itself w0 gd c rg _ _ l _ typ host gen apt _ D.out HN.out).mono ?_; rintro e w5 ⟨rfl, ⟨u2, hd2_⟩⟩; clear D; have D := Aside0.mk (show Dd w0 w5 gd c rg u2 l2 typ host gen apt ue ev by rw [L2.out]; exact hd2_); clear hd2_; obtain ⟨A2, c2, e2⟩ := Kd.R_slice D.out.r; subst e2; have hcd17 : w5.cell? ⟨gd, 17, none⟩ = some (.int .u32 gen) := (blk_cell D.out.b 17).trans rfl; have hfd17 := blk_frozen D.out.b 17))
    refine Hand.at_world (fun w' => Aside0 (Dd w0 w' gd c rg (.slice A2 l2.length c2) l2 typ host ((gen + 1) % 4294967296) apt ue ev)) ⟨D.out.put 17 _ rfl⟩ ?_
    intro w6 DK_
    clear D hcd17 hfd17 hcd8 hcd9 hcd12
    have D := DK_
    clear DK_
    have n1_ := Aside0.mk (D.out.below (below_drew (Below.refl _ _)))
    clear D
    have D := n1_
    clear n1_
    refine start_ (n := 13) (S := fun w' => w'.cell? ⟨gd, 16, none⟩ = some (.string host) ∧ w'.cell? ⟨gd, 2, none⟩ = some (.string c.f2)) (ds := []) #[false, false, false, false, false, false, false, false, false, false, false, false, false] (by kernel_rfl) rfl rfl ⟨(blk_cell D.out.b 16).trans rfl, (blk_cell D.out.b 2).trans rfl⟩ (fun hHeld => ?_)
    generalize w6.drew = w7 at D hHeld ⊢
    refine qon_ 0 (some 109) (dB 13 1) ?_
    refine qon_ 1 (some 110) (dB 13 3) ?_
    refine qon_ 2 (some 111) (dB 13 7) ?_
    refine qon_ 3 (some 112) (dB 13 15) ?_
    refine qon_ 4 (some 113) (dB 13 31) ?_
    refine qon_ 6 (some 115) (dB 13 95) ?_
    refine qon_ 7 (some 116) (dB 13 223) ?_
    refine qon_ 8 (some 117) (dB 13 479) ?_
    refine qon_ 9 (some 118) (dB 13 991) ?_
    refine qtk_ 5 (some 114) (dB 13 1023) hHeld ?_
    refine qtk_ 10 (some 119) (dB 13 2047) hHeld ?_
    refine qon_ 11 (some 120) (dB 13 4095) ?_
    refine qon_ 12 (some 4) (dB 13 8191) ?_
    refine done_ (by kernel_rfl) ?_
    have hcd13 : w7.cell? ⟨gd, 13, none⟩ = some (.int .i64 c.f13) := (blk_cell D.out.b 13).trans rfl
    have hcd14 : w7.cell? ⟨gd, 14, none⟩ = some (.slice A2 l2.length c2) := (blk_cell D.out.b 14).trans rfl
    have hcd15 : w7.cell? ⟨gd, 15, none⟩ = some (.int .i64 typ) := (blk_cell D.out.b 15).trans rfl
    have hcd16 : w7.cell? ⟨gd, 16, none⟩ = some (.string host) := (blk_cell D.out.b 16).trans rfl
    have hcd18 : w7.cell? ⟨gd, 18, none⟩ = some (.bool apt) := (blk_cell D.out.b 18).trans rfl
    have hfd15 := blk_frozen D.out.b 15
    have hfd16 := blk_frozen D.out.b 16
    have hfd18 := blk_frozen D.out.b 18
    cases al
    · cases eb
      · skip
        rcases F3 with ⟨rfl, a1⟩ | ⟨rfl, a1, a2⟩ | ⟨rfl, a1, a2⟩
        all_goals
          go_wp2_with (first
            | (go_at_call 46; refine (resv_everybody.calls typ false _ HE.out).mono ?_; rintro e w8 ⟨rfl, hd⟩; have hb_ := hd.below; have n1_ := Aside0.mk (D.out.below hb_); clear D hd hb_; clear hcd13 hcd14 hcd15 hcd16 hcd18 hfd15 hfd16 hfd18; have D := n1_; clear n1_; have hcd13 : w8.cell? ⟨gd, 13, none⟩ = some (.int .i64 c.f13) := (blk_cell D.out.b 13).trans rfl; have hcd14 : w8.cell? ⟨gd, 14, none⟩ = some (.slice A2 l2.length c2) := (blk_cell D.out.b 14).trans rfl; have hcd15 : w8.cell? ⟨gd, 15, none⟩ = some (.int .i64 typ) := (blk_cell D.out.b 15).trans rfl; have hcd16 : w8.cell? ⟨gd, 16, none⟩ = some (.string host) := (blk_cell D.out.b 16).trans rfl; have hcd18 : w8.cell? ⟨gd, 18, none⟩ = some (.bool apt) := (blk_cell D.out.b 18).trans rfl; have hfd15 := blk_frozen D.out.b 15; have hfd16 := blk_frozen D.out.b 16; have hfd18 := blk_frozen D.out.b 18))
          go_ret
          exact ⟨rfl, _, by first | exact D.out.put 18 _ rfl | exact D.out⟩
      · cases z
        · skip
          rcases F3 with ⟨rfl, a1⟩ | ⟨rfl, a1, a2⟩ | ⟨rfl, a1, a2⟩
          all_goals
            go_wp2_with (first
              | (go_at_call 46; refine (resv_everybody.calls typ true _ HE.out).mono ?_; rintro e w8 ⟨rfl, hd⟩; have hb_ := hd.below; have n1_ := Aside0.mk (D.out.below hb_); clear D hd hb_; clear hcd13 hcd14 hcd15 hcd16 hcd18 hfd15 hfd16 hfd18; have D := n1_; clear n1_; have hcd13 : w8.cell? ⟨gd, 13, none⟩ = some (.int .i64 c.f13) := (blk_cell D.out.b 13).trans rfl; have hcd14 : w8.cell? ⟨gd, 14, none⟩ = some (.slice A2 l2.length c2) := (blk_cell D.out.b 14).trans rfl; have hcd15 : w8.cell? ⟨gd, 15, none⟩ = some (.int .i64 typ) := (blk_cell D.out.b 15).trans rfl; have hcd16 : w8.cell? ⟨gd, 16, none⟩ = some (.string host) := (blk_cell D.out.b 16).trans rfl; have hcd18 : w8.cell? ⟨gd, 18, none⟩ = some (.bool apt) := (blk_cell D.out.b 18).trans rfl; have hfd15 := blk_frozen D.out.b 15; have hfd16 := blk_frozen D.out.b 16; have hfd18 := blk_frozen D.out.b 18))
            go_ret
            exact ⟨rfl, _, by first | exact D.out.put 18 _ rfl | exact D.out⟩
        · exact absurd hs (by decide)
    · exact absurd hs (by simp)
set_option maxHeartbeats 8000000 in
set_option maxRecDepth 100000 in
theorem register_free (k : Nat) (w0 : World) (gd : Nat) (c : S31) (rg u ue : Value) (l : List S53) (ev : List S46) (typ : Int) (host : ByteArray) (gen : Int) (apt : Bool) (kk : Int) (w : World) (hd : Dd w0 w gd c rg u l typ host gen apt ue ev) (hk : resv_Key.f k l typ host gen apt c.f2 = some kk) (hps : (!c.f12 && c.f8 != kk) = false) (h9 : c.f9 = 0) (h0 : kk ≠ 0) (hev : ev.length ≤ 1000) (hn : l.length ≤ 1000) (eb : Bool) (he : resv_everybody.f typ = some eb) (al : Bool) (hal : (host.toList == c.f2.toList) = al) (z : Bool) (hz : ((l.filter fun x => !(x.f0.toList == c.f2.toList)).length == 0) = z) (hs : (al || eb && z) = true) :
    Calls Tryd.prog 30 #[.pointer (some ⟨gd, 0, none⟩)] w fun e w' => e = .returned (.int .i64 1) ∧ ∃ u2 ue2, Dd w0 w' gd c rg u2 (l.filter fun x => !(x.f0.toList == c.f2.toList)) 0 (⟨#[]⟩ : ByteArray) ((gen + 1) % 4294967296) (aptP c apt) ue2 (ev ++ freed c typ (l.filter fun x => !(x.f0.toList == c.f2.toList))) := by
  have hu66 := Tryd.underlying66
  have hu31 := Tryd.underlying31
  have hu27 := Tryd.underlying27
  have hu24 := Tryd.underlying24
  have D := Aside0.mk hd
  have HK := Aside0.mk hk
  have F3 := apt3 c apt
  obtain ⟨ap, hap⟩ : ∃ ap, ap = aptP c apt := ⟨_, rfl⟩
  rw [← hap] at F3 ⊢
  clear hap
  have hmf : ∀ (fn : Fn) (first cap : Array Value) (w : World), (Instr.makeFunc fn first cap).run Tryd.prog w = .ok (.func fn first cap) w := fun _ _ _ _ => rfl
  have d9 : (c.f9 != 0) = false := by rw [h9]; rfl
  clear h9
  have dk : (kk != 0) = true := bne_iff_ne.mpr h0
  have dk0 : (kk == 0) = false := beq_eq_false_iff_ne.mpr h0
  clear h0
  obtain ⟨l2, hl2⟩ : ∃ l2, l2 = l.filter fun x => !(x.f0.toList == c.f2.toList) := ⟨_, rfl⟩
  rw [← hl2] at hz ⊢
  have L2 := Aside0.mk hl2
  have HN := Aside0.mk hn
  have HN2 := Aside0.mk (show l2.length ≤ 1000 by have := List.length_filter_le (fun x : S53 => !(x.f0.toList == c.f2.toList)) l; rw [← hl2] at this; omega)
  clear hn hl2
  have HE := Aside0.mk he
  have HEV := Aside0.mk hev
  have hz2 : ((l2.length : Int) == 0) = z := by rw [← hz]; cases h : l2.length <;> rfl
  clear he hz hev
  obtain ⟨t3, h3⟩ : ∃ t3, (typ == 3) = t3 := ⟨_, rfl⟩
  obtain ⟨t4, h4⟩ : ∃ t4, (typ == 4) = t4 := ⟨_, rfl⟩
  obtain ⟨Au, cu, eu⟩ := Kd.R_slice hd.r
  subst eu
  clear hd hk
  rcases pass2 _ _ hps with f12 | ⟨f12, hk8⟩
  · skip
    go_enter Tryd.func30, Tryd.ntmps30
    go_wp2
    have n1_ := Aside0.mk (D.out.below (below_drew (Below.refl _ _)))
    clear D
    have D := n1_
    clear n1_
    refine start_ (n := 11) (S := fun w' => w'.cell? ⟨gd, 14, none⟩ = some (.slice Au l.length cu) ∧ w'.cell? ⟨gd, 15, none⟩ = some (.int .i64 typ) ∧ w'.cell? ⟨gd, 16, none⟩ = some (.string host) ∧ w'.cell? ⟨gd, 17, none⟩ = some (.int .u32 gen) ∧ w'.cell? ⟨gd, 18, none⟩ = some (.bool apt) ∧ w'.cell? ⟨gd, 2, none⟩ = some (.string c.f2)) (ds := []) #[false, false, false, false, false, false, false, false, false, false, false] (by kernel_rfl) rfl rfl ⟨(blk_cell D.out.b 14).trans rfl, (blk_cell D.out.b 15).trans rfl, (blk_cell D.out.b 16).trans rfl, (blk_cell D.out.b 17).trans rfl, (blk_cell D.out.b 18).trans rfl, (blk_cell D.out.b 2).trans rfl⟩ (fun hHeld => ?_)
    generalize w.drew = w1 at D hHeld ⊢
    refine qon_ 0 (some 6) (dB 11 1) ?_
    refine qon_ 1 (some 7) (dB 11 3) ?_
    refine qon_ 2 (some 8) (dB 11 7) ?_
    refine qon_ 4 (some 10) (dB 11 23) ?_
    refine qon_ 5 (some 11) (dB 11 55) ?_
    refine qon_ 6 (some 12) (dB 11 119) ?_
    refine qon_ 7 (some 13) (dB 11 247) ?_
    refine qtk_ 3 (some 9) (dB 11 255) hHeld ?_
    refine qtk_ 8 (some 14) (dB 11 511) hHeld ?_
    refine one_ (i := 9) (N := some 15) (dB 11 1023) rfl rfl (by kernel_rfl) (by decide) (fun K hK => ?_)
    refine goes_ Tryd.func24 (by kernel_rfl) rfl #[.agg #[.slice Au l.length cu, .int .i64 typ, .string host, .int .u32 gen, .bool apt], .string c.f2] (by rfl) rfl rfl (by simp only [List.map_toArray, List.map_cons, List.map_nil]; rfl) ?_
    with_reducible refine (resv_Key.calls k Au cu l typ host gen apt c.f2 kk _ (Kd.R_reads' D.out.r).2.2 (Kd.R_reads' D.out.r).2.1 HK.out).mono ?_
    rintro e_ w2 ⟨rfl, hb⟩
    have n1_ := Aside0.mk (D.out.below hb)
    clear D hb
    have D := n1_
    clear n1_
    refine ⟨_, rfl, ?_⟩
    refine hK.out _ _ ⟨(blk_cell D.out.b 14).trans rfl, (blk_cell D.out.b 15).trans rfl, (blk_cell D.out.b 16).trans rfl, (blk_cell D.out.b 17).trans rfl, (blk_cell D.out.b 18).trans rfl, (blk_cell D.out.b 2).trans rfl⟩ (fun hHeld => ?_)
    clear hK K
    refine norm_ (a' := ?_) ?_ ?_
    rotate_left
    ·show Act.put _ (some 15) _ = _
     simp only [Act.put, la_, lb_, lc_, i64_w, i32_w]
     rfl
    refine qon_ 10 (some 3) (dB 11 2047) ?_
    refine done_ (by kernel_rfl) ?_
    have hcd8 : w2.cell? ⟨gd, 8, none⟩ = some (.int .u64 c.f8) := (blk_cell D.out.b 8).trans rfl
    have hcd9 : w2.cell? ⟨gd, 9, none⟩ = some (.int .u64 c.f9) := (blk_cell D.out.b 9).trans rfl
    have hcd12 : w2.cell? ⟨gd, 12, none⟩ = some (.bool true) := (blk_cell D.out.b 12).trans (by show some (Value.bool c.f12) = _; rw [f12])
    go_wp2_with (first
      | (go_at_call 54; refine (drop_itself w0 gd c rg _ _ l _ typ host gen apt _ D.out HN.out).mono ?_; rintro e w5 ⟨rfl, ⟨u2, hd2_⟩⟩; clear D; have D := Aside0.mk (show Dd w0 w5 gd c rg u2 l2 typ host gen apt ue ev by rw [L2.out]; exact hd2_); clear hd2_; obtain ⟨A2, c2, e2⟩ := Kd.R_slice D.out.r; subst e2; have hcd17 : w5.cell? ⟨gd, 17, none⟩ = some (.int .u32 gen) := (blk_cell D.out.b 17).trans rfl; have hfd17 := blk_frozen D.out.b 17))
    refine Hand.at_world (fun w' => Aside0 (Dd w0 w' gd c rg (.slice A2 l2.length c2) l2 typ host ((gen + 1) % 4294967296) apt ue ev)) ⟨D.out.put 17 _ rfl⟩ ?_
    intro w6 DK_
    clear D hcd17 hfd17 hcd8 hcd9 hcd12
    have D := DK_
    clear DK_
    have n1_ := Aside0.mk (D.out.below (below_drew (Below.refl _ _)))
    clear D
    have D := n1_
    clear n1_
    refine start_ (n := 13) (S := fun w' => w'.cell? ⟨gd, 16, none⟩ = some (.string host) ∧ w'.cell? ⟨gd, 2, none⟩ = some (.string c.f2)) (ds := []) #[false, false, false, false, false, false, false, false, false, false, false, false, false] (by kernel_rfl) rfl rfl ⟨(blk_cell D.out.b 16).trans rfl, (blk_cell D.out.b 2).trans rfl⟩ (fun hHeld => ?_)
    generalize w6.drew = w7 at D hHeld ⊢
    refine qon_ 0 (some 109) (dB 13 1) ?_
    refine qon_ 1 (some 110) (dB 13 3) ?_
    refine qon_ 2 (some 111) (dB 13 7) ?_
    refine qon_ 3 (some 112) (dB 13 15) ?_
    refine qon_ 4 (some 113) (dB 13 31) ?_
    refine qon_ 6 (some 115) (dB 13 95) ?_
    refine qon_ 7 (some 116) (dB 13 223) ?_
    refine qon_ 8 (some 117) (dB 13 479) ?_
    refine qon_ 9 (some 118) (dB 13 991) ?_
    refine qtk_ 5 (some 114) (dB 13 1023) hHeld ?_
    refine qtk_ 10 (some 119) (dB 13 2047) hHeld ?_
    refine qon_ 11 (some 120) (dB 13 4095) ?_
    refine qon_ 12 (some 4) (dB 13 8191) ?_
    refine done_ (by kernel_rfl) ?_
    have hcd13 : w7.cell? ⟨gd, 13, none⟩ = some (.int .i64 c.f13) := (blk_cell D.out.b 13).trans rfl
    have hcd14 : w7.cell? ⟨gd, 14, none⟩ = some (.slice A2 l2.length c2) := (blk_cell D.out.b 14).trans rfl
    have hcd15 : w7.cell? ⟨gd, 15, none⟩ = some (.int .i64 typ) := (blk_cell D.out.b 15).trans rfl
    have hcd16 : w7.cell? ⟨gd, 16, none⟩ = some (.string host) := (blk_cell D.out.b 16).trans rfl
    have hcd18 : w7.cell? ⟨gd, 18, none⟩ = some (.bool apt) := (blk_cell D.out.b 18).trans rfl
    have hfd15 := blk_frozen D.out.b 15
    have hfd16 := blk_frozen D.out.b 16
    have hfd18 := blk_frozen D.out.b 18
    cases al
    · cases eb
      · exact absurd hs (by simp)
      · cases z
        · exact absurd hs (by decide)
        · skip
          cases t3
          · cases t4
            · skip
              have HF := Aside0.mk (show freed c typ l2 = [] by unfold freed; rw [h3, h4]; rfl)
              rcases F3 with ⟨rfl, a1⟩ | ⟨rfl, a1, a2⟩ | ⟨rfl, a1, a2⟩
              all_goals
                go_wp2_with (first
                  | (go_at_call 46; refine (resv_everybody.calls typ true _ HE.out).mono ?_; rintro e w8 ⟨rfl, hd⟩; have hb_ := hd.below; have n1_ := Aside0.mk (D.out.below hb_); clear D hd hb_; clear hcd13 hcd14 hcd15 hcd16 hcd18 hfd15 hfd16 hfd18; have D := n1_; clear n1_; have hcd13 : w8.cell? ⟨gd, 13, none⟩ = some (.int .i64 c.f13) := (blk_cell D.out.b 13).trans rfl; have hcd14 : w8.cell? ⟨gd, 14, none⟩ = some (.slice A2 l2.length c2) := (blk_cell D.out.b 14).trans rfl; have hcd15 : w8.cell? ⟨gd, 15, none⟩ = some (.int .i64 typ) := (blk_cell D.out.b 15).trans rfl; have hcd16 : w8.cell? ⟨gd, 16, none⟩ = some (.string host) := (blk_cell D.out.b 16).trans rfl; have hcd18 : w8.cell? ⟨gd, 18, none⟩ = some (.bool apt) := (blk_cell D.out.b 18).trans rfl; have hfd15 := blk_frozen D.out.b 15; have hfd16 := blk_frozen D.out.b 16; have hfd18 := blk_frozen D.out.b 18))
                go_ret
                exact ⟨rfl, _, _, by rw [HF.out, List.append_nil]; first | exact ((D.out.put 15 _ rfl).put 16 _ rfl).put 18 _ rfl | exact (D.out.put 15 _ rfl).put 16 _ rfl⟩
            · skip
              have HF := Aside0.mk (show freed c typ l2 = told c (fun _ _ => true) 3 l2 l2.length by unfold freed; rw [h3, h4]; rfl)
              rcases F3 with ⟨rfl, a1⟩ | ⟨rfl, a1, a2⟩ | ⟨rfl, a1, a2⟩
              all_goals
                go_wp2_with (first
                  | (go_at_call 46; refine (resv_everybody.calls typ true _ HE.out).mono ?_; rintro e w8 ⟨rfl, hd⟩; have hb_ := hd.below; have n1_ := Aside0.mk (D.out.below hb_); clear D hd hb_; clear hcd13 hcd14 hcd15 hcd16 hcd18 hfd15 hfd16 hfd18; have D := n1_; clear n1_; have hcd13 : w8.cell? ⟨gd, 13, none⟩ = some (.int .i64 c.f13) := (blk_cell D.out.b 13).trans rfl; have hcd14 : w8.cell? ⟨gd, 14, none⟩ = some (.slice A2 l2.length c2) := (blk_cell D.out.b 14).trans rfl; have hcd15 : w8.cell? ⟨gd, 15, none⟩ = some (.int .i64 typ) := (blk_cell D.out.b 15).trans rfl; have hcd16 : w8.cell? ⟨gd, 16, none⟩ = some (.string host) := (blk_cell D.out.b 16).trans rfl; have hcd18 : w8.cell? ⟨gd, 18, none⟩ = some (.bool apt) := (blk_cell D.out.b 18).trans rfl; have hfd15 := blk_frozen D.out.b 15; have hfd16 := blk_frozen D.out.b 16; have hfd18 := blk_frozen D.out.b 18)
                  | (go_at_call 55; refine (tell_all w0 gd c rg _ _ l2 ev typ host ((gen + 1) % 4294967296) apt 3 _ D.out HN2.out HEV.out).mono ?_; rintro e w10 ⟨rfl, hd_⟩; obtain ⟨ue2, hd2_⟩ := hd_.out; clear D hd_; clear hcd13 hcd14 hcd15 hcd16 hcd18 hfd15 hfd16 hfd18; have D := Aside0.mk hd2_; clear hd2_; have hcd13 : w10.cell? ⟨gd, 13, none⟩ = some (.int .i64 c.f13) := (blk_cell D.out.b 13).trans rfl; have hcd14 : w10.cell? ⟨gd, 14, none⟩ = some (.slice A2 l2.length c2) := (blk_cell D.out.b 14).trans rfl; have hcd15 : w10.cell? ⟨gd, 15, none⟩ = some (.int .i64 typ) := (blk_cell D.out.b 15).trans rfl; have hcd16 : w10.cell? ⟨gd, 16, none⟩ = some (.string host) := (blk_cell D.out.b 16).trans rfl; have hcd18 : w10.cell? ⟨gd, 18, none⟩ = some (.bool apt) := (blk_cell D.out.b 18).trans rfl; have hfd15 := blk_frozen D.out.b 15; have hfd16 := blk_frozen D.out.b 16; have hfd18 := blk_frozen D.out.b 18))
                go_ret
                exact ⟨rfl, _, _, by rw [HF.out]; first | exact ((D.out.put 15 _ rfl).put 16 _ rfl).put 18 _ rfl | exact (D.out.put 15 _ rfl).put 16 _ rfl⟩
          · skip
            have HF := Aside0.mk (show freed c typ l2 = told c (fun _ _ => true) 3 l2 l2.length by unfold freed; rw [h3, h4]; rfl)
            rcases F3 with ⟨rfl, a1⟩ | ⟨rfl, a1, a2⟩ | ⟨rfl, a1, a2⟩
            all_goals
              go_wp2_with (first
                | (go_at_call 46; refine (resv_everybody.calls typ true _ HE.out).mono ?_; rintro e w8 ⟨rfl, hd⟩; have hb_ := hd.below; have n1_ := Aside0.mk (D.out.below hb_); clear D hd hb_; clear hcd13 hcd14 hcd15 hcd16 hcd18 hfd15 hfd16 hfd18; have D := n1_; clear n1_; have hcd13 : w8.cell? ⟨gd, 13, none⟩ = some (.int .i64 c.f13) := (blk_cell D.out.b 13).trans rfl; have hcd14 : w8.cell? ⟨gd, 14, none⟩ = some (.slice A2 l2.length c2) := (blk_cell D.out.b 14).trans rfl; have hcd15 : w8.cell? ⟨gd, 15, none⟩ = some (.int .i64 typ) := (blk_cell D.out.b 15).trans rfl; have hcd16 : w8.cell? ⟨gd, 16, none⟩ = some (.string host) := (blk_cell D.out.b 16).trans rfl; have hcd18 : w8.cell? ⟨gd, 18, none⟩ = some (.bool apt) := (blk_cell D.out.b 18).trans rfl; have hfd15 := blk_frozen D.out.b 15; have hfd16 := blk_frozen D.out.b 16; have hfd18 := blk_frozen D.out.b 18)
                | (go_at_call 55; refine (tell_all w0 gd c rg _ _ l2 ev typ host ((gen + 1) % 4294967296) apt 3 _ D.out HN2.out HEV.out).mono ?_; rintro e w10 ⟨rfl, hd_⟩; obtain ⟨ue2, hd2_⟩ := hd_.out; clear D hd_; clear hcd13 hcd14 hcd15 hcd16 hcd18 hfd15 hfd16 hfd18; have D := Aside0.mk hd2_; clear hd2_; have hcd13 : w10.cell? ⟨gd, 13, none⟩ = some (.int .i64 c.f13) := (blk_cell D.out.b 13).trans rfl; have hcd14 : w10.cell? ⟨gd, 14, none⟩ = some (.slice A2 l2.length c2) := (blk_cell D.out.b 14).trans rfl; have hcd15 : w10.cell? ⟨gd, 15, none⟩ = some (.int .i64 typ) := (blk_cell D.out.b 15).trans rfl; have hcd16 : w10.cell? ⟨gd, 16, none⟩ = some (.string host) := (blk_cell D.out.b 16).trans rfl; have hcd18 : w10.cell? ⟨gd, 18, none⟩ = some (.bool apt) := (blk_cell D.out.b 18).trans rfl; have hfd15 := blk_frozen D.out.b 15; have hfd16 := blk_frozen D.out.b 16; have hfd18 := blk_frozen D.out.b 18))
              go_ret
              exact ⟨rfl, _, _, by rw [HF.out]; first | exact ((D.out.put 15 _ rfl).put 16 _ rfl).put 18 _ rfl | exact (D.out.put 15 _ rfl).put 16 _ rfl⟩
    · skip
      cases t3
      · cases t4
        · skip
          have HF := Aside0.mk (show freed c typ l2 = [] by unfold freed; rw [h3, h4]; rfl)
          rcases F3 with ⟨rfl, a1⟩ | ⟨rfl, a1, a2⟩ | ⟨rfl, a1, a2⟩
          all_goals
            go_wp2
            go_ret
            exact ⟨rfl, _, _, by rw [HF.out, List.append_nil]; first | exact ((D.out.put 15 _ rfl).put 16 _ rfl).put 18 _ rfl | exact (D.out.put 15 _ rfl).put 16 _ rfl⟩
        · skip
          have HF := Aside0.mk (show freed c typ l2 = told c (fun _ _ => true) 3 l2 l2.length by unfold freed; rw [h3, h4]; rfl)
          rcases F3 with ⟨rfl, a1⟩ | ⟨rfl, a1, a2⟩ | ⟨rfl, a1, a2⟩
          all_goals
            go_wp2_with (first
              | (go_at_call 55; refine (tell_all w0 gd c rg _ _ l2 ev typ host ((gen + 1) % 4294967296) apt 3 _ D.out HN2.out HEV.out).mono ?_; rintro e w10 ⟨rfl, hd_⟩; obtain ⟨ue2, hd2_⟩ := hd_.out; clear D hd_; clear hcd13 hcd14 hcd15 hcd16 hcd18 hfd15 hfd16 hfd18; have D := Aside0.mk hd2_; clear hd2_; have hcd13 : w10.cell? ⟨gd, 13, none⟩ = some (.int .i64 c.f13) := (blk_cell D.out.b 13).trans rfl; have hcd14 : w10.cell? ⟨gd, 14, none⟩ = some (.slice A2 l2.length c2) := (blk_cell D.out.b 14).trans rfl; have hcd15 : w10.cell? ⟨gd, 15, none⟩ = some (.int .i64 typ) := (blk_cell D.out.b 15).trans rfl; have hcd16 : w10.cell? ⟨gd, 16, none⟩ = some (.string host) := (blk_cell D.out.b 16).trans rfl; have hcd18 : w10.cell? ⟨gd, 18, none⟩ = some (.bool apt) := (blk_cell D.out.b 18).trans rfl; have hfd15 := blk_frozen D.out.b 15; have hfd16 := blk_frozen D.out.b 16; have hfd18 := blk_frozen D.out.b 18))
            go_ret
            exact ⟨rfl, _, _, by rw [HF.out]; first | exact ((D.out.put 15 _ rfl).put 16 _ rfl).put 18 _ rfl | exact (D.out.put 15 _ rfl).put 16 _ rfl⟩
      · skip
        have HF := Aside0.mk (show freed c typ l2 = told c (fun _ _ => true) 3 l2 l2.length by unfold freed; rw [h3, h4]; rfl)
        rcases F3 with ⟨rfl, a1⟩ | ⟨rfl, a1, a2⟩ | ⟨rfl, a1, a2⟩
        all_goals
          go_wp2_with (first
            | (go_at_call 55; refine (tell_all w0 gd c rg _ _ l2 ev typ host ((gen + 1) % 4294967296) apt 3 _ D.out HN2.out HEV.out).mono ?_; rintro e w10 ⟨rfl, hd_⟩; obtain ⟨ue2, hd2_⟩ := hd_.out; clear D hd_; clear hcd13 hcd14 hcd15 hcd16 hcd18 hfd15 hfd16 hfd18; have D := Aside0.mk hd2_; clear hd2_; have hcd13 : w10.cell? ⟨gd, 13, none⟩ = some (.int .i64 c.f13) := (blk_cell D.out.b 13).trans rfl; have hcd14 : w10.cell? ⟨gd, 14, none⟩ = some (.slice A2 l2.length c2) := (blk_cell D.out.b 14).trans rfl; have hcd15 : w10.cell? ⟨gd, 15, none⟩ = some (.int .i64 typ) := (blk_cell D.out.b 15).trans rfl; have hcd16 : w10.cell? ⟨gd, 16, none⟩ = some (.string host) := (blk_cell D.out.b 16).trans rfl; have hcd18 : w10.cell? ⟨gd, 18, none⟩ = some (.bool apt) := (blk_cell D.out.b 18).trans rfl; have hfd15 := blk_frozen D.out.b 15; have hfd16 := blk_frozen D.out.b 16; have hfd18 := blk_frozen D.out.b 18))
          go_ret
          exact ⟨rfl, _, _, by rw [HF.out]; first | exact ((D.out.put 15 _ rfl).put 16 _ rfl).put 18 _ rfl | exact (D.out.put 15 _ rfl).put 16 _ rfl⟩
  · skip
    go_enter Tryd.func30, Tryd.ntmps30
    go_wp2
    have n1_ := Aside0.mk (D.out.below (below_drew (Below.refl _ _)))
    clear D
    have D := n1_
    clear n1_
    refine start_ (n := 11) (S := fun w' => w'.cell? ⟨gd, 14, none⟩ = some (.slice Au l.length cu) ∧ w'.cell? ⟨gd, 15, none⟩ = some (.int .i64 typ) ∧ w'.cell? ⟨gd, 16, none⟩ = some (.string host) ∧ w'.cell? ⟨gd, 17, none⟩ = some (.int .u32 gen) ∧ w'.cell? ⟨gd, 18, none⟩ = some (.bool apt) ∧ w'.cell? ⟨gd, 2, none⟩ = some (.string c.f2)) (ds := []) #[false, false, false, false, false, false, false, false, false, false, false] (by kernel_rfl) rfl rfl ⟨(blk_cell D.out.b 14).trans rfl, (blk_cell D.out.b 15).trans rfl, (blk_cell D.out.b 16).trans rfl, (blk_cell D.out.b 17).trans rfl, (blk_cell D.out.b 18).trans rfl, (blk_cell D.out.b 2).trans rfl⟩ (fun hHeld => ?_)
    generalize w.drew = w1 at D hHeld ⊢
    refine qon_ 0 (some 6) (dB 11 1) ?_
    refine qon_ 1 (some 7) (dB 11 3) ?_
    refine qon_ 2 (some 8) (dB 11 7) ?_
    refine qon_ 4 (some 10) (dB 11 23) ?_
    refine qon_ 5 (some 11) (dB 11 55) ?_
    refine qon_ 6 (some 12) (dB 11 119) ?_
    refine qon_ 7 (some 13) (dB 11 247) ?_
    refine qtk_ 3 (some 9) (dB 11 255) hHeld ?_
    refine qtk_ 8 (some 14) (dB 11 511) hHeld ?_
    refine one_ (i := 9) (N := some 15) (dB 11 1023) rfl rfl (by kernel_rfl) (by decide) (fun K hK => ?_)
    refine goes_ Tryd.func24 (by kernel_rfl) rfl #[.agg #[.slice Au l.length cu, .int .i64 typ, .string host, .int .u32 gen, .bool apt], .string c.f2] (by rfl) rfl rfl (by simp only [List.map_toArray, List.map_cons, List.map_nil]; rfl) ?_
    with_reducible refine (resv_Key.calls k Au cu l typ host gen apt c.f2 kk _ (Kd.R_reads' D.out.r).2.2 (Kd.R_reads' D.out.r).2.1 HK.out).mono ?_
    rintro e_ w2 ⟨rfl, hb⟩
    have n1_ := Aside0.mk (D.out.below hb)
    clear D hb
    have D := n1_
    clear n1_
    refine ⟨_, rfl, ?_⟩
    refine hK.out _ _ ⟨(blk_cell D.out.b 14).trans rfl, (blk_cell D.out.b 15).trans rfl, (blk_cell D.out.b 16).trans rfl, (blk_cell D.out.b 17).trans rfl, (blk_cell D.out.b 18).trans rfl, (blk_cell D.out.b 2).trans rfl⟩ (fun hHeld => ?_)
    clear hK K
    refine norm_ (a' := ?_) ?_ ?_
    rotate_left
    ·show Act.put _ (some 15) _ = _
     simp only [Act.put, la_, lb_, lc_, i64_w, i32_w]
     rfl
    refine qon_ 10 (some 3) (dB 11 2047) ?_
    refine done_ (by kernel_rfl) ?_
    have hcd8 : w2.cell? ⟨gd, 8, none⟩ = some (.int .u64 c.f8) := (blk_cell D.out.b 8).trans rfl
    have hcd9 : w2.cell? ⟨gd, 9, none⟩ = some (.int .u64 c.f9) := (blk_cell D.out.b 9).trans rfl
    have hcd12 : w2.cell? ⟨gd, 12, none⟩ = some (.bool false) := (blk_cell D.out.b 12).trans (by show some (Value.bool c.f12) = _; rw [f12])
    go_wp2_with (first
      | (go_at_call 54; refine (drop_itself w0 gd c rg _ _ l _ typ host gen apt _ D.out HN.out).mono ?_; rintro e w5 ⟨rfl, ⟨u2, hd2_⟩⟩; clear D; have D := Aside0.mk (show Dd w0 w5 gd c rg u2 l2 typ host gen apt ue ev by rw [L2.out]; exact hd2_); clear hd2_; obtain ⟨A2, c2, e2⟩ := Kd.R_slice D.out.r; subst e2; have hcd17 : w5.cell? ⟨gd, 17, none⟩ = some (.int .u32 gen) := (blk_cell D.out.b 17).trans rfl; have hfd17 := blk_frozen D.out.b 17))
    refine Hand.at_world (fun w' => Aside0 (Dd w0 w' gd c rg (.slice A2 l2.length c2) l2 typ host ((gen + 1) % 4294967296) apt ue ev)) ⟨D.out.put 17 _ rfl⟩ ?_
    intro w6 DK_
    clear D hcd17 hfd17 hcd8 hcd9 hcd12
    have D := DK_
    clear DK_
    have n1_ := Aside0.mk (D.out.below (below_drew (Below.refl _ _)))
    clear D
    have D := n1_
    clear n1_
    refine start_ (n := 13) (S := fun w' => w'.cell? ⟨gd, 16, none⟩ = some (.string host) ∧ w'.cell? ⟨gd, 2, none⟩ = some (.string c.f2)) (ds := []) #[false, false, false, false, false, false, false, false, false, false, false, false, false] (by kernel_rfl) rfl rfl ⟨(blk_cell D.out.b 16).trans rfl, (blk_cell D.out.b 2).trans rfl⟩ (fun hHeld => ?_)
    generalize w6.drew = w7 at D hHeld ⊢
    refine qon_ 0 (some 109) (dB 13 1) ?_
    refine qon_ 1 (some 110) (dB 13 3) ?_
    refine qon_ 2 (some 111) (dB 13 7) ?_
    refine qon_ 3 (some 112) (dB 13 15) ?_
    refine qon_ 4 (some 113) (dB 13 31) ?_
    refine qon_ 6 (some 115) (dB 13 95) ?_
    refine qon_ 7 (some 116) (dB 13 223) ?_
    refine qon_ 8 (some 117) (dB 13 479) ?_
    refine qon_ 9 (some 118) (dB 13 991) ?_
    refine qtk_ 5 (some 114) (dB 13 1023) hHeld ?_
    refine qtk_ 10 (some 119) (dB 13 2047) hHeld ?_
    refine qon_ 11 (some 120) (dB 13 4095) ?_
    refine qon_ 12 (some 4) (dB 13 8191) ?_
    refine done_ (by kernel_rfl) ?_
    have hcd13 : w7.cell? ⟨gd, 13, none⟩ = some (.int .i64 c.f13) := (blk_cell D.out.b 13).trans rfl
    have hcd14 : w7.cell? ⟨gd, 14, none⟩ = some (.slice A2 l2.length c2) := (blk_cell D.out.b 14).trans rfl
    have hcd15 : w7.cell? ⟨gd, 15, none⟩ = some (.int .i64 typ) := (blk_cell D.out.b 15).trans rfl
    have hcd16 : w7.cell? ⟨gd, 16, none⟩ = some (.string host) := (blk_cell D.out.b 16).trans rfl
    have hcd18 : w7.cell? ⟨gd, 18, none⟩ = some (.bool apt) := (blk_cell D.out.b 18).trans rfl
    have hfd15 := blk_frozen D.out.b 15
    have hfd16 := blk_frozen D.out.b 16
    have hfd18 := blk_frozen D.out.b 18
    cases al
    · cases eb
      · exact absurd hs (by simp)
      · cases z
        · exact absurd hs (by decide)
        · skip
          cases t3
          · cases t4
            · skip
              have HF := Aside0.mk (show freed c typ l2 = [] by unfold freed; rw [h3, h4]; rfl)
              rcases F3 with ⟨rfl, a1⟩ | ⟨rfl, a1, a2⟩ | ⟨rfl, a1, a2⟩
              all_goals
                go_wp2_with (first
                  | (go_at_call 46; refine (resv_everybody.calls typ true _ HE.out).mono ?_; rintro e w8 ⟨rfl, hd⟩; have hb_ := hd.below; have n1_ := Aside0.mk (D.out.below hb_); clear D hd hb_; clear hcd13 hcd14 hcd15 hcd16 hcd18 hfd15 hfd16 hfd18; have D := n1_; clear n1_; have hcd13 : w8.cell? ⟨gd, 13, none⟩ = some (.int .i64 c.f13) := (blk_cell D.out.b 13).trans rfl; have hcd14 : w8.cell? ⟨gd, 14, none⟩ = some (.slice A2 l2.length c2) := (blk_cell D.out.b 14).trans rfl; have hcd15 : w8.cell? ⟨gd, 15, none⟩ = some (.int .i64 typ) := (blk_cell D.out.b 15).trans rfl; have hcd16 : w8.cell? ⟨gd, 16, none⟩ = some (.string host) := (blk_cell D.out.b 16).trans rfl; have hcd18 : w8.cell? ⟨gd, 18, none⟩ = some (.bool apt) := (blk_cell D.out.b 18).trans rfl; have hfd15 := blk_frozen D.out.b 15; have hfd16 := blk_frozen D.out.b 16; have hfd18 := blk_frozen D.out.b 18))
                go_ret
                exact ⟨rfl, _, _, by rw [HF.out, List.append_nil]; first | exact ((D.out.put 15 _ rfl).put 16 _ rfl).put 18 _ rfl | exact (D.out.put 15 _ rfl).put 16 _ rfl⟩
            · skip
              have HF := Aside0.mk (show freed c typ l2 = told c (fun _ _ => true) 3 l2 l2.length by unfold freed; rw [h3, h4]; rfl)
              rcases F3 with ⟨rfl, a1⟩ | ⟨rfl, a1, a2⟩ | ⟨rfl, a1, a2⟩
              all_goals
                go_wp2_with (first
                  | (go_at_call 46; refine (resv_everybody.calls typ true _ HE.out).mono ?_; rintro e w8 ⟨rfl, hd⟩; have hb_ := hd.below; have n1_ := Aside0.mk (D.out.below hb_); clear D hd hb_; clear hcd13 hcd14 hcd15 hcd16 hcd18 hfd15 hfd16 hfd18; have D := n1_; clear n1_; have hcd13 : w8.cell? ⟨gd, 13, none⟩ = some (.int .i64 c.f13) := (blk_cell D.out.b 13).trans rfl; have hcd14 : w8.cell? ⟨gd, 14, none⟩ = some (.slice A2 l2.length c2) := (blk_cell D.out.b 14).trans rfl; have hcd15 : w8.cell? ⟨gd, 15, none⟩ = some (.int .i64 typ) := (blk_cell D.out.b 15).trans rfl; have hcd16 : w8.cell? ⟨gd, 16, none⟩ = some (.string host) := (blk_cell D.out.b 16).trans rfl; have hcd18 : w8.cell? ⟨gd, 18, none⟩ = some (.bool apt) := (blk_cell D.out.b 18).trans rfl; have hfd15 := blk_frozen D.out.b 15; have hfd16 := blk_frozen D.out.b 16; have hfd18 := blk_frozen D.out.b 18)
                  | (go_at_call 55; refine (tell_all w0 gd c rg _ _ l2 ev typ host ((gen + 1) % 4294967296) apt 3 _ D.out HN2.out HEV.out).mono ?_; rintro e w10 ⟨rfl, hd_⟩; obtain ⟨ue2, hd2_⟩ := hd_.out; clear D hd_; clear hcd13 hcd14 hcd15 hcd16 hcd18 hfd15 hfd16 hfd18; have D := Aside0.mk hd2_; clear hd2_; have hcd13 : w10.cell? ⟨gd, 13, none⟩ = some (.int .i64 c.f13) := (blk_cell D.out.b 13).trans rfl; have hcd14 : w10.cell? ⟨gd, 14, none⟩ = some (.slice A2 l2.length c2) := (blk_cell D.out.b 14).trans rfl; have hcd15 : w10.cell? ⟨gd, 15, none⟩ = some (.int .i64 typ) := (blk_cell D.out.b 15).trans rfl; have hcd16 : w10.cell? ⟨gd, 16, none⟩ = some (.string host) := (blk_cell D.out.b 16).trans rfl; have hcd18 : w10.cell? ⟨gd, 18, none⟩ = some (.bool apt) := (blk_cell D.out.b 18).trans rfl; have hfd15 := blk_frozen D.out.b 15; have hfd16 := blk_frozen D.out.b 16; have hfd18 := blk_frozen D.out.b 18))
                go_ret
                exact ⟨rfl, _, _, by rw [HF.out]; first | exact ((D.out.put 15 _ rfl).put 16 _ rfl).put 18 _ rfl | exact (D.out.put 15 _ rfl).put 16 _ rfl⟩
          · skip
            have HF := Aside0.mk (show freed c typ l2 = told c (fun _ _ => true) 3 l2 l2.length by unfold freed; rw [h3, h4]; rfl)
            rcases F3 with ⟨rfl, a1⟩ | ⟨rfl, a1, a2⟩ | ⟨rfl, a1, a2⟩
            all_goals
              go_wp2_with (first
                | (go_at_call 46; refine (resv_everybody.calls typ true _ HE.out).mono ?_; rintro e w8 ⟨rfl, hd⟩; have hb_ := hd.below; have n1_ := Aside0.mk (D.out.below hb_); clear D hd hb_; clear hcd13 hcd14 hcd15 hcd16 hcd18 hfd15 hfd16 hfd18; have D := n1_; clear n1_; have hcd13 : w8.cell? ⟨gd, 13, none⟩ = some (.int .i64 c.f13) := (blk_cell D.out.b 13).trans rfl; have hcd14 : w8.cell? ⟨gd, 14, none⟩ = some (.slice A2 l2.length c2) := (blk_cell D.out.b 14).trans rfl; have hcd15 : w8.cell? ⟨gd, 15, none⟩ = some (.int .i64 typ) := (blk_cell D.out.b 15).trans rfl; have hcd16 : w8.cell? ⟨gd, 16, none⟩ = some (.string host) := (blk_cell D.out.b 16).trans rfl; have hcd18 : w8.cell? ⟨gd, 18, none⟩ = some (.bool apt) := (blk_cell D.out.b 18).trans rfl; have hfd15 := blk_frozen D.out.b 15; have hfd16 := blk_frozen D.out.b 16; have hfd18 := blk_frozen D.out.b 18)
                | (go_at_call 55; refine (tell_all w0 gd c rg _ _ l2 ev typ host ((gen + 1) % 4294967296) apt 3 _ D.out HN2.out HEV.out).mono ?_; rintro e w10 ⟨rfl, hd_⟩; obtain ⟨ue2, hd2_⟩ := hd_.out; clear D hd_; clear hcd13 hcd14 hcd15 hcd16 hcd18 hfd15 hfd16 hfd18; have D := Aside0.mk hd2_; clear hd2_; have hcd13 : w10.cell? ⟨gd, 13, none⟩ = some (.int .i64 c.f13) := (blk_cell D.out.b 13).trans rfl; have hcd14 : w10.cell? ⟨gd, 14, none⟩ = some (.slice A2 l2.length c2) := (blk_cell D.out.b 14).trans rfl; have hcd15 : w10.cell? ⟨gd, 15, none⟩ = some (.int .i64 typ) := (blk_cell D.out.b 15).trans rfl; have hcd16 : w10.cell? ⟨gd, 16, none⟩ = some (.string host) := (blk_cell D.out.b 16).trans rfl; have hcd18 : w10.cell? ⟨gd, 18, none⟩ = some (.bool apt) := (blk_cell D.out.b 18).trans rfl; have hfd15 := blk_frozen D.out.b 15; have hfd16 := blk_frozen D.out.b 16; have hfd18 := blk_frozen D.out.b 18))
              go_ret
              exact ⟨rfl, _, _, by rw [HF.out]; first | exact ((D.out.put 15 _ rfl).put 16 _ rfl).put 18 _ rfl | exact (D.out.put 15 _ rfl).put 16 _ rfl⟩
    · skip
      cases t3
      · cases t4
        · skip
          have HF := Aside0.mk (show freed c typ l2 = [] by unfold freed; rw [h3, h4]; rfl)
          rcases F3 with ⟨rfl, a1⟩ | ⟨rfl, a1, a2⟩ | ⟨rfl, a1, a2⟩
          all_goals
            go_wp2
            go_ret
            exact ⟨rfl, _, _, by rw [HF.out, List.append_nil]; first | exact ((D.out.put 15 _ rfl).put 16 _ rfl).put 18 _ rfl | exact (D.out.put 15 _ rfl).put 16 _ rfl⟩
        · skip
          have HF := Aside0.mk (show freed c typ l2 = told c (fun _ _ => true) 3 l2 l2.length by unfold freed; rw [h3, h4]; rfl)
          rcases F3 with ⟨rfl, a1⟩ | ⟨rfl, a1, a2⟩ | ⟨rfl, a1, a2⟩
          all_goals
            go_wp2_with (first
              | (go_at_call 55; refine (tell_all w0 gd c rg _ _ l2 ev typ host ((gen + 1) % 4294967296) apt 3 _ D.out HN2.out HEV.out).mono ?_; rintro e w10 ⟨rfl, hd_⟩; obtain ⟨ue2, hd2_⟩ := hd_.out; clear D hd_; clear hcd13 hcd14 hcd15 hcd16 hcd18 hfd15 hfd16 hfd18; have D := Aside0.mk hd2_; clear hd2_; have hcd13 : w10.cell? ⟨gd, 13, none⟩ = some (.int .i64 c.f13) := (blk_cell D.out.b 13).trans rfl; have hcd14 : w10.cell? ⟨gd, 14, none⟩ = some (.slice A2 l2.length c2) := (blk_cell D.out.b 14).trans rfl; have hcd15 : w10.cell? ⟨gd, 15, none⟩ = some (.int .i64 typ) := (blk_cell D.out.b 15).trans rfl; have hcd16 : w10.cell? ⟨gd, 16, none⟩ = some (.string host) := (blk_cell D.out.b 16).trans rfl; have hcd18 : w10.cell? ⟨gd, 18, none⟩ = some (.bool apt) := (blk_cell D.out.b 18).trans rfl; have hfd15 := blk_frozen D.out.b 15; have hfd16 := blk_frozen D.out.b 16; have hfd18 := blk_frozen D.out.b 18))
            go_ret
            exact ⟨rfl, _, _, by rw [HF.out]; first | exact ((D.out.put 15 _ rfl).put 16 _ rfl).put 18 _ rfl | exact (D.out.put 15 _ rfl).put 16 _ rfl⟩
      · skip
        have HF := Aside0.mk (show freed c typ l2 = told c (fun _ _ => true) 3 l2 l2.length by unfold freed; rw [h3, h4]; rfl)
        rcases F3 with ⟨rfl, a1⟩ | ⟨rfl, a1, a2⟩ | ⟨rfl, a1, a2⟩
        all_goals
          go_wp2_with (first
            | (go_at_call 55; refine (tell_all w0 gd c rg _ _ l2 ev typ host ((gen + 1) % 4294967296) apt 3 _ D.out HN2.out HEV.out).mono ?_; rintro e w10 ⟨rfl, hd_⟩; obtain ⟨ue2, hd2_⟩ := hd_.out; clear D hd_; clear hcd13 hcd14 hcd15 hcd16 hcd18 hfd15 hfd16 hfd18; have D := Aside0.mk hd2_; clear hd2_; have hcd13 : w10.cell? ⟨gd, 13, none⟩ = some (.int .i64 c.f13) := (blk_cell D.out.b 13).trans rfl; have hcd14 : w10.cell? ⟨gd, 14, none⟩ = some (.slice A2 l2.length c2) := (blk_cell D.out.b 14).trans rfl; have hcd15 : w10.cell? ⟨gd, 15, none⟩ = some (.int .i64 typ) := (blk_cell D.out.b 15).trans rfl; have hcd16 : w10.cell? ⟨gd, 16, none⟩ = some (.string host) := (blk_cell D.out.b 16).trans rfl; have hcd18 : w10.cell? ⟨gd, 18, none⟩ = some (.bool apt) := (blk_cell D.out.b 18).trans rfl; have hfd15 := blk_frozen D.out.b 15; have hfd16 := blk_frozen D.out.b 16; have hfd18 := blk_frozen D.out.b 18))
          go_ret
          exact ⟨rfl, _, _, by rw [HF.out]; first | exact ((D.out.put 15 _ rfl).put 16 _ rfl).put 18 _ rfl | exact (D.out.put 15 _ rfl).put 16 _ rfl⟩
end Go.Proofs.YtjogkfcjlljjcaaDoor.P
