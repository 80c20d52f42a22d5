-- joined by this session's wip/tools/pack.py: words of the kit's print, cut to what the claim names; functions printed by a patched copy of the printer; walks and lemmas of this session; Lean checks it
import Derived.Test.YtjogkfcjlljjcaaDoorBb4
import Derived.Maps.Own
import Derived.Maps.OwnOps
import Derived.Maps.OwnSet
import Derived.Maps.Views
import Derived.Carry
import Derived.Lib.SliceRun
import Derived.Deep.QuietTactic
import Derived.BigQuiet
import Derived.OwnWalk
set_option maxHeartbeats 40000000
set_option maxRecDepth 100000
namespace Go.Proofs.YtjogkfcjlljjcaaDoor.P
open Go.RowKit Go.Proofs.YtjogkfcjlljjcaaDoorW.PrintWords Go.Proofs.YtjogkfcjlljjcaaDoorW.PrintLast Go.Proofs.YtjogkfcjlljjcaaDoorW.PrintMore
attribute [local go_sem] max2_int min2_int max_two min_two max_three min_three max_four min_four   -- for this text's walks alone
set_option linter.unusedVariables false
set_option linter.unusedSimpArgs false
set_option linter.unnecessarySimpa false
theorem rowc_set1 (m : List S53) (i : Nat) (hi : i < m.length) (ky : Int) : (rowc m).set (i * 2 + 1) (.int .u64 ky) = rowc (m.set i ⟨m[i].f0, ky⟩) := by
 induction m generalizing i with
 | nil => exact absurd hi (Nat.not_lt_zero i)
 | cons y m ih =>
  cases i with
  | zero => rfl
  | succ i => rw [show (i + 1) * 2 + 1 = (i * 2 + 1) + 1 + 1 by omega, rowc_cons, List.set_cons_succ, List.set_cons_succ, ih i (Nat.lt_of_succ_lt_succ hi)]; rfl
theorem Bk.key {w : World} {g : Nat} {m : List S53} {rest : List Value} (h : Bk w g m rest) (i : Nat) (hi : i < m.length) (ky : Int) : Bk (w.setCell ⟨g, i * 2 + 1, none⟩ (.int .u64 ky)) g (m.set i ⟨m[i].f0, ky⟩) rest := by
  have hl := rowc_length m
  refine blk_put h (i * 2 + 1) _ ?_
  rw [List.setIfInBounds_toArray, List.set_append_left _ _ (by omega), rowc_set1]
def keyed (l : List S53) (i : Nat) (ky : Int) : List S53 := l.set i ⟨(rd_T53 l i).f0, ky⟩
theorem Dd.key {w0 w : World} {gd g : Nat} {c : S31} {rg ue : Value} {n cap : Nat} {l : List S53} {typ : Int} {host : ByteArray} {gen : Int} {apt : Bool} {ev : List S46} (h : Dd w0 w gd c rg (.slice (some ⟨g, 0, none⟩) n cap) l typ host gen apt ue ev) (i : Nat) (hi : i < l.length) (ky : Int) :
  (∃ v, w.cell? ⟨g, i * 2 + 1, none⟩ = some (.int .u64 v)) ∧ w.frozen? ⟨g, i * 2 + 1, none⟩ = false ∧ Dd w0 (w.setCell ⟨g, i * 2 + 1, none⟩ (.int .u64 ky)) gd c rg (.slice (some ⟨g, 0, none⟩) n cap) (keyed l i ky) typ host gen apt ue ev := by
 obtain ⟨g', rest, eg, hg, hb, rfl, hc, hm, hr⟩ := R_block h.r
 injection eg with eg
 subst eg
 have hcl := (Bk.cells hb i hi).2
 rw [row_addr] at hcl
 have hb2 := Bk.key hb i hi ky
 have hne : gd ≠ g := fun z => by
  subst z
  have := h.b
  unfold Bk at hb
  rw [this] at hb
  injection hb with hb
  injection hb with _ hb
  exact absurd hb (by decide)
 have hk : keyed l i ky = l.set i ⟨l[i].f0, ky⟩ := by unfold keyed; rw [rd_lt l i hi]
 refine ⟨⟨_, hcl⟩, bF_ hb (i * 2 + 1), h.o, blk_far h.b (p := ⟨g, i * 2 + 1, none⟩) (fun z => hne z) _, ?_, Kd.R_mono (Kd.R_far (p := ⟨g, i * 2 + 1, none⟩) (Kd.R_types h.re hb (by decide)) (fun _ hk => hk.2) _) (fun _ hk => hk.1), below_set h.hb hg⟩
 have := block_R (k := l.length) (c := cap) hb2 hg (by rw [List.length_set]; exact Nat.le_refl _) (by rw [List.length_set]; omega) hm (by rw [List.length_set]; omega)
 rw [hk]
 rwa [List.take_of_length_le (by rw [List.length_set]; exact Nat.le_refl _)] at this
theorem Dd.some {w0 w : World} {gd : Nat} {c : S31} {rg ue : Value} {A : Option Addr} {n cap : Nat} {l : List S53} {typ : Int} {host : ByteArray} {gen : Int} {apt : Bool} {ev : List S46} (h : Dd w0 w gd c rg (.slice A n cap) l typ host gen apt ue ev) (hl : 0 < l.length) : ∃ g, A = some ⟨g, 0, none⟩ := by
  obtain ⟨ad, e, _⟩ := (Kd.R_reads' h.r).2.2.2.2 hl
  subst e
  obtain ⟨g, _, e, _⟩ := R_block h.r
  exact ⟨g, by rw [e]⟩
def aptP (c : S31) (apt : Bool) : Bool := if c.f13 = 1 then false else if c.f13 = 2 then true else apt
theorem apt3 (c : S31) (apt : Bool) : (aptP c apt = false ∧ (c.f13 == 1) = true) ∨ (aptP c apt = true ∧ (c.f13 == 1) = false ∧ (c.f13 == 2) = true) ∨ (apt = aptP c apt ∧ (c.f13 == 1) = false ∧ (c.f13 == 2) = false) := by
 unfold aptP
 by_cases h1 : c.f13 = 1
 ·exact Or.inl ⟨if_pos h1, beq_iff_eq.mpr h1⟩
 ·rw [if_neg h1]
  by_cases h2 : c.f13 = 2
  ·exact Or.inr (Or.inl ⟨if_pos h2, beq_eq_false_iff_ne.mpr h1, beq_iff_eq.mpr h2⟩)
  ·exact Or.inr (Or.inr ⟨(if_neg h2).symm, beq_eq_false_iff_ne.mpr h1, beq_eq_false_iff_ne.mpr h2⟩)
theorem pass2 (b d : Bool) (h : (!b && d) = false) : b = true ∨ (b = false ∧ d = false) := by cases b <;> cases d <;> simp_all
def freed (c : S31) (typ : Int) (l : List S53) : List S46 := if (typ == 3 || typ == 4) = true then told c (fun _ _ => true) 3 l l.length else []
theorem register_no (k : Nat) (w0 : World) (gd : Nat) (c : S31) (rg u ue : Value) (l : List S53) (ev : List S46) (typ : Int) (host : ByteArray) (gen : Int) (apt : Bool) (kk : Int) (w : World) (hd : Dd w0 w gd c rg u l typ host gen apt ue ev) (hk : resv_Key.f k l typ host gen apt c.f2 = some kk) (f12 : c.f12 = false) (hk8 : (c.f8 != kk) = true) :
    Calls Tryd.prog 30 #[.pointer (some ⟨gd, 0, none⟩)] w fun e w' => e = .returned (.int .i64 2) ∧ Dd w0 w' gd c rg u l typ host gen apt ue ev := by
  have hu66 := Tryd.underlying66
  have hu31 := Tryd.underlying31
  have hu27 := Tryd.underlying27
  have hu24 := Tryd.underlying24
  have D := aS_ hd
  have HK := aS_ hk
  obtain ⟨Au, cu, eu⟩ := Kd.R_slice hd.r
  subst eu
  clear hd hk
  go_enter Tryd.func30, Tryd.ntmps30
  go_wp2
  have n1_ := aS_ (D.out.below (below_drew (Below.refl _ _)))
  clear D
  have D := n1_
  clear n1_
  refine start_ (n := 11) (S := fun w' => w'.cell? ⟨gd, 14, none⟩ = some (.slice Au l.length cu) ∧ w'.cell? ⟨gd, 15, none⟩ = some (.int .i64 typ) ∧ w'.cell? ⟨gd, 16, none⟩ = some (.string host) ∧ w'.cell? ⟨gd, 17, none⟩ = some (.int .u32 gen) ∧ w'.cell? ⟨gd, 18, none⟩ = some (.bool apt) ∧ w'.cell? ⟨gd, 2, none⟩ = some (.string c.f2)) (ds := []) #[false, false, false, false, false, false, false, false, false, false, false] (by kernel_rfl) rfl rfl ⟨bC_ D.out.b 14 rfl, bC_ D.out.b 15 rfl, bC_ D.out.b 16 rfl, bC_ D.out.b 17 rfl, bC_ D.out.b 18 rfl, bC_ D.out.b 2 rfl⟩ (fun hHeld => ?_)
  generalize w.drew = w1 at D hHeld ⊢
  refine qon_ 0 (some 6) (dB 11 1) ?_
  refine qon_ 1 (some 7) (dB 11 3) ?_
  refine qon_ 2 (some 8) (dB 11 7) ?_
  refine qon_ 4 (some 10) (dB 11 23) ?_
  refine qon_ 5 (some 11) (dB 11 55) ?_
  refine qon_ 6 (some 12) (dB 11 119) ?_
  refine qon_ 7 (some 13) (dB 11 247) ?_
  refine qtk_ 3 (some 9) (dB 11 255) hHeld ?_
  refine qtk_ 8 (some 14) (dB 11 511) hHeld ?_
  refine one_ (i := 9) (N := some 15) (dB 11 1023) rfl rfl (by kernel_rfl) (by decide) (fun K hK => ?_)
  refine goes_ Tryd.func24 (by kernel_rfl) rfl #[.agg #[.slice Au l.length cu, .int .i64 typ, .string host, .int .u32 gen, .bool apt], .string c.f2] (by rfl) rfl rfl (by simp only [List.map_toArray, List.map_cons, List.map_nil]; rfl) ?_
  with_reducible refine (resv_Key.calls k Au cu l typ host gen apt c.f2 kk _ (Kd.R_reads' D.out.r).2.2 (Kd.R_reads' D.out.r).2.1 HK.out).mono ?_
  rintro e_ w2 ⟨rfl, hb⟩
  have n1_ := aS_ (D.out.below hb)
  clear D hb
  have D := n1_
  clear n1_
  refine ⟨_, rfl, ?_⟩
  refine hK.out _ _ ⟨bC_ D.out.b 14 rfl, bC_ D.out.b 15 rfl, bC_ D.out.b 16 rfl, bC_ D.out.b 17 rfl, bC_ D.out.b 18 rfl, bC_ D.out.b 2 rfl⟩ (fun hHeld => ?_)
  clear hK K
  refine norm_ (a' := ?_) ?_ ?_
  rotate_left
  ·show Act.put _ (some 15) _ = _
   simp only [Act.put, la_, lb_, lc_, i64_w, i32_w]
   rfl
  refine qon_ 10 (some 3) (dB 11 2047) ?_
  refine done_ (by kernel_rfl) ?_
  have hcd8 : w2.cell? ⟨gd, 8, none⟩ = some (.int .u64 c.f8) := bC_ D.out.b 8 rfl
  have hcd12 : w2.cell? ⟨gd, 12, none⟩ = some (.bool false) := (blk_cell D.out.b 12).trans (by show some (Value.bool c.f12) = _; rw [f12])
  go_wp2
  go_ret
  exact ⟨rfl, D.out⟩
theorem register_same (k : Nat) (w0 : World) (gd : Nat) (c : S31) (rg u ue : Value) (l : List S53) (ev : List S46) (typ : Int) (host : ByteArray) (gen : Int) (apt : Bool) (kk : Int) (w : World) (hd : Dd w0 w gd c rg u l typ host gen apt ue ev) (hk : resv_Key.f k l typ host gen apt c.f2 = some kk) (hps : (!c.f12 && c.f8 != kk) = false) (h9 : c.f9 = 0) (h0 : kk = 0) :
    Calls Tryd.prog 30 #[.pointer (some ⟨gd, 0, none⟩)] w fun e w' => e = .returned (.int .i64 1) ∧ Dd w0 w' gd c rg u l typ host gen (aptP c apt) ue ev := by
  have hu66 := Tryd.underlying66
  have hu31 := Tryd.underlying31
  have hu27 := Tryd.underlying27
  have hu24 := Tryd.underlying24
  have D := aS_ hd
  have HK := aS_ hk
  have F3 := apt3 c apt
  obtain ⟨ap, hap⟩ : ∃ ap, ap = aptP c apt := ⟨_, rfl⟩
  rw [← hap] at F3 ⊢
  clear hap
  have d9 : (c.f9 != 0) = false := by rw [h9]; rfl
  clear h9
  have dk : (kk != 0) = false := by rw [h0]; rfl
  have dk0 : (kk == 0) = true := by rw [h0]; rfl
  clear h0
  obtain ⟨Au, cu, eu⟩ := Kd.R_slice hd.r
  subst eu
  clear hd hk
  rcases pass2 _ _ hps with f12 | ⟨f12, hk8⟩
  · rcases F3 with ⟨rfl, a1⟩ | ⟨rfl, a1, a2⟩ | ⟨rfl, a1, a2⟩
    all_goals
      go_enter Tryd.func30, Tryd.ntmps30
      go_wp2
      have n1_ := aS_ (D.out.below (below_drew (Below.refl _ _)))
      clear D
      have D := n1_
      clear n1_
      refine start_ (n := 11) (S := fun w' => w'.cell? ⟨gd, 14, none⟩ = some (.slice Au l.length cu) ∧ w'.cell? ⟨gd, 15, none⟩ = some (.int .i64 typ) ∧ w'.cell? ⟨gd, 16, none⟩ = some (.string host) ∧ w'.cell? ⟨gd, 17, none⟩ = some (.int .u32 gen) ∧ w'.cell? ⟨gd, 18, none⟩ = some (.bool apt) ∧ w'.cell? ⟨gd, 2, none⟩ = some (.string c.f2)) (ds := []) #[false, false, false, false, false, false, false, false, false, false, false] (by kernel_rfl) rfl rfl ⟨bC_ D.out.b 14 rfl, bC_ D.out.b 15 rfl, bC_ D.out.b 16 rfl, bC_ D.out.b 17 rfl, bC_ D.out.b 18 rfl, bC_ D.out.b 2 rfl⟩ (fun hHeld => ?_)
      generalize w.drew = w1 at D hHeld ⊢
      refine qon_ 0 (some 6) (dB 11 1) ?_
      refine qon_ 1 (some 7) (dB 11 3) ?_
      refine qon_ 2 (some 8) (dB 11 7) ?_
      refine qon_ 4 (some 10) (dB 11 23) ?_
      refine qon_ 5 (some 11) (dB 11 55) ?_
      refine qon_ 6 (some 12) (dB 11 119) ?_
      refine qon_ 7 (some 13) (dB 11 247) ?_
      refine qtk_ 3 (some 9) (dB 11 255) hHeld ?_
      refine qtk_ 8 (some 14) (dB 11 511) hHeld ?_
      refine one_ (i := 9) (N := some 15) (dB 11 1023) rfl rfl (by kernel_rfl) (by decide) (fun K hK => ?_)
      refine goes_ Tryd.func24 (by kernel_rfl) rfl #[.agg #[.slice Au l.length cu, .int .i64 typ, .string host, .int .u32 gen, .bool apt], .string c.f2] (by rfl) rfl rfl (by simp only [List.map_toArray, List.map_cons, List.map_nil]; rfl) ?_
      with_reducible refine (resv_Key.calls k Au cu l typ host gen apt c.f2 kk _ (Kd.R_reads' D.out.r).2.2 (Kd.R_reads' D.out.r).2.1 HK.out).mono ?_
      rintro e_ w2 ⟨rfl, hb⟩
      have n1_ := aS_ (D.out.below hb)
      clear D hb
      have D := n1_
      clear n1_
      refine ⟨_, rfl, ?_⟩
      refine hK.out _ _ ⟨bC_ D.out.b 14 rfl, bC_ D.out.b 15 rfl, bC_ D.out.b 16 rfl, bC_ D.out.b 17 rfl, bC_ D.out.b 18 rfl, bC_ D.out.b 2 rfl⟩ (fun hHeld => ?_)
      clear hK K
      refine norm_ (a' := ?_) ?_ ?_
      rotate_left
      ·show Act.put _ (some 15) _ = _
       simp only [Act.put, la_, lb_, lc_, i64_w, i32_w]
       rfl
      refine qon_ 10 (some 3) (dB 11 2047) ?_
      refine done_ (by kernel_rfl) ?_
      have hcd8 : w2.cell? ⟨gd, 8, none⟩ = some (.int .u64 c.f8) := bC_ D.out.b 8 rfl
      have hcd9 : w2.cell? ⟨gd, 9, none⟩ = some (.int .u64 c.f9) := bC_ D.out.b 9 rfl
      have hcd12 : w2.cell? ⟨gd, 12, none⟩ = some (.bool true) := (blk_cell D.out.b 12).trans (by show some (Value.bool c.f12) = _; rw [f12])
      have hcd13 : w2.cell? ⟨gd, 13, none⟩ = some (.int .i64 c.f13) := bC_ D.out.b 13 rfl
      have hcd18 : w2.cell? ⟨gd, 18, none⟩ = some (.bool apt) := bC_ D.out.b 18 rfl
      have hfd18 := bF_ D.out.b 18
      go_wp2
      go_ret
      exact ⟨rfl, by first | exact D.out.put 18 _ rfl | exact D.out⟩
  · rcases F3 with ⟨rfl, a1⟩ | ⟨rfl, a1, a2⟩ | ⟨rfl, a1, a2⟩
    all_goals
      go_enter Tryd.func30, Tryd.ntmps30
      go_wp2
      have n1_ := aS_ (D.out.below (below_drew (Below.refl _ _)))
      clear D
      have D := n1_
      clear n1_
      refine start_ (n := 11) (S := fun w' => w'.cell? ⟨gd, 14, none⟩ = some (.slice Au l.length cu) ∧ w'.cell? ⟨gd, 15, none⟩ = some (.int .i64 typ) ∧ w'.cell? ⟨gd, 16, none⟩ = some (.string host) ∧ w'.cell? ⟨gd, 17, none⟩ = some (.int .u32 gen) ∧ w'.cell? ⟨gd, 18, none⟩ = some (.bool apt) ∧ w'.cell? ⟨gd, 2, none⟩ = some (.string c.f2)) (ds := []) #[false, false, false, false, false, false, false, false, false, false, false] (by kernel_rfl) rfl rfl ⟨bC_ D.out.b 14 rfl, bC_ D.out.b 15 rfl, bC_ D.out.b 16 rfl, bC_ D.out.b 17 rfl, bC_ D.out.b 18 rfl, bC_ D.out.b 2 rfl⟩ (fun hHeld => ?_)
      generalize w.drew = w1 at D hHeld ⊢
      refine qon_ 0 (some 6) (dB 11 1) ?_
      refine qon_ 1 (some 7) (dB 11 3) ?_
      refine qon_ 2 (some 8) (dB 11 7) ?_
      refine qon_ 4 (some 10) (dB 11 23) ?_
      refine qon_ 5 (some 11) (dB 11 55) ?_
      refine qon_ 6 (some 12) (dB 11 119) ?_
      refine qon_ 7 (some 13) (dB 11 247) ?_
      refine qtk_ 3 (some 9) (dB 11 255) hHeld ?_
      refine qtk_ 8 (some 14) (dB 11 511) hHeld ?_
      refine one_ (i := 9) (N := some 15) (dB 11 1023) rfl rfl (by kernel_rfl) (by decide) (fun K hK => ?_)
      refine goes_ Tryd.func24 (by kernel_rfl) rfl #[.agg #[.slice Au l.length cu, .int .i64 typ, .string host, .int .u32 gen, .bool apt], .string c.f2] (by rfl) rfl rfl (by simp only [List.map_toArray, List.map_cons, List.map_nil]; rfl) ?_
      with_reducible refine (resv_Key.calls k Au cu l typ host gen apt c.f2 kk _ (Kd.R_reads' D.out.r).2.2 (Kd.R_reads' D.out.r).2.1 HK.out).mono ?_
      rintro e_ w2 ⟨rfl, hb⟩
      have n1_ := aS_ (D.out.below hb)
      clear D hb
      have D := n1_
      clear n1_
      refine ⟨_, rfl, ?_⟩
      refine hK.out _ _ ⟨bC_ D.out.b 14 rfl, bC_ D.out.b 15 rfl, bC_ D.out.b 16 rfl, bC_ D.out.b 17 rfl, bC_ D.out.b 18 rfl, bC_ D.out.b 2 rfl⟩ (fun hHeld => ?_)
      clear hK K
      refine norm_ (a' := ?_) ?_ ?_
      rotate_left
      ·show Act.put _ (some 15) _ = _
       simp only [Act.put, la_, lb_, lc_, i64_w, i32_w]
       rfl
      refine qon_ 10 (some 3) (dB 11 2047) ?_
      refine done_ (by kernel_rfl) ?_
      have hcd8 : w2.cell? ⟨gd, 8, none⟩ = some (.int .u64 c.f8) := bC_ D.out.b 8 rfl
      have hcd9 : w2.cell? ⟨gd, 9, none⟩ = some (.int .u64 c.f9) := bC_ D.out.b 9 rfl
      have hcd12 : w2.cell? ⟨gd, 12, none⟩ = some (.bool false) := (blk_cell D.out.b 12).trans (by show some (Value.bool c.f12) = _; rw [f12])
      have hcd13 : w2.cell? ⟨gd, 13, none⟩ = some (.int .i64 c.f13) := bC_ D.out.b 13 rfl
      have hcd18 : w2.cell? ⟨gd, 18, none⟩ = some (.bool apt) := bC_ D.out.b 18 rfl
      have hfd18 := bF_ D.out.b 18
      go_wp2
      go_ret
      exact ⟨rfl, by first | exact D.out.put 18 _ rfl | exact D.out⟩
theorem register_full (k : Nat) (w0 : World) (gd : Nat) (c : S31) (rg u ue : Value) (l : List S53) (ev : List S46) (typ : Int) (host : ByteArray) (gen : Int) (apt : Bool) (kk : Int) (w : World) (hd : Dd w0 w gd c rg u l typ host gen apt ue ev) (hk : resv_Key.f k l typ host gen apt c.f2 = some kk) (hps : (!c.f12 && c.f8 != kk) = false) (h9 : c.f9 ≠ 0) (h0 : kk = 0) (h16 : l.length = 16) :
    Calls Tryd.prog 30 #[.pointer (some ⟨gd, 0, none⟩)] w fun e w' => e = .returned (.int .i64 8) ∧ Dd w0 w' gd c rg u l typ host gen apt ue ev := by
  have hu66 := Tryd.underlying66
  have hu31 := Tryd.underlying31
  have hu27 := Tryd.underlying27
  have hu24 := Tryd.underlying24
  have D := aS_ hd
  have HK := aS_ hk
  have d9 : (c.f9 != 0) = true := bne_iff_ne.mpr h9
  clear h9
  have dk : (kk != 0) = false := by rw [h0]; rfl
  have dk0 : (kk == 0) = true := by rw [h0]; rfl
  clear h0
  have d16 : ((l.length : Int) == 16) = true := beq_iff_eq.mpr (by omega)
  clear h16
  obtain ⟨Au, cu, eu⟩ := Kd.R_slice hd.r
  subst eu
  clear hd hk
  rcases pass2 _ _ hps with f12 | ⟨f12, hk8⟩
  · skip
    go_enter Tryd.func30, Tryd.ntmps30
    go_wp2
    have n1_ := aS_ (D.out.below (below_drew (Below.refl _ _)))
    clear D
    have D := n1_
    clear n1_
    refine start_ (n := 11) (S := fun w' => w'.cell? ⟨gd, 14, none⟩ = some (.slice Au l.length cu) ∧ w'.cell? ⟨gd, 15, none⟩ = some (.int .i64 typ) ∧ w'.cell? ⟨gd, 16, none⟩ = some (.string host) ∧ w'.cell? ⟨gd, 17, none⟩ = some (.int .u32 gen) ∧ w'.cell? ⟨gd, 18, none⟩ = some (.bool apt) ∧ w'.cell? ⟨gd, 2, none⟩ = some (.string c.f2)) (ds := []) #[false, false, false, false, false, false, false, false, false, false, false] (by kernel_rfl) rfl rfl ⟨bC_ D.out.b 14 rfl, bC_ D.out.b 15 rfl, bC_ D.out.b 16 rfl, bC_ D.out.b 17 rfl, bC_ D.out.b 18 rfl, bC_ D.out.b 2 rfl⟩ (fun hHeld => ?_)
    generalize w.drew = w1 at D hHeld ⊢
    refine qon_ 0 (some 6) (dB 11 1) ?_
    refine qon_ 1 (some 7) (dB 11 3) ?_
    refine qon_ 2 (some 8) (dB 11 7) ?_
    refine qon_ 4 (some 10) (dB 11 23) ?_
    refine qon_ 5 (some 11) (dB 11 55) ?_
    refine qon_ 6 (some 12) (dB 11 119) ?_
    refine qon_ 7 (some 13) (dB 11 247) ?_
    refine qtk_ 3 (some 9) (dB 11 255) hHeld ?_
    refine qtk_ 8 (some 14) (dB 11 511) hHeld ?_
    refine one_ (i := 9) (N := some 15) (dB 11 1023) rfl rfl (by kernel_rfl) (by decide) (fun K hK => ?_)
    refine goes_ Tryd.func24 (by kernel_rfl) rfl #[.agg #[.slice Au l.length cu, .int .i64 typ, .string host, .int .u32 gen, .bool apt], .string c.f2] (by rfl) rfl rfl (by simp only [List.map_toArray, List.map_cons, List.map_nil]; rfl) ?_
    with_reducible refine (resv_Key.calls k Au cu l typ host gen apt c.f2 kk _ (Kd.R_reads' D.out.r).2.2 (Kd.R_reads' D.out.r).2.1 HK.out).mono ?_
    rintro e_ w2 ⟨rfl, hb⟩
    have n1_ := aS_ (D.out.below hb)
    clear D hb
    have D := n1_
    clear n1_
    refine ⟨_, rfl, ?_⟩
    refine hK.out _ _ ⟨bC_ D.out.b 14 rfl, bC_ D.out.b 15 rfl, bC_ D.out.b 16 rfl, bC_ D.out.b 17 rfl, bC_ D.out.b 18 rfl, bC_ D.out.b 2 rfl⟩ (fun hHeld => ?_)
    clear hK K
    refine norm_ (a' := ?_) ?_ ?_
    rotate_left
    ·show Act.put _ (some 15) _ = _
     simp only [Act.put, la_, lb_, lc_, i64_w, i32_w]
     rfl
    refine qon_ 10 (some 3) (dB 11 2047) ?_
    refine done_ (by kernel_rfl) ?_
    have hcd8 : w2.cell? ⟨gd, 8, none⟩ = some (.int .u64 c.f8) := bC_ D.out.b 8 rfl
    have hcd9 : w2.cell? ⟨gd, 9, none⟩ = some (.int .u64 c.f9) := bC_ D.out.b 9 rfl
    have hcd12 : w2.cell? ⟨gd, 12, none⟩ = some (.bool true) := (blk_cell D.out.b 12).trans (by show some (Value.bool c.f12) = _; rw [f12])
    have hcd14 : w2.cell? ⟨gd, 14, none⟩ = some (.slice Au l.length cu) := bC_ D.out.b 14 rfl
    go_wp2
    go_ret
    exact ⟨rfl, D.out⟩
  · skip
    go_enter Tryd.func30, Tryd.ntmps30
    go_wp2
    have n1_ := aS_ (D.out.below (below_drew (Below.refl _ _)))
    clear D
    have D := n1_
    clear n1_
    refine start_ (n := 11) (S := fun w' => w'.cell? ⟨gd, 14, none⟩ = some (.slice Au l.length cu) ∧ w'.cell? ⟨gd, 15, none⟩ = some (.int .i64 typ) ∧ w'.cell? ⟨gd, 16, none⟩ = some (.string host) ∧ w'.cell? ⟨gd, 17, none⟩ = some (.int .u32 gen) ∧ w'.cell? ⟨gd, 18, none⟩ = some (.bool apt) ∧ w'.cell? ⟨gd, 2, none⟩ = some (.string c.f2)) (ds := []) #[false, false, false, false, false, false, false, false, false, false, false] (by kernel_rfl) rfl rfl ⟨bC_ D.out.b 14 rfl, bC_ D.out.b 15 rfl, bC_ D.out.b 16 rfl, bC_ D.out.b 17 rfl, bC_ D.out.b 18 rfl, bC_ D.out.b 2 rfl⟩ (fun hHeld => ?_)
    generalize w.drew = w1 at D hHeld ⊢
    refine qon_ 0 (some 6) (dB 11 1) ?_
    refine qon_ 1 (some 7) (dB 11 3) ?_
    refine qon_ 2 (some 8) (dB 11 7) ?_
    refine qon_ 4 (some 10) (dB 11 23) ?_
    refine qon_ 5 (some 11) (dB 11 55) ?_
    refine qon_ 6 (some 12) (dB 11 119) ?_
    refine qon_ 7 (some 13) (dB 11 247) ?_
    refine qtk_ 3 (some 9) (dB 11 255) hHeld ?_
    refine qtk_ 8 (some 14) (dB 11 511) hHeld ?_
    refine one_ (i := 9) (N := some 15) (dB 11 1023) rfl rfl (by kernel_rfl) (by decide) (fun K hK => ?_)
    refine goes_ Tryd.func24 (by kernel_rfl) rfl #[.agg #[.slice Au l.length cu, .int .i64 typ, .string host, .int .u32 gen, .bool apt], .string c.f2] (by rfl) rfl rfl (by simp only [List.map_toArray, List.map_cons, List.map_nil]; rfl) ?_
    with_reducible refine (resv_Key.calls k Au cu l typ host gen apt c.f2 kk _ (Kd.R_reads' D.out.r).2.2 (Kd.R_reads' D.out.r).2.1 HK.out).mono ?_
    rintro e_ w2 ⟨rfl, hb⟩
    have n1_ := aS_ (D.out.below hb)
    clear D hb
    have D := n1_
    clear n1_
    refine ⟨_, rfl, ?_⟩
    refine hK.out _ _ ⟨bC_ D.out.b 14 rfl, bC_ D.out.b 15 rfl, bC_ D.out.b 16 rfl, bC_ D.out.b 17 rfl, bC_ D.out.b 18 rfl, bC_ D.out.b 2 rfl⟩ (fun hHeld => ?_)
    clear hK K
    refine norm_ (a' := ?_) ?_ ?_
    rotate_left
    ·show Act.put _ (some 15) _ = _
     simp only [Act.put, la_, lb_, lc_, i64_w, i32_w]
     rfl
    refine qon_ 10 (some 3) (dB 11 2047) ?_
    refine done_ (by kernel_rfl) ?_
    have hcd8 : w2.cell? ⟨gd, 8, none⟩ = some (.int .u64 c.f8) := bC_ D.out.b 8 rfl
    have hcd9 : w2.cell? ⟨gd, 9, none⟩ = some (.int .u64 c.f9) := bC_ D.out.b 9 rfl
    have hcd12 : w2.cell? ⟨gd, 12, none⟩ = some (.bool false) := (blk_cell D.out.b 12).trans (by show some (Value.bool c.f12) = _; rw [f12])
    have hcd14 : w2.cell? ⟨gd, 14, none⟩ = some (.slice Au l.length cu) := bC_ D.out.b 14 rfl
    go_wp2
    go_ret
    exact ⟨rfl, D.out⟩
theorem register_put (k : Nat) (w0 : World) (gd : Nat) (c : S31) (rg u ue : Value) (l : List S53) (ev : List S46) (typ : Int) (host : ByteArray) (gen : Int) (apt : Bool) (kk : Int) (w : World) (hd : Dd w0 w gd c rg u l typ host gen apt ue ev) (hk : resv_Key.f k l typ host gen apt c.f2 = some kk) (hps : (!c.f12 && c.f8 != kk) = false) (h9 : c.f9 ≠ 0) (h0 : kk ≠ 0) (hn : l.length ≤ 1000) (i : Nat) (hi : i < l.length) (hx : idxP (fun s _ => s.toList == c.f2.toList) l = i) :
    Calls Tryd.prog 30 #[.pointer (some ⟨gd, 0, none⟩)] w fun e w' => e = .returned (.int .i64 1) ∧ ∃ u2, Dd w0 w' gd c rg u2 (keyed l i c.f9) typ host ((gen + 1) % 4294967296) (aptP c apt) ue ev := by
  have hu66 := Tryd.underlying66
  have hu31 := Tryd.underlying31
  have hu27 := Tryd.underlying27
  have hu24 := Tryd.underlying24
  have D := aS_ hd
  have HK := aS_ hk
  have F3 := apt3 c apt
  obtain ⟨ap, hap⟩ : ∃ ap, ap = aptP c apt := ⟨_, rfl⟩
  rw [← hap] at F3 ⊢
  clear hap
  have d9 : (c.f9 != 0) = true := bne_iff_ne.mpr h9
  clear h9
  have dk : (kk != 0) = true := bne_iff_ne.mpr h0
  have dk0 : (kk == 0) = false := beq_eq_false_iff_ne.mpr h0
  clear h0
  have hmf : ∀ (fn : Fn) (first cap : Array Value) (w : World), (Instr.makeFunc fn first cap).run Tryd.prog w = .ok (.func fn first cap) w := fun _ _ _ _ => rfl
  have HN2 := aS_ hn
  have HI := aS_ hi
  have HX := aS_ hx
  have p0 : (0 : Int) ≤ (i : Int) := Int.natCast_nonneg i
  have q0 : (i : Int) < (l.length : Int) := by omega
  clear hx hn
  obtain ⟨Au, cu, eu⟩ := Kd.R_slice hd.r
  subst eu
  clear hd hk
  obtain ⟨g, eg⟩ := D.out.some (Nat.lt_of_le_of_lt (Nat.zero_le i) hi)
  subst eg
  clear hi
  rcases pass2 _ _ hps with f12 | ⟨f12, hk8⟩
  · skip
    go_enter Tryd.func30, Tryd.ntmps30
    go_wp2
    have n1_ := aS_ (D.out.below (below_drew (Below.refl _ _)))
    clear D
    have D := n1_
    clear n1_
    refine start_ (n := 11) (S := fun w' => w'.cell? ⟨gd, 14, none⟩ = some (.slice (some ⟨g, 0, none⟩) l.length cu) ∧ w'.cell? ⟨gd, 15, none⟩ = some (.int .i64 typ) ∧ w'.cell? ⟨gd, 16, none⟩ = some (.string host) ∧ w'.cell? ⟨gd, 17, none⟩ = some (.int .u32 gen) ∧ w'.cell? ⟨gd, 18, none⟩ = some (.bool apt) ∧ w'.cell? ⟨gd, 2, none⟩ = some (.string c.f2)) (ds := []) #[false, false, false, false, false, false, false, false, false, false, false] (by kernel_rfl) rfl rfl ⟨bC_ D.out.b 14 rfl, bC_ D.out.b 15 rfl, bC_ D.out.b 16 rfl, bC_ D.out.b 17 rfl, bC_ D.out.b 18 rfl, bC_ D.out.b 2 rfl⟩ (fun hHeld => ?_)
    generalize w.drew = w1 at D hHeld ⊢
    refine qon_ 0 (some 6) (dB 11 1) ?_
    refine qon_ 1 (some 7) (dB 11 3) ?_
    refine qon_ 2 (some 8) (dB 11 7) ?_
    refine qon_ 4 (some 10) (dB 11 23) ?_
    refine qon_ 5 (some 11) (dB 11 55) ?_
    refine qon_ 6 (some 12) (dB 11 119) ?_
    refine qon_ 7 (some 13) (dB 11 247) ?_
    refine qtk_ 3 (some 9) (dB 11 255) hHeld ?_
    refine qtk_ 8 (some 14) (dB 11 511) hHeld ?_
    refine one_ (i := 9) (N := some 15) (dB 11 1023) rfl rfl (by kernel_rfl) (by decide) (fun K hK => ?_)
    refine goes_ Tryd.func24 (by kernel_rfl) rfl #[.agg #[.slice (some ⟨g, 0, none⟩) l.length cu, .int .i64 typ, .string host, .int .u32 gen, .bool apt], .string c.f2] (by rfl) rfl rfl (by simp only [List.map_toArray, List.map_cons, List.map_nil]; rfl) ?_
    with_reducible refine (resv_Key.calls k (some ⟨g, 0, none⟩) cu l typ host gen apt c.f2 kk _ (Kd.R_reads' D.out.r).2.2 (Kd.R_reads' D.out.r).2.1 HK.out).mono ?_
    rintro e_ w2 ⟨rfl, hb⟩
    have n1_ := aS_ (D.out.below hb)
    clear D hb
    have D := n1_
    clear n1_
    refine ⟨_, rfl, ?_⟩
    refine hK.out _ _ ⟨bC_ D.out.b 14 rfl, bC_ D.out.b 15 rfl, bC_ D.out.b 16 rfl, bC_ D.out.b 17 rfl, bC_ D.out.b 18 rfl, bC_ D.out.b 2 rfl⟩ (fun hHeld => ?_)
    clear hK K
    refine norm_ (a' := ?_) ?_ ?_
    rotate_left
    ·show Act.put _ (some 15) _ = _
     simp only [Act.put, la_, lb_, lc_, i64_w, i32_w]
     rfl
    refine qon_ 10 (some 3) (dB 11 2047) ?_
    refine done_ (by kernel_rfl) ?_
    have hcd8 : w2.cell? ⟨gd, 8, none⟩ = some (.int .u64 c.f8) := bC_ D.out.b 8 rfl
    have hcd9 : w2.cell? ⟨gd, 9, none⟩ = some (.int .u64 c.f9) := bC_ D.out.b 9 rfl
    have hcd12 : w2.cell? ⟨gd, 12, none⟩ = some (.bool true) := (blk_cell D.out.b 12).trans (by show some (Value.bool c.f12) = _; rw [f12])
    go_wp2
    clear hcd8 hcd9 hcd12
    have n1_ := aS_ (D.out.below (below_drew (Below.refl _ _)))
    clear D
    have D := n1_
    clear n1_
    refine start_ (n := 21) (S := fun w' => w'.cell? ⟨gd, 14, none⟩ = some (.slice (some ⟨g, 0, none⟩) l.length cu) ∧ w'.cell? ⟨gd, 9, none⟩ = some (.int .u64 c.f9)) (ds := [20]) #[false, false, false, false, false, false, false, false, false, false, false, false, false, false, false, false, false, false, false, false, false] (by kernel_rfl) rfl rfl ⟨bC_ D.out.b 14 rfl, bC_ D.out.b 9 rfl⟩ (fun hHeld => ?_)
    generalize w2.drew = w3 at D hHeld ⊢
    refine qon_ 0 (some 64) (dB 21 1) ?_
    refine qon_ 1 (some 65) (dB 21 3) ?_
    refine qon_ 2 (some 66) (dB 21 7) ?_
    refine qon_ 3 (some 67) (dB 21 15) ?_
    refine qon_ 5 (some 69) (dB 21 47) ?_
    refine qon_ 6 (some 70) (dB 21 111) ?_
    refine qon_ 7 (some 71) (dB 21 239) ?_
    refine qon_ 8 (some 72) (dB 21 495) ?_
    refine qon_ 10 (some 74) (dB 21 1519) ?_
    refine qon_ 11 (some 75) (dB 21 3567) ?_
    refine qon_ 13 (some 77) (dB 21 11759) ?_
    refine qon_ 14 (some 78) (dB 21 28143) ?_
    refine qon_ 15 (some 79) (dB 21 60911) ?_
    refine qon_ 16 (some 80) (dB 21 126447) ?_
    refine qtk_ 4 (some 68) (dB 21 126463) hHeld ?_
    refine qtk_ 9 (some 73) (dB 21 126975) hHeld ?_
    refine qtk_ 17 (some 81) (dB 21 258047) hHeld ?_
    refine one_ (i := 12) (N := some 76) (dB 21 262143) rfl rfl (by kernel_rfl) (by decide) (fun K hK => ?_)
    refine goes_ Tryd.func52 (by kernel_rfl) rfl #[.slice (some ⟨g, 0, none⟩) l.length cu, (.func (.func 53) #[.pointer (some ⟨gd, 0, none⟩)] #[])] (by rfl) rfl rfl (by simp only [List.map_toArray, List.map_cons, List.map_nil]; rfl) ?_
    with_reducible refine (index_itself (fun s _ => s.toList == c.f2.toList) gd (some ⟨g, 0, none⟩) cu l _ (Kd.R_reads' D.out.r).2.2 HN2.out (fun s ky w1 hb => itself_calls gd c rg _ _ typ host gen apt s ky w1 (blk_below D.out.b hb))).mono ?_
    rw [HX.out]
    rintro e_ w4 ⟨rfl, hb⟩
    have n1_ := aS_ (D.out.below hb)
    clear D hb
    have D := n1_
    clear n1_
    refine ⟨_, rfl, ?_⟩
    refine hK.out _ _ ⟨bC_ D.out.b 14 rfl, bC_ D.out.b 9 rfl⟩ (fun hHeld => ?_)
    clear hK K
    refine norm_ (a' := ?_) ?_ ?_
    rotate_left
    ·show Act.put _ (some 76) _ = _
     simp only [Act.put, la_, lb_, lc_, i64_w, i32_w]
     rfl
    refine qon_ 18 (some 82) (dB 21 524287) ?_
    refine qon_ 19 (some 83) (dB 21 1048575) ?_
    refine last_ (i := 20) (N := none) (dB 21 2097151) rfl rfl (by kernel_rfl) (by decide) (fun K hK => ?_)
    obtain ⟨⟨vk_, hs_⟩, hfs_, hd9_⟩ := D.out.key i HI.out c.f9
    have D9_ := aS_ hd9_
    clear hd9_
    refine skip_ (w1 := ?_) (by rfl) rfl ?_ ?_
    rotate_left
    ·go_simp
     rfl
    refine hK.out _ _ ?_
    clear hK K
    refine done_ (by kernel_rfl) ?_
    (first | refine deed_then (fun w' => Aside0 (Dd w0 w' gd c rg (.slice (some ⟨g, 0, none⟩) l.length cu) (keyed l i c.f9) typ host gen apt ue ev)) D9_ ?_ | refine deed_exit (fun w' => Aside0 (Dd w0 w' gd c rg (.slice (some ⟨g, 0, none⟩) l.length cu) (keyed l i c.f9) typ host gen apt ue ev)) D9_ ?_)
    intro w9 DK_
    clear D D9_ hs_ hfs_
    have D := DK_
    clear DK_
    have hcd13 : w9.cell? ⟨gd, 13, none⟩ = some (.int .i64 c.f13) := bC_ D.out.b 13 rfl
    have hcd17 : w9.cell? ⟨gd, 17, none⟩ = some (.int .u32 gen) := bC_ D.out.b 17 rfl
    have hcd18 : w9.cell? ⟨gd, 18, none⟩ = some (.bool apt) := bC_ D.out.b 18 rfl
    have hfd17 := bF_ D.out.b 17
    have hfd18 := bF_ D.out.b 18
    rcases F3 with ⟨rfl, a1⟩ | ⟨rfl, a1, a2⟩ | ⟨rfl, a1, a2⟩
    all_goals
      go_wp2
      go_ret
      exact ⟨rfl, _, by first | exact (D.out.put 17 _ rfl).put 18 _ rfl | exact D.out.put 17 _ rfl⟩
  · skip
    go_enter Tryd.func30, Tryd.ntmps30
    go_wp2
    have n1_ := aS_ (D.out.below (below_drew (Below.refl _ _)))
    clear D
    have D := n1_
    clear n1_
    refine start_ (n := 11) (S := fun w' => w'.cell? ⟨gd, 14, none⟩ = some (.slice (some ⟨g, 0, none⟩) l.length cu) ∧ w'.cell? ⟨gd, 15, none⟩ = some (.int .i64 typ) ∧ w'.cell? ⟨gd, 16, none⟩ = some (.string host) ∧ w'.cell? ⟨gd, 17, none⟩ = some (.int .u32 gen) ∧ w'.cell? ⟨gd, 18, none⟩ = some (.bool apt) ∧ w'.cell? ⟨gd, 2, none⟩ = some (.string c.f2)) (ds := []) #[false, false, false, false, false, false, false, false, false, false, false] (by kernel_rfl) rfl rfl ⟨bC_ D.out.b 14 rfl, bC_ D.out.b 15 rfl, bC_ D.out.b 16 rfl, bC_ D.out.b 17 rfl, bC_ D.out.b 18 rfl, bC_ D.out.b 2 rfl⟩ (fun hHeld => ?_)
    generalize w.drew = w1 at D hHeld ⊢
    refine qon_ 0 (some 6) (dB 11 1) ?_
    refine qon_ 1 (some 7) (dB 11 3) ?_
    refine qon_ 2 (some 8) (dB 11 7) ?_
    refine qon_ 4 (some 10) (dB 11 23) ?_
    refine qon_ 5 (some 11) (dB 11 55) ?_
    refine qon_ 6 (some 12) (dB 11 119) ?_
    refine qon_ 7 (some 13) (dB 11 247) ?_
    refine qtk_ 3 (some 9) (dB 11 255) hHeld ?_
    refine qtk_ 8 (some 14) (dB 11 511) hHeld ?_
    refine one_ (i := 9) (N := some 15) (dB 11 1023) rfl rfl (by kernel_rfl) (by decide) (fun K hK => ?_)
    refine goes_ Tryd.func24 (by kernel_rfl) rfl #[.agg #[.slice (some ⟨g, 0, none⟩) l.length cu, .int .i64 typ, .string host, .int .u32 gen, .bool apt], .string c.f2] (by rfl) rfl rfl (by simp only [List.map_toArray, List.map_cons, List.map_nil]; rfl) ?_
    with_reducible refine (resv_Key.calls k (some ⟨g, 0, none⟩) cu l typ host gen apt c.f2 kk _ (Kd.R_reads' D.out.r).2.2 (Kd.R_reads' D.out.r).2.1 HK.out).mono ?_
    rintro e_ w2 ⟨rfl, hb⟩
    have n1_ := aS_ (D.out.below hb)
    clear D hb
    have D := n1_
    clear n1_
    refine ⟨_, rfl, ?_⟩
    refine hK.out _ _ ⟨bC_ D.out.b 14 rfl, bC_ D.out.b 15 rfl, bC_ D.out.b 16 rfl, bC_ D.out.b 17 rfl, bC_ D.out.b 18 rfl, bC_ D.out.b 2 rfl⟩ (fun hHeld => ?_)
    clear hK K
    refine norm_ (a' := ?_) ?_ ?_
    rotate_left
    ·show Act.put _ (some 15) _ = _
     simp only [Act.put, la_, lb_, lc_, i64_w, i32_w]
     rfl
    refine qon_ 10 (some 3) (dB 11 2047) ?_
    refine done_ (by kernel_rfl) ?_
    have hcd8 : w2.cell? ⟨gd, 8, none⟩ = some (.int .u64 c.f8) := bC_ D.out.b 8 rfl
    have hcd9 : w2.cell? ⟨gd, 9, none⟩ = some (.int .u64 c.f9) := bC_ D.out.b 9 rfl
    have hcd12 : w2.cell? ⟨gd, 12, none⟩ = some (.bool false) := (blk_cell D.out.b 12).trans (by show some (Value.bool c.f12) = _; rw [f12])
    go_wp2
    clear hcd8 hcd9 hcd12
    have n1_ := aS_ (D.out.below (below_drew (Below.refl _ _)))
    clear D
    have D := n1_
    clear n1_
    refine start_ (n := 21) (S := fun w' => w'.cell? ⟨gd, 14, none⟩ = some (.slice (some ⟨g, 0, none⟩) l.length cu) ∧ w'.cell? ⟨gd, 9, none⟩ = some (.int .u64 c.f9)) (ds := [20]) #[false, false, false, false, false, false, false, false, false, false, false, false, false, false, false, false, false, false, false, false, false] (by kernel_rfl) rfl rfl ⟨bC_ D.out.b 14 rfl, bC_ D.out.b 9 rfl⟩ (fun hHeld => ?_)
    generalize w2.drew = w3 at D hHeld ⊢
    refine qon_ 0 (some 64) (dB 21 1) ?_
    refine qon_ 1 (some 65) (dB 21 3) ?_
    refine qon_ 2 (some 66) (dB 21 7) ?_
    refine qon_ 3 (some 67) (dB 21 15) ?_
    refine qon_ 5 (some 69) (dB 21 47) ?_
    refine qon_ 6 (some 70) (dB 21 111) ?_
    refine qon_ 7 (some 71) (dB 21 239) ?_
    refine qon_ 8 (some 72) (dB 21 495) ?_
    refine qon_ 10 (some 74) (dB 21 1519) ?_
    refine qon_ 11 (some 75) (dB 21 3567) ?_
    refine qon_ 13 (some 77) (dB 21 11759) ?_
    refine qon_ 14 (some 78) (dB 21 28143) ?_
    refine qon_ 15 (some 79) (dB 21 60911) ?_
    refine qon_ 16 (some 80) (dB 21 126447) ?_
    refine qtk_ 4 (some 68) (dB 21 126463) hHeld ?_
    refine qtk_ 9 (some 73) (dB 21 126975) hHeld ?_
    refine qtk_ 17 (some 81) (dB 21 258047) hHeld ?_
    refine one_ (i := 12) (N := some 76) (dB 21 262143) rfl rfl (by kernel_rfl) (by decide) (fun K hK => ?_)
    refine goes_ Tryd.func52 (by kernel_rfl) rfl #[.slice (some ⟨g, 0, none⟩) l.length cu, (.func (.func 53) #[.pointer (some ⟨gd, 0, none⟩)] #[])] (by rfl) rfl rfl (by simp only [List.map_toArray, List.map_cons, List.map_nil]; rfl) ?_
    with_reducible refine (index_itself (fun s _ => s.toList == c.f2.toList) gd (some ⟨g, 0, none⟩) cu l _ (Kd.R_reads' D.out.r).2.2 HN2.out (fun s ky w1 hb => itself_calls gd c rg _ _ typ host gen apt s ky w1 (blk_below D.out.b hb))).mono ?_
    rw [HX.out]
    rintro e_ w4 ⟨rfl, hb⟩
    have n1_ := aS_ (D.out.below hb)
    clear D hb
    have D := n1_
    clear n1_
    refine ⟨_, rfl, ?_⟩
    refine hK.out _ _ ⟨bC_ D.out.b 14 rfl, bC_ D.out.b 9 rfl⟩ (fun hHeld => ?_)
    clear hK K
    refine norm_ (a' := ?_) ?_ ?_
    rotate_left
    ·show Act.put _ (some 76) _ = _
     simp only [Act.put, la_, lb_, lc_, i64_w, i32_w]
     rfl
    refine qon_ 18 (some 82) (dB 21 524287) ?_
    refine qon_ 19 (some 83) (dB 21 1048575) ?_
    refine last_ (i := 20) (N := none) (dB 21 2097151) rfl rfl (by kernel_rfl) (by decide) (fun K hK => ?_)
    obtain ⟨⟨vk_, hs_⟩, hfs_, hd9_⟩ := D.out.key i HI.out c.f9
    have D9_ := aS_ hd9_
    clear hd9_
    refine skip_ (w1 := ?_) (by rfl) rfl ?_ ?_
    rotate_left
    ·go_simp
     rfl
    refine hK.out _ _ ?_
    clear hK K
    refine done_ (by kernel_rfl) ?_
    (first | refine deed_then (fun w' => Aside0 (Dd w0 w' gd c rg (.slice (some ⟨g, 0, none⟩) l.length cu) (keyed l i c.f9) typ host gen apt ue ev)) D9_ ?_ | refine deed_exit (fun w' => Aside0 (Dd w0 w' gd c rg (.slice (some ⟨g, 0, none⟩) l.length cu) (keyed l i c.f9) typ host gen apt ue ev)) D9_ ?_)
    intro w9 DK_
    clear D D9_ hs_ hfs_
    have D := DK_
    clear DK_
    have hcd13 : w9.cell? ⟨gd, 13, none⟩ = some (.int .i64 c.f13) := bC_ D.out.b 13 rfl
    have hcd17 : w9.cell? ⟨gd, 17, none⟩ = some (.int .u32 gen) := bC_ D.out.b 17 rfl
    have hcd18 : w9.cell? ⟨gd, 18, none⟩ = some (.bool apt) := bC_ D.out.b 18 rfl
    have hfd17 := bF_ D.out.b 17
    have hfd18 := bF_ D.out.b 18
    rcases F3 with ⟨rfl, a1⟩ | ⟨rfl, a1, a2⟩ | ⟨rfl, a1, a2⟩
    all_goals
      go_wp2
      go_ret
      exact ⟨rfl, _, by first | exact (D.out.put 17 _ rfl).put 18 _ rfl | exact D.out.put 17 _ rfl⟩
theorem register_new (k : Nat) (w0 : World) (gd : Nat) (c : S31) (rg u ue : Value) (l : List S53) (ev : List S46) (typ : Int) (host : ByteArray) (gen : Int) (apt : Bool) (kk : Int) (w : World) (hd : Dd w0 w gd c rg u l typ host gen apt ue ev) (hk : resv_Key.f k l typ host gen apt c.f2 = some kk) (hps : (!c.f12 && c.f8 != kk) = false) (h9 : c.f9 ≠ 0) (h0 : kk = 0) (h16 : l.length ≠ 16) (hn : l.length ≤ 900) (hx : idxP (fun s _ => s.toList == c.f2.toList) (l ++ [(⟨c.f2, 0⟩ : S53)]) = l.length) :
    Calls Tryd.prog 30 #[.pointer (some ⟨gd, 0, none⟩)] w fun e w' => e = .returned (.int .i64 1) ∧ ∃ u2, Dd w0 w' gd c rg u2 (keyed (l ++ [(⟨c.f2, 0⟩ : S53)]) l.length c.f9) typ host ((gen + 1) % 4294967296) (aptP c apt) ue ev := by
  have hu66 := Tryd.underlying66
  have hu31 := Tryd.underlying31
  have hu27 := Tryd.underlying27
  have hu24 := Tryd.underlying24
  have D := aS_ hd
  have HK := aS_ hk
  have F3 := apt3 c apt
  obtain ⟨ap, hap⟩ : ∃ ap, ap = aptP c apt := ⟨_, rfl⟩
  rw [← hap] at F3 ⊢
  clear hap
  have d9 : (c.f9 != 0) = true := bne_iff_ne.mpr h9
  clear h9
  have dk : (kk != 0) = false := by rw [h0]; rfl
  have dk0 : (kk == 0) = true := by rw [h0]; rfl
  clear h0
  have hmf : ∀ (fn : Fn) (first cap : Array Value) (w : World), (Instr.makeFunc fn first cap).run Tryd.prog w = .ok (.func fn first cap) w := fun _ _ _ _ => rfl
  have d16 : ((l.length : Int) == 16) = false := beq_eq_false_iff_ne.mpr (by omega)
  obtain ⟨l2, hl2⟩ : ∃ l2, l2 = l ++ [(⟨c.f2, 0⟩ : S53)] := ⟨_, rfl⟩
  rw [← hl2] at hx ⊢
  have L2 := aS_ hl2
  have hl_ : l2.length = l.length + 1 := by rw [hl2, List.length_append]; rfl
  have HN1 := aS_ hn
  have HN2 := aS_ (show l2.length ≤ 1000 by omega)
  have HI := aS_ (show l.length < l2.length by omega)
  have HX := aS_ hx
  have p0 : (0 : Int) ≤ (l.length : Int) := Int.natCast_nonneg l.length
  have q0 : (l.length : Int) < (l2.length : Int) := by omega
  clear hx hn h16 hl2 hl_
  obtain ⟨Au, cu, eu⟩ := Kd.R_slice hd.r
  subst eu
  clear hd hk
  rcases pass2 _ _ hps with f12 | ⟨f12, hk8⟩
  · skip
    go_enter Tryd.func30, Tryd.ntmps30
    go_wp2
    have n1_ := aS_ (D.out.below (below_drew (Below.refl _ _)))
    clear D
    have D := n1_
    clear n1_
    refine start_ (n := 11) (S := fun w' => w'.cell? ⟨gd, 14, none⟩ = some (.slice Au l.length cu) ∧ w'.cell? ⟨gd, 15, none⟩ = some (.int .i64 typ) ∧ w'.cell? ⟨gd, 16, none⟩ = some (.string host) ∧ w'.cell? ⟨gd, 17, none⟩ = some (.int .u32 gen) ∧ w'.cell? ⟨gd, 18, none⟩ = some (.bool apt) ∧ w'.cell? ⟨gd, 2, none⟩ = some (.string c.f2)) (ds := []) #[false, false, false, false, false, false, false, false, false, false, false] (by kernel_rfl) rfl rfl ⟨bC_ D.out.b 14 rfl, bC_ D.out.b 15 rfl, bC_ D.out.b 16 rfl, bC_ D.out.b 17 rfl, bC_ D.out.b 18 rfl, bC_ D.out.b 2 rfl⟩ (fun hHeld => ?_)
    generalize w.drew = w1 at D hHeld ⊢
    refine qon_ 0 (some 6) (dB 11 1) ?_
    refine qon_ 1 (some 7) (dB 11 3) ?_
    refine qon_ 2 (some 8) (dB 11 7) ?_
    refine qon_ 4 (some 10) (dB 11 23) ?_
    refine qon_ 5 (some 11) (dB 11 55) ?_
    refine qon_ 6 (some 12) (dB 11 119) ?_
    refine qon_ 7 (some 13) (dB 11 247) ?_
    refine qtk_ 3 (some 9) (dB 11 255) hHeld ?_
    refine qtk_ 8 (some 14) (dB 11 511) hHeld ?_
    refine one_ (i := 9) (N := some 15) (dB 11 1023) rfl rfl (by kernel_rfl) (by decide) (fun K hK => ?_)
    refine goes_ Tryd.func24 (by kernel_rfl) rfl #[.agg #[.slice Au l.length cu, .int .i64 typ, .string host, .int .u32 gen, .bool apt], .string c.f2] (by rfl) rfl rfl (by simp only [List.map_toArray, List.map_cons, List.map_nil]; rfl) ?_
    with_reducible refine (resv_Key.calls k Au cu l typ host gen apt c.f2 kk _ (Kd.R_reads' D.out.r).2.2 (Kd.R_reads' D.out.r).2.1 HK.out).mono ?_
    rintro e_ w2 ⟨rfl, hb⟩
    have n1_ := aS_ (D.out.below hb)
    clear D hb
    have D := n1_
    clear n1_
    refine ⟨_, rfl, ?_⟩
    refine hK.out _ _ ⟨bC_ D.out.b 14 rfl, bC_ D.out.b 15 rfl, bC_ D.out.b 16 rfl, bC_ D.out.b 17 rfl, bC_ D.out.b 18 rfl, bC_ D.out.b 2 rfl⟩ (fun hHeld => ?_)
    clear hK K
    refine norm_ (a' := ?_) ?_ ?_
    rotate_left
    ·show Act.put _ (some 15) _ = _
     simp only [Act.put, la_, lb_, lc_, i64_w, i32_w]
     rfl
    refine qon_ 10 (some 3) (dB 11 2047) ?_
    refine done_ (by kernel_rfl) ?_
    have hcd8 : w2.cell? ⟨gd, 8, none⟩ = some (.int .u64 c.f8) := bC_ D.out.b 8 rfl
    have hcd9 : w2.cell? ⟨gd, 9, none⟩ = some (.int .u64 c.f9) := bC_ D.out.b 9 rfl
    have hcd12 : w2.cell? ⟨gd, 12, none⟩ = some (.bool true) := (blk_cell D.out.b 12).trans (by show some (Value.bool c.f12) = _; rw [f12])
    have hcd14 : w2.cell? ⟨gd, 14, none⟩ = some (.slice Au l.length cu) := bC_ D.out.b 14 rfl
    go_wp2
    clear hcd8 hcd9 hcd12 hcd14
    have n1_ := aS_ (D.out.below (below_drew (Below.refl _ _)))
    clear D
    have D := n1_
    clear n1_
    refine start_ (n := 18) (S := fun w' => w'.cell? ⟨gd, 14, none⟩ = some (.slice Au l.length cu) ∧ w'.cell? ⟨gd, 2, none⟩ = some (.string c.f2)) (ds := [17]) #[false, false, false, false, false, false, false, false, false, false, false, false, false, false, false, false, false, false] (by kernel_rfl) rfl rfl ⟨bC_ D.out.b 14 rfl, bC_ D.out.b 2 rfl⟩ (fun hHeld => ?_)
    generalize w2.drew = w3 at D hHeld ⊢
    refine qon_ 0 (some 47) (dB 18 1) ?_
    refine qon_ 1 (some 48) (dB 18 3) ?_
    refine qon_ 2 (some 49) (dB 18 7) ?_
    refine qon_ 3 (some 50) (dB 18 15) ?_
    refine qon_ 4 (some 51) (dB 18 31) ?_
    refine qon_ 6 (some 53) (dB 18 95) ?_
    refine qon_ 7 (some 54) (dB 18 223) ?_
    refine qon_ 8 (some 55) (dB 18 479) ?_
    refine qon_ 9 (some 56) (dB 18 991) ?_
    refine qtk_ 5 (some 52) (dB 18 1023) hHeld ?_
    refine qtk_ 10 (some 57) (dB 18 2047) hHeld ?_
    refine qon_ 11 (some 58) (dB 18 4095) ?_
    refine one_ (i := 12) (N := some 59) (dB 18 8191) rfl rfl (by kernel_rfl) (by decide) (fun K hK => ?_)
    refine deed_value (w1 := ?_) (v := ?_) (by rfl) rfl ?_ ?_
    rotate_left 2
    ·go_simp
     constructor
     ·rfl
     ·rfl
    refine hK.out _ _ ⟨(blk_cell (blk_alloc D.out.b _) 14).trans rfl, (blk_cell (blk_alloc D.out.b _) 2).trans rfl⟩ (fun hHeld => ?_)
    clear hK K
    refine norm_ (a' := ?_) ?_ ?_
    rotate_left
    ·show Act.put _ (some 59) _ = _
     simp only [Act.put, la_, lb_, lc_, i64_w, i32_w]
     rfl
    refine one_ (i := 13) (N := some 60) (dB 18 16383) rfl rfl (by kernel_rfl) (by decide) (fun K hK => ?_)
    refine Kd.R_append_step k53 (w0 := w0) w0.heap.size (by rfl) (.tmp 52) (.tmp 59) 22 53 (.agg #[(.string ⟨#[]⟩), (.int .u64 0)]) 24 rfl Tryd.underlying22 info53 rfl (by decide) (by omega) (.slice Au l.length cu) l (⟨c.f2, 0⟩ : S53) [.string c.f2, .int .u64 0] (fun _ => True) (fun _ => False) rfl rfl ?aP (fun _ hk => hk.elim) ?aF ?aO ?aB ?aS ?aL ?_
    (case aP => exact k53_mkM _ _ _ (⟨c.f2, 0⟩ : S53))
    (case aB => exact D.out.hb)
    (case aF => exact (fun _ _ => trivial))
    (case aO => exact D.out.r)
    (case aS => exact below_size D.out.hb)
    (case aL => have := HN1.out; omega)
    intro v1 y1 ho hb hg hat
    rw [← L2.out] at ho
    (try rw [← L2.out])
    obtain ⟨A1, c1, e1⟩ := Kd.R_slice ho
    subst e1
    have n1_ := aS_ (blk_grown D.out.b hg (Kd.R_ne D.out.r D.out.b (by decide)))
    have n2_ := aS_ (row_grown D.out.re D.out.r (by decide) hg)
    have n3_ := aS_ ho
    have n4_ := aS_ hb
    have n5_ := aS_ D.out.o
    clear D ho hb hg hat
    have DB := n1_
    have DE := n2_
    have DR := n3_
    have DH := n4_
    have DO := n5_
    clear n1_ n2_ n3_ n4_ n5_
    refine hK.out _ _ ⟨bC_ DB.out 14 rfl, bC_ DB.out 2 rfl⟩ (fun hHeld => ?_)
    clear hK K
    refine norm_ (a' := ?_) ?_ ?_
    rotate_left
    ·show Act.put _ (some 60) _ = _
     simp only [Act.put, la_, lb_, lc_, i64_w, i32_w]
     rfl
    refine qon_ 14 (some 61) (dB 18 32767) ?_
    refine qon_ 15 (some 62) (dB 18 65535) ?_
    refine qon_ 16 (some 63) (dB 18 131071) ?_
    refine last_ (i := 17) (N := none) (dB 18 262143) rfl rfl (by kernel_rfl) (by decide) (fun K hK => ?_)
    have hs_ : y1.cell? ⟨gd, 14, none⟩ = some (.slice Au l.length cu) := bC_ DB.out 14 rfl
    have hfs_ := bF_ DB.out 14
    refine skip_ (w1 := ?_) (by rfl) rfl ?_ ?_
    rotate_left
    ·go_simp
     rfl
    refine hK.out _ _ ?_
    clear hK K
    refine done_ (by kernel_rfl) ?_
    (first | refine deed_then (fun w' => Aside0 (Dd w0 w' gd c rg (.slice A1 l2.length c1) l2 typ host gen apt ue ev)) ⟨⟨DO.out, blk_put DB.out 14 _ rfl, Kd.R_mono (Kd.R_far (p := ⟨gd, 14, none⟩) (Kd.R_types DR.out DB.out (by decide)) (fun _ hk => hk.2) _) (fun _ hk => hk.1), Kd.R_mono (Kd.R_far (p := ⟨gd, 14, none⟩) (Kd.R_types DE.out DB.out (by decide)) (fun _ hk => hk.2) _) (fun _ hk => hk.1), below_set DH.out DO.out⟩⟩ ?_ | refine deed_exit (fun w' => Aside0 (Dd w0 w' gd c rg (.slice A1 l2.length c1) l2 typ host gen apt ue ev)) ⟨⟨DO.out, blk_put DB.out 14 _ rfl, Kd.R_mono (Kd.R_far (p := ⟨gd, 14, none⟩) (Kd.R_types DR.out DB.out (by decide)) (fun _ hk => hk.2) _) (fun _ hk => hk.1), Kd.R_mono (Kd.R_far (p := ⟨gd, 14, none⟩) (Kd.R_types DE.out DB.out (by decide)) (fun _ hk => hk.2) _) (fun _ hk => hk.1), below_set DH.out DO.out⟩⟩ ?_)
    intro w5 DK_
    clear DB DR DE DH DO hs_ hfs_
    have D := DK_
    clear DK_
    obtain ⟨g, eg⟩ := D.out.some (Nat.lt_of_le_of_lt (Nat.zero_le _) HI.out)
    subst eg
    go_wp2
    have n1_ := aS_ (D.out.below (below_drew (Below.refl _ _)))
    clear D
    have D := n1_
    clear n1_
    refine start_ (n := 21) (S := fun w' => w'.cell? ⟨gd, 14, none⟩ = some (.slice (some ⟨g, 0, none⟩) l2.length c1) ∧ w'.cell? ⟨gd, 9, none⟩ = some (.int .u64 c.f9)) (ds := [20]) #[false, false, false, false, false, false, false, false, false, false, false, false, false, false, false, false, false, false, false, false, false] (by kernel_rfl) rfl rfl ⟨bC_ D.out.b 14 rfl, bC_ D.out.b 9 rfl⟩ (fun hHeld => ?_)
    generalize w5.drew = w6 at D hHeld ⊢
    refine qon_ 0 (some 64) (dB 21 1) ?_
    refine qon_ 1 (some 65) (dB 21 3) ?_
    refine qon_ 2 (some 66) (dB 21 7) ?_
    refine qon_ 3 (some 67) (dB 21 15) ?_
    refine qon_ 5 (some 69) (dB 21 47) ?_
    refine qon_ 6 (some 70) (dB 21 111) ?_
    refine qon_ 7 (some 71) (dB 21 239) ?_
    refine qon_ 8 (some 72) (dB 21 495) ?_
    refine qon_ 10 (some 74) (dB 21 1519) ?_
    refine qon_ 11 (some 75) (dB 21 3567) ?_
    refine qon_ 13 (some 77) (dB 21 11759) ?_
    refine qon_ 14 (some 78) (dB 21 28143) ?_
    refine qon_ 15 (some 79) (dB 21 60911) ?_
    refine qon_ 16 (some 80) (dB 21 126447) ?_
    refine qtk_ 4 (some 68) (dB 21 126463) hHeld ?_
    refine qtk_ 9 (some 73) (dB 21 126975) hHeld ?_
    refine qtk_ 17 (some 81) (dB 21 258047) hHeld ?_
    refine one_ (i := 12) (N := some 76) (dB 21 262143) rfl rfl (by kernel_rfl) (by decide) (fun K hK => ?_)
    refine goes_ Tryd.func52 (by kernel_rfl) rfl #[.slice (some ⟨g, 0, none⟩) l2.length c1, (.func (.func 53) #[.pointer (some ⟨gd, 0, none⟩)] #[])] (by rfl) rfl rfl (by simp only [List.map_toArray, List.map_cons, List.map_nil]; rfl) ?_
    with_reducible refine (index_itself (fun s _ => s.toList == c.f2.toList) gd (some ⟨g, 0, none⟩) c1 l2 _ (Kd.R_reads' D.out.r).2.2 HN2.out (fun s ky w1 hb => itself_calls gd c rg _ _ typ host gen apt s ky w1 (blk_below D.out.b hb))).mono ?_
    rw [HX.out]
    rintro e_ w7 ⟨rfl, hb⟩
    have n1_ := aS_ (D.out.below hb)
    clear D hb
    have D := n1_
    clear n1_
    refine ⟨_, rfl, ?_⟩
    refine hK.out _ _ ⟨bC_ D.out.b 14 rfl, bC_ D.out.b 9 rfl⟩ (fun hHeld => ?_)
    clear hK K
    refine norm_ (a' := ?_) ?_ ?_
    rotate_left
    ·show Act.put _ (some 76) _ = _
     simp only [Act.put, la_, lb_, lc_, i64_w, i32_w]
     rfl
    refine qon_ 18 (some 82) (dB 21 524287) ?_
    refine qon_ 19 (some 83) (dB 21 1048575) ?_
    refine last_ (i := 20) (N := none) (dB 21 2097151) rfl rfl (by kernel_rfl) (by decide) (fun K hK => ?_)
    obtain ⟨⟨vk_, hs_⟩, hfs_, hd9_⟩ := D.out.key l.length HI.out c.f9
    have D9_ := aS_ hd9_
    clear hd9_
    refine skip_ (w1 := ?_) (by rfl) rfl ?_ ?_
    rotate_left
    ·go_simp
     rfl
    refine hK.out _ _ ?_
    clear hK K
    refine done_ (by kernel_rfl) ?_
    (first | refine deed_then (fun w' => Aside0 (Dd w0 w' gd c rg (.slice (some ⟨g, 0, none⟩) l2.length c1) (keyed l2 l.length c.f9) typ host gen apt ue ev)) D9_ ?_ | refine deed_exit (fun w' => Aside0 (Dd w0 w' gd c rg (.slice (some ⟨g, 0, none⟩) l2.length c1) (keyed l2 l.length c.f9) typ host gen apt ue ev)) D9_ ?_)
    intro w9 DK_
    clear D D9_ hs_ hfs_
    have D := DK_
    clear DK_
    have hcd13 : w9.cell? ⟨gd, 13, none⟩ = some (.int .i64 c.f13) := bC_ D.out.b 13 rfl
    have hcd17 : w9.cell? ⟨gd, 17, none⟩ = some (.int .u32 gen) := bC_ D.out.b 17 rfl
    have hcd18 : w9.cell? ⟨gd, 18, none⟩ = some (.bool apt) := bC_ D.out.b 18 rfl
    have hfd17 := bF_ D.out.b 17
    have hfd18 := bF_ D.out.b 18
    rcases F3 with ⟨rfl, a1⟩ | ⟨rfl, a1, a2⟩ | ⟨rfl, a1, a2⟩
    all_goals
      go_wp2
      go_ret
      exact ⟨rfl, _, by first | exact (D.out.put 17 _ rfl).put 18 _ rfl | exact D.out.put 17 _ rfl⟩
  · skip
    go_enter Tryd.func30, Tryd.ntmps30
    go_wp2
    have n1_ := aS_ (D.out.below (below_drew (Below.refl _ _)))
    clear D
    have D := n1_
    clear n1_
    refine start_ (n := 11) (S := fun w' => w'.cell? ⟨gd, 14, none⟩ = some (.slice Au l.length cu) ∧ w'.cell? ⟨gd, 15, none⟩ = some (.int .i64 typ) ∧ w'.cell? ⟨gd, 16, none⟩ = some (.string host) ∧ w'.cell? ⟨gd, 17, none⟩ = some (.int .u32 gen) ∧ w'.cell? ⟨gd, 18, none⟩ = some (.bool apt) ∧ w'.cell? ⟨gd, 2, none⟩ = some (.string c.f2)) (ds := []) #[false, false, false, false, false, false, false, false, false, false, false] (by kernel_rfl) rfl rfl ⟨bC_ D.out.b 14 rfl, bC_ D.out.b 15 rfl, bC_ D.out.b 16 rfl, bC_ D.out.b 17 rfl, bC_ D.out.b 18 rfl, bC_ D.out.b 2 rfl⟩ (fun hHeld => ?_)
    generalize w.drew = w1 at D hHeld ⊢
    refine qon_ 0 (some 6) (dB 11 1) ?_
    refine qon_ 1 (some 7) (dB 11 3) ?_
    refine qon_ 2 (some 8) (dB 11 7) ?_
    refine qon_ 4 (some 10) (dB 11 23) ?_
    refine qon_ 5 (some 11) (dB 11 55) ?_
    refine qon_ 6 (some 12) (dB 11 119) ?_
    refine qon_ 7 (some 13) (dB 11 247) ?_
    refine qtk_ 3 (some 9) (dB 11 255) hHeld ?_
    refine qtk_ 8 (some 14) (dB 11 511) hHeld ?_
    refine one_ (i := 9) (N := some 15) (dB 11 1023) rfl rfl (by kernel_rfl) (by decide) (fun K hK => ?_)
    refine goes_ Tryd.func24 (by kernel_rfl) rfl #[.agg #[.slice Au l.length cu, .int .i64 typ, .string host, .int .u32 gen, .bool apt], .string c.f2] (by rfl) rfl rfl (by simp only [List.map_toArray, List.map_cons, List.map_nil]; rfl) ?_
    with_reducible refine (resv_Key.calls k Au cu l typ host gen apt c.f2 kk _ (Kd.R_reads' D.out.r).2.2 (Kd.R_reads' D.out.r).2.1 HK.out).mono ?_
    rintro e_ w2 ⟨rfl, hb⟩
    have n1_ := aS_ (D.out.below hb)
    clear D hb
    have D := n1_
    clear n1_
    refine ⟨_, rfl, ?_⟩
    refine hK.out _ _ ⟨bC_ D.out.b 14 rfl, bC_ D.out.b 15 rfl, bC_ D.out.b 16 rfl, bC_ D.out.b 17 rfl, bC_ D.out.b 18 rfl, bC_ D.out.b 2 rfl⟩ (fun hHeld => ?_)
    clear hK K
    refine norm_ (a' := ?_) ?_ ?_
    rotate_left
    ·show Act.put _ (some 15) _ = _
     simp only [Act.put, la_, lb_, lc_, i64_w, i32_w]
     rfl
    refine qon_ 10 (some 3) (dB 11 2047) ?_
    refine done_ (by kernel_rfl) ?_
    have hcd8 : w2.cell? ⟨gd, 8, none⟩ = some (.int .u64 c.f8) := bC_ D.out.b 8 rfl
    have hcd9 : w2.cell? ⟨gd, 9, none⟩ = some (.int .u64 c.f9) := bC_ D.out.b 9 rfl
    have hcd12 : w2.cell? ⟨gd, 12, none⟩ = some (.bool false) := (blk_cell D.out.b 12).trans (by show some (Value.bool c.f12) = _; rw [f12])
    have hcd14 : w2.cell? ⟨gd, 14, none⟩ = some (.slice Au l.length cu) := bC_ D.out.b 14 rfl
    go_wp2
    clear hcd8 hcd9 hcd12 hcd14
    have n1_ := aS_ (D.out.below (below_drew (Below.refl _ _)))
    clear D
    have D := n1_
    clear n1_
    refine start_ (n := 18) (S := fun w' => w'.cell? ⟨gd, 14, none⟩ = some (.slice Au l.length cu) ∧ w'.cell? ⟨gd, 2, none⟩ = some (.string c.f2)) (ds := [17]) #[false, false, false, false, false, false, false, false, false, false, false, false, false, false, false, false, false, false] (by kernel_rfl) rfl rfl ⟨bC_ D.out.b 14 rfl, bC_ D.out.b 2 rfl⟩ (fun hHeld => ?_)
    generalize w2.drew = w3 at D hHeld ⊢
    refine qon_ 0 (some 47) (dB 18 1) ?_
    refine qon_ 1 (some 48) (dB 18 3) ?_
    refine qon_ 2 (some 49) (dB 18 7) ?_
    refine qon_ 3 (some 50) (dB 18 15) ?_
    refine qon_ 4 (some 51) (dB 18 31) ?_
    refine qon_ 6 (some 53) (dB 18 95) ?_
    refine qon_ 7 (some 54) (dB 18 223) ?_
    refine qon_ 8 (some 55) (dB 18 479) ?_
    refine qon_ 9 (some 56) (dB 18 991) ?_
    refine qtk_ 5 (some 52) (dB 18 1023) hHeld ?_
    refine qtk_ 10 (some 57) (dB 18 2047) hHeld ?_
    refine qon_ 11 (some 58) (dB 18 4095) ?_
    refine one_ (i := 12) (N := some 59) (dB 18 8191) rfl rfl (by kernel_rfl) (by decide) (fun K hK => ?_)
    refine deed_value (w1 := ?_) (v := ?_) (by rfl) rfl ?_ ?_
    rotate_left 2
    ·go_simp
     constructor
     ·rfl
     ·rfl
    refine hK.out _ _ ⟨(blk_cell (blk_alloc D.out.b _) 14).trans rfl, (blk_cell (blk_alloc D.out.b _) 2).trans rfl⟩ (fun hHeld => ?_)
    clear hK K
    refine norm_ (a' := ?_) ?_ ?_
    rotate_left
    ·show Act.put _ (some 59) _ = _
     simp only [Act.put, la_, lb_, lc_, i64_w, i32_w]
     rfl
    refine one_ (i := 13) (N := some 60) (dB 18 16383) rfl rfl (by kernel_rfl) (by decide) (fun K hK => ?_)
    refine Kd.R_append_step k53 (w0 := w0) w0.heap.size (by rfl) (.tmp 52) (.tmp 59) 22 53 (.agg #[(.string ⟨#[]⟩), (.int .u64 0)]) 24 rfl Tryd.underlying22 info53 rfl (by decide) (by omega) (.slice Au l.length cu) l (⟨c.f2, 0⟩ : S53) [.string c.f2, .int .u64 0] (fun _ => True) (fun _ => False) rfl rfl ?aP (fun _ hk => hk.elim) ?aF ?aO ?aB ?aS ?aL ?_
    (case aP => exact k53_mkM _ _ _ (⟨c.f2, 0⟩ : S53))
    (case aB => exact D.out.hb)
    (case aF => exact (fun _ _ => trivial))
    (case aO => exact D.out.r)
    (case aS => exact below_size D.out.hb)
    (case aL => have := HN1.out; omega)
    intro v1 y1 ho hb hg hat
    rw [← L2.out] at ho
    (try rw [← L2.out])
    obtain ⟨A1, c1, e1⟩ := Kd.R_slice ho
    subst e1
    have n1_ := aS_ (blk_grown D.out.b hg (Kd.R_ne D.out.r D.out.b (by decide)))
    have n2_ := aS_ (row_grown D.out.re D.out.r (by decide) hg)
    have n3_ := aS_ ho
    have n4_ := aS_ hb
    have n5_ := aS_ D.out.o
    clear D ho hb hg hat
    have DB := n1_
    have DE := n2_
    have DR := n3_
    have DH := n4_
    have DO := n5_
    clear n1_ n2_ n3_ n4_ n5_
    refine hK.out _ _ ⟨bC_ DB.out 14 rfl, bC_ DB.out 2 rfl⟩ (fun hHeld => ?_)
    clear hK K
    refine norm_ (a' := ?_) ?_ ?_
    rotate_left
    ·show Act.put _ (some 60) _ = _
     simp only [Act.put, la_, lb_, lc_, i64_w, i32_w]
     rfl
    refine qon_ 14 (some 61) (dB 18 32767) ?_
    refine qon_ 15 (some 62) (dB 18 65535) ?_
    refine qon_ 16 (some 63) (dB 18 131071) ?_
    refine last_ (i := 17) (N := none) (dB 18 262143) rfl rfl (by kernel_rfl) (by decide) (fun K hK => ?_)
    have hs_ : y1.cell? ⟨gd, 14, none⟩ = some (.slice Au l.length cu) := bC_ DB.out 14 rfl
    have hfs_ := bF_ DB.out 14
    refine skip_ (w1 := ?_) (by rfl) rfl ?_ ?_
    rotate_left
    ·go_simp
     rfl
    refine hK.out _ _ ?_
    clear hK K
    refine done_ (by kernel_rfl) ?_
    (first | refine deed_then (fun w' => Aside0 (Dd w0 w' gd c rg (.slice A1 l2.length c1) l2 typ host gen apt ue ev)) ⟨⟨DO.out, blk_put DB.out 14 _ rfl, Kd.R_mono (Kd.R_far (p := ⟨gd, 14, none⟩) (Kd.R_types DR.out DB.out (by decide)) (fun _ hk => hk.2) _) (fun _ hk => hk.1), Kd.R_mono (Kd.R_far (p := ⟨gd, 14, none⟩) (Kd.R_types DE.out DB.out (by decide)) (fun _ hk => hk.2) _) (fun _ hk => hk.1), below_set DH.out DO.out⟩⟩ ?_ | refine deed_exit (fun w' => Aside0 (Dd w0 w' gd c rg (.slice A1 l2.length c1) l2 typ host gen apt ue ev)) ⟨⟨DO.out, blk_put DB.out 14 _ rfl, Kd.R_mono (Kd.R_far (p := ⟨gd, 14, none⟩) (Kd.R_types DR.out DB.out (by decide)) (fun _ hk => hk.2) _) (fun _ hk => hk.1), Kd.R_mono (Kd.R_far (p := ⟨gd, 14, none⟩) (Kd.R_types DE.out DB.out (by decide)) (fun _ hk => hk.2) _) (fun _ hk => hk.1), below_set DH.out DO.out⟩⟩ ?_)
    intro w5 DK_
    clear DB DR DE DH DO hs_ hfs_
    have D := DK_
    clear DK_
    obtain ⟨g, eg⟩ := D.out.some (Nat.lt_of_le_of_lt (Nat.zero_le _) HI.out)
    subst eg
    go_wp2
    have n1_ := aS_ (D.out.below (below_drew (Below.refl _ _)))
    clear D
    have D := n1_
    clear n1_
    refine start_ (n := 21) (S := fun w' => w'.cell? ⟨gd, 14, none⟩ = some (.slice (some ⟨g, 0, none⟩) l2.length c1) ∧ w'.cell? ⟨gd, 9, none⟩ = some (.int .u64 c.f9)) (ds := [20]) #[false, false, false, false, false, false, false, false, false, false, false, false, false, false, false, false, false, false, false, false, false] (by kernel_rfl) rfl rfl ⟨bC_ D.out.b 14 rfl, bC_ D.out.b 9 rfl⟩ (fun hHeld => ?_)
    generalize w5.drew = w6 at D hHeld ⊢
    refine qon_ 0 (some 64) (dB 21 1) ?_
    refine qon_ 1 (some 65) (dB 21 3) ?_
    refine qon_ 2 (some 66) (dB 21 7) ?_
    refine qon_ 3 (some 67) (dB 21 15) ?_
    refine qon_ 5 (some 69) (dB 21 47) ?_
    refine qon_ 6 (some 70) (dB 21 111) ?_
    refine qon_ 7 (some 71) (dB 21 239) ?_
    refine qon_ 8 (some 72) (dB 21 495) ?_
    refine qon_ 10 (some 74) (dB 21 1519) ?_
    refine qon_ 11 (some 75) (dB 21 3567) ?_
    refine qon_ 13 (some 77) (dB 21 11759) ?_
    refine qon_ 14 (some 78) (dB 21 28143) ?_
    refine qon_ 15 (some 79) (dB 21 60911) ?_
    refine qon_ 16 (some 80) (dB 21 126447) ?_
    refine qtk_ 4 (some 68) (dB 21 126463) hHeld ?_
    refine qtk_ 9 (some 73) (dB 21 126975) hHeld ?_
    refine qtk_ 17 (some 81) (dB 21 258047) hHeld ?_
    refine one_ (i := 12) (N := some 76) (dB 21 262143) rfl rfl (by kernel_rfl) (by decide) (fun K hK => ?_)
    refine goes_ Tryd.func52 (by kernel_rfl) rfl #[.slice (some ⟨g, 0, none⟩) l2.length c1, (.func (.func 53) #[.pointer (some ⟨gd, 0, none⟩)] #[])] (by rfl) rfl rfl (by simp only [List.map_toArray, List.map_cons, List.map_nil]; rfl) ?_
    with_reducible refine (index_itself (fun s _ => s.toList == c.f2.toList) gd (some ⟨g, 0, none⟩) c1 l2 _ (Kd.R_reads' D.out.r).2.2 HN2.out (fun s ky w1 hb => itself_calls gd c rg _ _ typ host gen apt s ky w1 (blk_below D.out.b hb))).mono ?_
    rw [HX.out]
    rintro e_ w7 ⟨rfl, hb⟩
    have n1_ := aS_ (D.out.below hb)
    clear D hb
    have D := n1_
    clear n1_
    refine ⟨_, rfl, ?_⟩
    refine hK.out _ _ ⟨bC_ D.out.b 14 rfl, bC_ D.out.b 9 rfl⟩ (fun hHeld => ?_)
    clear hK K
    refine norm_ (a' := ?_) ?_ ?_
    rotate_left
    ·show Act.put _ (some 76) _ = _
     simp only [Act.put, la_, lb_, lc_, i64_w, i32_w]
     rfl
    refine qon_ 18 (some 82) (dB 21 524287) ?_
    refine qon_ 19 (some 83) (dB 21 1048575) ?_
    refine last_ (i := 20) (N := none) (dB 21 2097151) rfl rfl (by kernel_rfl) (by decide) (fun K hK => ?_)
    obtain ⟨⟨vk_, hs_⟩, hfs_, hd9_⟩ := D.out.key l.length HI.out c.f9
    have D9_ := aS_ hd9_
    clear hd9_
    refine skip_ (w1 := ?_) (by rfl) rfl ?_ ?_
    rotate_left
    ·go_simp
     rfl
    refine hK.out _ _ ?_
    clear hK K
    refine done_ (by kernel_rfl) ?_
    (first | refine deed_then (fun w' => Aside0 (Dd w0 w' gd c rg (.slice (some ⟨g, 0, none⟩) l2.length c1) (keyed l2 l.length c.f9) typ host gen apt ue ev)) D9_ ?_ | refine deed_exit (fun w' => Aside0 (Dd w0 w' gd c rg (.slice (some ⟨g, 0, none⟩) l2.length c1) (keyed l2 l.length c.f9) typ host gen apt ue ev)) D9_ ?_)
    intro w9 DK_
    clear D D9_ hs_ hfs_
    have D := DK_
    clear DK_
    have hcd13 : w9.cell? ⟨gd, 13, none⟩ = some (.int .i64 c.f13) := bC_ D.out.b 13 rfl
    have hcd17 : w9.cell? ⟨gd, 17, none⟩ = some (.int .u32 gen) := bC_ D.out.b 17 rfl
    have hcd18 : w9.cell? ⟨gd, 18, none⟩ = some (.bool apt) := bC_ D.out.b 18 rfl
    have hfd17 := bF_ D.out.b 17
    have hfd18 := bF_ D.out.b 18
    rcases F3 with ⟨rfl, a1⟩ | ⟨rfl, a1, a2⟩ | ⟨rfl, a1, a2⟩
    all_goals
      go_wp2
      go_ret
      exact ⟨rfl, _, by first | exact (D.out.put 17 _ rfl).put 18 _ rfl | exact D.out.put 17 _ rfl⟩
theorem register_stay (k : Nat) (w0 : World) (gd : Nat) (c : S31) (rg u ue : Value) (l : List S53) (ev : List S46) (typ : Int) (host : ByteArray) (gen : Int) (apt : Bool) (kk : Int) (w : World) (hd : Dd w0 w gd c rg u l typ host gen apt ue ev) (hk : resv_Key.f k l typ host gen apt c.f2 = some kk) (hps : (!c.f12 && c.f8 != kk) = false) (h9 : c.f9 = 0) (h0 : kk ≠ 0) (hn : l.length ≤ 1000) (eb : Bool) (he : resv_everybody.f typ = some eb) (al : Bool) (hal : (host.toList == c.f2.toList) = al) (z : Bool) (hz : ((l.filter fun x => !(x.f0.toList == c.f2.toList)).length == 0) = z) (hs : (al || eb && z) = false) :
    Calls Tryd.prog 30 #[.pointer (some ⟨gd, 0, none⟩)] w fun e w' => e = .returned (.int .i64 1) ∧ ∃ u2, Dd w0 w' gd c rg u2 (l.filter fun x => !(x.f0.toList == c.f2.toList)) typ host ((gen + 1) % 4294967296) (aptP c apt) ue ev := by
  have hu66 := Tryd.underlying66
  have hu31 := Tryd.underlying31
  have hu27 := Tryd.underlying27
  have hu24 := Tryd.underlying24
  have D := aS_ hd
  have HK := aS_ hk
  have F3 := apt3 c apt
  obtain ⟨ap, hap⟩ : ∃ ap, ap = aptP c apt := ⟨_, rfl⟩
  rw [← hap] at F3 ⊢
  clear hap
  have hmf : ∀ (fn : Fn) (first cap : Array Value) (w : World), (Instr.makeFunc fn first cap).run Tryd.prog w = .ok (.func fn first cap) w := fun _ _ _ _ => rfl
  have d9 : (c.f9 != 0) = false := by rw [h9]; rfl
  clear h9
  have dk : (kk != 0) = true := bne_iff_ne.mpr h0
  have dk0 : (kk == 0) = false := beq_eq_false_iff_ne.mpr h0
  clear h0
  obtain ⟨l2, hl2⟩ : ∃ l2, l2 = l.filter fun x => !(x.f0.toList == c.f2.toList) := ⟨_, rfl⟩
  rw [← hl2] at hz ⊢
  have L2 := aS_ hl2
  have HN := aS_ hn
  have HN2 := aS_ (show l2.length ≤ 1000 by have := List.length_filter_le (fun x : S53 => !(x.f0.toList == c.f2.toList)) l; rw [← hl2] at this; omega)
  clear hn hl2
  have HE := aS_ he
  have hz2 : ((l2.length : Int) == 0) = z := by rw [← hz]; cases h : l2.length <;> rfl
  clear he hz
  obtain ⟨Au, cu, eu⟩ := Kd.R_slice hd.r
  subst eu
  clear hd hk
  rcases pass2 _ _ hps with f12 | ⟨f12, hk8⟩
  · skip
    go_enter Tryd.func30, Tryd.ntmps30
    go_wp2
    have n1_ := aS_ (D.out.below (below_drew (Below.refl _ _)))
    clear D
    have D := n1_
    clear n1_
    refine start_ (n := 11) (S := fun w' => w'.cell? ⟨gd, 14, none⟩ = some (.slice Au l.length cu) ∧ w'.cell? ⟨gd, 15, none⟩ = some (.int .i64 typ) ∧ w'.cell? ⟨gd, 16, none⟩ = some (.string host) ∧ w'.cell? ⟨gd, 17, none⟩ = some (.int .u32 gen) ∧ w'.cell? ⟨gd, 18, none⟩ = some (.bool apt) ∧ w'.cell? ⟨gd, 2, none⟩ = some (.string c.f2)) (ds := []) #[false, false, false, false, false, false, false, false, false, false, false] (by kernel_rfl) rfl rfl ⟨bC_ D.out.b 14 rfl, bC_ D.out.b 15 rfl, bC_ D.out.b 16 rfl, bC_ D.out.b 17 rfl, bC_ D.out.b 18 rfl, bC_ D.out.b 2 rfl⟩ (fun hHeld => ?_)
    generalize w.drew = w1 at D hHeld ⊢
    refine qon_ 0 (some 6) (dB 11 1) ?_
    refine qon_ 1 (some 7) (dB 11 3) ?_
    refine qon_ 2 (some 8) (dB 11 7) ?_
    refine qon_ 4 (some 10) (dB 11 23) ?_
    refine qon_ 5 (some 11) (dB 11 55) ?_
    refine qon_ 6 (some 12) (dB 11 119) ?_
    refine qon_ 7 (some 13) (dB 11 247) ?_
    refine qtk_ 3 (some 9) (dB 11 255) hHeld ?_
    refine qtk_ 8 (some 14) (dB 11 511) hHeld ?_
    refine one_ (i := 9) (N := some 15) (dB 11 1023) rfl rfl (by kernel_rfl) (by decide) (fun K hK => ?_)
    refine goes_ Tryd.func24 (by kernel_rfl) rfl #[.agg #[.slice Au l.length cu, .int .i64 typ, .string host, .int .u32 gen, .bool apt], .string c.f2] (by rfl) rfl rfl (by simp only [List.map_toArray, List.map_cons, List.map_nil]; rfl) ?_
    with_reducible refine (resv_Key.calls k Au cu l typ host gen apt c.f2 kk _ (Kd.R_reads' D.out.r).2.2 (Kd.R_reads' D.out.r).2.1 HK.out).mono ?_
    rintro e_ w2 ⟨rfl, hb⟩
    have n1_ := aS_ (D.out.below hb)
    clear D hb
    have D := n1_
    clear n1_
    refine ⟨_, rfl, ?_⟩
    refine hK.out _ _ ⟨bC_ D.out.b 14 rfl, bC_ D.out.b 15 rfl, bC_ D.out.b 16 rfl, bC_ D.out.b 17 rfl, bC_ D.out.b 18 rfl, bC_ D.out.b 2 rfl⟩ (fun hHeld => ?_)
    clear hK K
    refine norm_ (a' := ?_) ?_ ?_
    rotate_left
    ·show Act.put _ (some 15) _ = _
     simp only [Act.put, la_, lb_, lc_, i64_w, i32_w]
     rfl
    refine qon_ 10 (some 3) (dB 11 2047) ?_
    refine done_ (by kernel_rfl) ?_
    have hcd8 : w2.cell? ⟨gd, 8, none⟩ = some (.int .u64 c.f8) := bC_ D.out.b 8 rfl
    have hcd9 : w2.cell? ⟨gd, 9, none⟩ = some (.int .u64 c.f9) := bC_ D.out.b 9 rfl
    have hcd12 : w2.cell? ⟨gd, 12, none⟩ = some (.bool true) := (blk_cell D.out.b 12).trans (by show some (Value.bool c.f12) = _; rw [f12])
    go_wp2_with (first
      | (go_at_call 54; refine (drop_itself w0 gd c rg _ _ l _ typ host gen apt _ D.out HN.out).mono ?_; rintro e w5 ⟨rfl, ⟨u2, hd2_⟩⟩; clear D; have D := aS_ (show Dd w0 w5 gd c rg u2 l2 typ host gen apt ue ev by rw [L2.out]; exact hd2_); clear hd2_; obtain ⟨A2, c2, e2⟩ := Kd.R_slice D.out.r; subst e2; have hcd17 : w5.cell? ⟨gd, 17, none⟩ = some (.int .u32 gen) := bC_ D.out.b 17 rfl; have hfd17 := bF_ D.out.b 17))
    refine Hand.at_world (fun w' => Aside0 (Dd w0 w' gd c rg (.slice A2 l2.length c2) l2 typ host ((gen + 1) % 4294967296) apt ue ev)) ⟨D.out.put 17 _ rfl⟩ ?_
    intro w6 DK_
    clear D hcd17 hfd17 hcd8 hcd9 hcd12
    have D := DK_
    clear DK_
    have n1_ := aS_ (D.out.below (below_drew (Below.refl _ _)))
    clear D
    have D := n1_
    clear n1_
    refine start_ (n := 13) (S := fun w' => w'.cell? ⟨gd, 16, none⟩ = some (.string host) ∧ w'.cell? ⟨gd, 2, none⟩ = some (.string c.f2)) (ds := []) #[false, false, false, false, false, false, false, false, false, false, false, false, false] (by kernel_rfl) rfl rfl ⟨bC_ D.out.b 16 rfl, bC_ D.out.b 2 rfl⟩ (fun hHeld => ?_)
    generalize w6.drew = w7 at D hHeld ⊢
    refine qon_ 0 (some 109) (dB 13 1) ?_
    refine qon_ 1 (some 110) (dB 13 3) ?_
    refine qon_ 2 (some 111) (dB 13 7) ?_
    refine qon_ 3 (some 112) (dB 13 15) ?_
    refine qon_ 4 (some 113) (dB 13 31) ?_
    refine qon_ 6 (some 115) (dB 13 95) ?_
    refine qon_ 7 (some 116) (dB 13 223) ?_
    refine qon_ 8 (some 117) (dB 13 479) ?_
    refine qon_ 9 (some 118) (dB 13 991) ?_
    refine qtk_ 5 (some 114) (dB 13 1023) hHeld ?_
    refine qtk_ 10 (some 119) (dB 13 2047) hHeld ?_
    refine qon_ 11 (some 120) (dB 13 4095) ?_
    refine qon_ 12 (some 4) (dB 13 8191) ?_
    refine done_ (by kernel_rfl) ?_
    have hcd13 : w7.cell? ⟨gd, 13, none⟩ = some (.int .i64 c.f13) := bC_ D.out.b 13 rfl
    have hcd14 : w7.cell? ⟨gd, 14, none⟩ = some (.slice A2 l2.length c2) := bC_ D.out.b 14 rfl
    have hcd15 : w7.cell? ⟨gd, 15, none⟩ = some (.int .i64 typ) := bC_ D.out.b 15 rfl
    have hcd16 : w7.cell? ⟨gd, 16, none⟩ = some (.string host) := bC_ D.out.b 16 rfl
    have hcd18 : w7.cell? ⟨gd, 18, none⟩ = some (.bool apt) := bC_ D.out.b 18 rfl
    have hfd15 := bF_ D.out.b 15
    have hfd16 := bF_ D.out.b 16
    have hfd18 := bF_ D.out.b 18
    cases al
    · cases eb
      · skip
        rcases F3 with ⟨rfl, a1⟩ | ⟨rfl, a1, a2⟩ | ⟨rfl, a1, a2⟩
        all_goals
          go_wp2_with (first
            | (go_at_call 46; refine (resv_everybody.calls typ false _ HE.out).mono ?_; rintro e w8 ⟨rfl, hd⟩; have hb_ := hd.below; have n1_ := aS_ (D.out.below hb_); clear D hd hb_; clear hcd13 hcd14 hcd15 hcd16 hcd18 hfd15 hfd16 hfd18; have D := n1_; clear n1_; have hcd13 : w8.cell? ⟨gd, 13, none⟩ = some (.int .i64 c.f13) := bC_ D.out.b 13 rfl; have hcd14 : w8.cell? ⟨gd, 14, none⟩ = some (.slice A2 l2.length c2) := bC_ D.out.b 14 rfl; have hcd15 : w8.cell? ⟨gd, 15, none⟩ = some (.int .i64 typ) := bC_ D.out.b 15 rfl; have hcd16 : w8.cell? ⟨gd, 16, none⟩ = some (.string host) := bC_ D.out.b 16 rfl; have hcd18 : w8.cell? ⟨gd, 18, none⟩ = some (.bool apt) := bC_ D.out.b 18 rfl; have hfd15 := bF_ D.out.b 15; have hfd16 := bF_ D.out.b 16; have hfd18 := bF_ D.out.b 18))
          go_ret
          exact ⟨rfl, _, by first | exact D.out.put 18 _ rfl | exact D.out⟩
      · cases z
        · skip
          rcases F3 with ⟨rfl, a1⟩ | ⟨rfl, a1, a2⟩ | ⟨rfl, a1, a2⟩
          all_goals
            go_wp2_with (first
              | (go_at_call 46; refine (resv_everybody.calls typ true _ HE.out).mono ?_; rintro e w8 ⟨rfl, hd⟩; have hb_ := hd.below; have n1_ := aS_ (D.out.below hb_); clear D hd hb_; clear hcd13 hcd14 hcd15 hcd16 hcd18 hfd15 hfd16 hfd18; have D := n1_; clear n1_; have hcd13 : w8.cell? ⟨gd, 13, none⟩ = some (.int .i64 c.f13) := bC_ D.out.b 13 rfl; have hcd14 : w8.cell? ⟨gd, 14, none⟩ = some (.slice A2 l2.length c2) := bC_ D.out.b 14 rfl; have hcd15 : w8.cell? ⟨gd, 15, none⟩ = some (.int .i64 typ) := bC_ D.out.b 15 rfl; have hcd16 : w8.cell? ⟨gd, 16, none⟩ = some (.string host) := bC_ D.out.b 16 rfl; have hcd18 : w8.cell? ⟨gd, 18, none⟩ = some (.bool apt) := bC_ D.out.b 18 rfl; have hfd15 := bF_ D.out.b 15; have hfd16 := bF_ D.out.b 16; have hfd18 := bF_ D.out.b 18))
            go_ret
            exact ⟨rfl, _, by first | exact D.out.put 18 _ rfl | exact D.out⟩
        · exact absurd hs (by decide)
    · exact absurd hs (by simp)
  · skip
    go_enter Tryd.func30, Tryd.ntmps30
    go_wp2
    have n1_ := aS_ (D.out.below (below_drew (Below.refl _ _)))
    clear D
    have D := n1_
    clear n1_
    refine start_ (n := 11) (S := fun w' => w'.cell? ⟨gd, 14, none⟩ = some (.slice Au l.length cu) ∧ w'.cell? ⟨gd, 15, none⟩ = some (.int .i64 typ) ∧ w'.cell? ⟨gd, 16, none⟩ = some (.string host) ∧ w'.cell? ⟨gd, 17, none⟩ = some (.int .u32 gen) ∧ w'.cell? ⟨gd, 18, none⟩ = some (.bool apt) ∧ w'.cell? ⟨gd, 2, none⟩ = some (.string c.f2)) (ds := []) #[false, false, false, false, false, false, false, false, false, false, false] (by kernel_rfl) rfl rfl ⟨bC_ D.out.b 14 rfl, bC_ D.out.b 15 rfl, bC_ D.out.b 16 rfl, bC_ D.out.b 17 rfl, bC_ D.out.b 18 rfl, bC_ D.out.b 2 rfl⟩ (fun hHeld => ?_)
    generalize w.drew = w1 at D hHeld ⊢
    refine qon_ 0 (some 6) (dB 11 1) ?_
    refine qon_ 1 (some 7) (dB 11 3) ?_
    refine qon_ 2 (some 8) (dB 11 7) ?_
    refine qon_ 4 (some 10) (dB 11 23) ?_
    refine qon_ 5 (some 11) (dB 11 55) ?_
    refine qon_ 6 (some 12) (dB 11 119) ?_
    refine qon_ 7 (some 13) (dB 11 247) ?_
    refine qtk_ 3 (some 9) (dB 11 255) hHeld ?_
    refine qtk_ 8 (some 14) (dB 11 511) hHeld ?_
    refine one_ (i := 9) (N := some 15) (dB 11 1023) rfl rfl (by kernel_rfl) (by decide) (fun K hK => ?_)
    refine goes_ Tryd.func24 (by kernel_rfl) rfl #[.agg #[.slice Au l.length cu, .int .i64 typ, .string host, .int .u32 gen, .bool apt], .string c.f2] (by rfl) rfl rfl (by simp only [List.map_toArray, List.map_cons, List.map_nil]; rfl) ?_
    with_reducible refine (resv_Key.calls k Au cu l typ host gen apt c.f2 kk _ (Kd.R_reads' D.out.r).2.2 (Kd.R_reads' D.out.r).2.1 HK.out).mono ?_
    rintro e_ w2 ⟨rfl, hb⟩
    have n1_ := aS_ (D.out.below hb)
    clear D hb
    have D := n1_
    clear n1_
    refine ⟨_, rfl, ?_⟩
    refine hK.out _ _ ⟨bC_ D.out.b 14 rfl, bC_ D.out.b 15 rfl, bC_ D.out.b 16 rfl, bC_ D.out.b 17 rfl, bC_ D.out.b 18 rfl, bC_ D.out.b 2 rfl⟩ (fun hHeld => ?_)
    clear hK K
    refine norm_ (a' := ?_) ?_ ?_
    rotate_left
    ·show Act.put _ (some 15) _ = _
     simp only [Act.put, la_, lb_, lc_, i64_w, i32_w]
     rfl
    refine qon_ 10 (some 3) (dB 11 2047) ?_
    refine done_ (by kernel_rfl) ?_
    have hcd8 : w2.cell? ⟨gd, 8, none⟩ = some (.int .u64 c.f8) := bC_ D.out.b 8 rfl
    have hcd9 : w2.cell? ⟨gd, 9, none⟩ = some (.int .u64 c.f9) := bC_ D.out.b 9 rfl
    have hcd12 : w2.cell? ⟨gd, 12, none⟩ = some (.bool false) := (blk_cell D.out.b 12).trans (by show some (Value.bool c.f12) = _; rw [f12])
    go_wp2_with (first
      | (go_at_call 54; refine (drop_itself w0 gd c rg _ _ l _ typ host gen apt _ D.out HN.out).mono ?_; rintro e w5 ⟨rfl, ⟨u2, hd2_⟩⟩; clear D; have D := aS_ (show Dd w0 w5 gd c rg u2 l2 typ host gen apt ue ev by rw [L2.out]; exact hd2_); clear hd2_; obtain ⟨A2, c2, e2⟩ := Kd.R_slice D.out.r; subst e2; have hcd17 : w5.cell? ⟨gd, 17, none⟩ = some (.int .u32 gen) := bC_ D.out.b 17 rfl; have hfd17 := bF_ D.out.b 17))
    refine Hand.at_world (fun w' => Aside0 (Dd w0 w' gd c rg (.slice A2 l2.length c2) l2 typ host ((gen + 1) % 4294967296) apt ue ev)) ⟨D.out.put 17 _ rfl⟩ ?_
    intro w6 DK_
    clear D hcd17 hfd17 hcd8 hcd9 hcd12
    have D := DK_
    clear DK_
    have n1_ := aS_ (D.out.below (below_drew (Below.refl _ _)))
    clear D
    have D := n1_
    clear n1_
    refine start_ (n := 13) (S := fun w' => w'.cell? ⟨gd, 16, none⟩ = some (.string host) ∧ w'.cell? ⟨gd, 2, none⟩ = some (.string c.f2)) (ds := []) #[false, false, false, false, false, false, false, false, false, false, false, false, false] (by kernel_rfl) rfl rfl ⟨bC_ D.out.b 16 rfl, bC_ D.out.b 2 rfl⟩ (fun hHeld => ?_)
    generalize w6.drew = w7 at D hHeld ⊢
    refine qon_ 0 (some 109) (dB 13 1) ?_
    refine qon_ 1 (some 110) (dB 13 3) ?_
    refine qon_ 2 (some 111) (dB 13 7) ?_
    refine qon_ 3 (some 112) (dB 13 15) ?_
    refine qon_ 4 (some 113) (dB 13 31) ?_
    refine qon_ 6 (some 115) (dB 13 95) ?_
    refine qon_ 7 (some 116) (dB 13 223) ?_
    refine qon_ 8 (some 117) (dB 13 479) ?_
    refine qon_ 9 (some 118) (dB 13 991) ?_
    refine qtk_ 5 (some 114) (dB 13 1023) hHeld ?_
    refine qtk_ 10 (some 119) (dB 13 2047) hHeld ?_
    refine qon_ 11 (some 120) (dB 13 4095) ?_
    refine qon_ 12 (some 4) (dB 13 8191) ?_
    refine done_ (by kernel_rfl) ?_
    have hcd13 : w7.cell? ⟨gd, 13, none⟩ = some (.int .i64 c.f13) := bC_ D.out.b 13 rfl
    have hcd14 : w7.cell? ⟨gd, 14, none⟩ = some (.slice A2 l2.length c2) := bC_ D.out.b 14 rfl
    have hcd15 : w7.cell? ⟨gd, 15, none⟩ = some (.int .i64 typ) := bC_ D.out.b 15 rfl
    have hcd16 : w7.cell? ⟨gd, 16, none⟩ = some (.string host) := bC_ D.out.b 16 rfl
    have hcd18 : w7.cell? ⟨gd, 18, none⟩ = some (.bool apt) := bC_ D.out.b 18 rfl
    have hfd15 := bF_ D.out.b 15
    have hfd16 := bF_ D.out.b 16
    have hfd18 := bF_ D.out.b 18
    cases al
    · cases eb
      · skip
        rcases F3 with ⟨rfl, a1⟩ | ⟨rfl, a1, a2⟩ | ⟨rfl, a1, a2⟩
        all_goals
          go_wp2_with (first
            | (go_at_call 46; refine (resv_everybody.calls typ false _ HE.out).mono ?_; rintro e w8 ⟨rfl, hd⟩; have hb_ := hd.below; have n1_ := aS_ (D.out.below hb_); clear D hd hb_; clear hcd13 hcd14 hcd15 hcd16 hcd18 hfd15 hfd16 hfd18; have D := n1_; clear n1_; have hcd13 : w8.cell? ⟨gd, 13, none⟩ = some (.int .i64 c.f13) := bC_ D.out.b 13 rfl; have hcd14 : w8.cell? ⟨gd, 14, none⟩ = some (.slice A2 l2.length c2) := bC_ D.out.b 14 rfl; have hcd15 : w8.cell? ⟨gd, 15, none⟩ = some (.int .i64 typ) := bC_ D.out.b 15 rfl; have hcd16 : w8.cell? ⟨gd, 16, none⟩ = some (.string host) := bC_ D.out.b 16 rfl; have hcd18 : w8.cell? ⟨gd, 18, none⟩ = some (.bool apt) := bC_ D.out.b 18 rfl; have hfd15 := bF_ D.out.b 15; have hfd16 := bF_ D.out.b 16; have hfd18 := bF_ D.out.b 18))
          go_ret
          exact ⟨rfl, _, by first | exact D.out.put 18 _ rfl | exact D.out⟩
      · cases z
        · skip
          rcases F3 with ⟨rfl, a1⟩ | ⟨rfl, a1, a2⟩ | ⟨rfl, a1, a2⟩
          all_goals
            go_wp2_with (first
              | (go_at_call 46; refine (resv_everybody.calls typ true _ HE.out).mono ?_; rintro e w8 ⟨rfl, hd⟩; have hb_ := hd.below; have n1_ := aS_ (D.out.below hb_); clear D hd hb_; clear hcd13 hcd14 hcd15 hcd16 hcd18 hfd15 hfd16 hfd18; have D := n1_; clear n1_; have hcd13 : w8.cell? ⟨gd, 13, none⟩ = some (.int .i64 c.f13) := bC_ D.out.b 13 rfl; have hcd14 : w8.cell? ⟨gd, 14, none⟩ = some (.slice A2 l2.length c2) := bC_ D.out.b 14 rfl; have hcd15 : w8.cell? ⟨gd, 15, none⟩ = some (.int .i64 typ) := bC_ D.out.b 15 rfl; have hcd16 : w8.cell? ⟨gd, 16, none⟩ = some (.string host) := bC_ D.out.b 16 rfl; have hcd18 : w8.cell? ⟨gd, 18, none⟩ = some (.bool apt) := bC_ D.out.b 18 rfl; have hfd15 := bF_ D.out.b 15; have hfd16 := bF_ D.out.b 16; have hfd18 := bF_ D.out.b 18))
            go_ret
            exact ⟨rfl, _, by first | exact D.out.put 18 _ rfl | exact D.out⟩
        · exact absurd hs (by decide)
    · exact absurd hs (by simp)
theorem register_free (k : Nat) (w0 : World) (gd : Nat) (c : S31) (rg u ue : Value) (l : List S53) (ev : List S46) (typ : Int) (host : ByteArray) (gen : Int) (apt : Bool) (kk : Int) (w : World) (hd : Dd w0 w gd c rg u l typ host gen apt ue ev) (hk : resv_Key.f k l typ host gen apt c.f2 = some kk) (hps : (!c.f12 && c.f8 != kk) = false) (h9 : c.f9 = 0) (h0 : kk ≠ 0) (hev : ev.length ≤ 1000) (hn : l.length ≤ 1000) (eb : Bool) (he : resv_everybody.f typ = some eb) (al : Bool) (hal : (host.toList == c.f2.toList) = al) (z : Bool) (hz : ((l.filter fun x => !(x.f0.toList == c.f2.toList)).length == 0) = z) (hs : (al || eb && z) = true) :
    Calls Tryd.prog 30 #[.pointer (some ⟨gd, 0, none⟩)] w fun e w' => e = .returned (.int .i64 1) ∧ ∃ u2 ue2, Dd w0 w' gd c rg u2 (l.filter fun x => !(x.f0.toList == c.f2.toList)) 0 (⟨#[]⟩ : ByteArray) ((gen + 1) % 4294967296) (aptP c apt) ue2 (ev ++ freed c typ (l.filter fun x => !(x.f0.toList == c.f2.toList))) := by
  have hu66 := Tryd.underlying66
  have hu31 := Tryd.underlying31
  have hu27 := Tryd.underlying27
  have hu24 := Tryd.underlying24
  have D := aS_ hd
  have HK := aS_ hk
  have F3 := apt3 c apt
  obtain ⟨ap, hap⟩ : ∃ ap, ap = aptP c apt := ⟨_, rfl⟩
  rw [← hap] at F3 ⊢
  clear hap
  have hmf : ∀ (fn : Fn) (first cap : Array Value) (w : World), (Instr.makeFunc fn first cap).run Tryd.prog w = .ok (.func fn first cap) w := fun _ _ _ _ => rfl
  have d9 : (c.f9 != 0) = false := by rw [h9]; rfl
  clear h9
  have dk : (kk != 0) = true := bne_iff_ne.mpr h0
  have dk0 : (kk == 0) = false := beq_eq_false_iff_ne.mpr h0
  clear h0
  obtain ⟨l2, hl2⟩ : ∃ l2, l2 = l.filter fun x => !(x.f0.toList == c.f2.toList) := ⟨_, rfl⟩
  rw [← hl2] at hz ⊢
  have L2 := aS_ hl2
  have HN := aS_ hn
  have HN2 := aS_ (show l2.length ≤ 1000 by have := List.length_filter_le (fun x : S53 => !(x.f0.toList == c.f2.toList)) l; rw [← hl2] at this; omega)
  clear hn hl2
  have HE := aS_ he
  have HEV := aS_ hev
  have hz2 : ((l2.length : Int) == 0) = z := by rw [← hz]; cases h : l2.length <;> rfl
  clear he hz hev
  obtain ⟨t3, h3⟩ : ∃ t3, (typ == 3) = t3 := ⟨_, rfl⟩
  obtain ⟨t4, h4⟩ : ∃ t4, (typ == 4) = t4 := ⟨_, rfl⟩
  obtain ⟨Au, cu, eu⟩ := Kd.R_slice hd.r
  subst eu
  clear hd hk
  rcases pass2 _ _ hps with f12 | ⟨f12, hk8⟩
  · skip
    go_enter Tryd.func30, Tryd.ntmps30
    go_wp2
    have n1_ := aS_ (D.out.below (below_drew (Below.refl _ _)))
    clear D
    have D := n1_
    clear n1_
    refine start_ (n := 11) (S := fun w' => w'.cell? ⟨gd, 14, none⟩ = some (.slice Au l.length cu) ∧ w'.cell? ⟨gd, 15, none⟩ = some (.int .i64 typ) ∧ w'.cell? ⟨gd, 16, none⟩ = some (.string host) ∧ w'.cell? ⟨gd, 17, none⟩ = some (.int .u32 gen) ∧ w'.cell? ⟨gd, 18, none⟩ = some (.bool apt) ∧ w'.cell? ⟨gd, 2, none⟩ = some (.string c.f2)) (ds := []) #[false, false, false, false, false, false, false, false, false, false, false] (by kernel_rfl) rfl rfl ⟨bC_ D.out.b 14 rfl, bC_ D.out.b 15 rfl, bC_ D.out.b 16 rfl, bC_ D.out.b 17 rfl, bC_ D.out.b 18 rfl, bC_ D.out.b 2 rfl⟩ (fun hHeld => ?_)
    generalize w.drew = w1 at D hHeld ⊢
    refine qon_ 0 (some 6) (dB 11 1) ?_
    refine qon_ 1 (some 7) (dB 11 3) ?_
    refine qon_ 2 (some 8) (dB 11 7) ?_
    refine qon_ 4 (some 10) (dB 11 23) ?_
    refine qon_ 5 (some 11) (dB 11 55) ?_
    refine qon_ 6 (some 12) (dB 11 119) ?_
    refine qon_ 7 (some 13) (dB 11 247) ?_
    refine qtk_ 3 (some 9) (dB 11 255) hHeld ?_
    refine qtk_ 8 (some 14) (dB 11 511) hHeld ?_
    refine one_ (i := 9) (N := some 15) (dB 11 1023) rfl rfl (by kernel_rfl) (by decide) (fun K hK => ?_)
    refine goes_ Tryd.func24 (by kernel_rfl) rfl #[.agg #[.slice Au l.length cu, .int .i64 typ, .string host, .int .u32 gen, .bool apt], .string c.f2] (by rfl) rfl rfl (by simp only [List.map_toArray, List.map_cons, List.map_nil]; rfl) ?_
    with_reducible refine (resv_Key.calls k Au cu l typ host gen apt c.f2 kk _ (Kd.R_reads' D.out.r).2.2 (Kd.R_reads' D.out.r).2.1 HK.out).mono ?_
    rintro e_ w2 ⟨rfl, hb⟩
    have n1_ := aS_ (D.out.below hb)
    clear D hb
    have D := n1_
    clear n1_
    refine ⟨_, rfl, ?_⟩
    refine hK.out _ _ ⟨bC_ D.out.b 14 rfl, bC_ D.out.b 15 rfl, bC_ D.out.b 16 rfl, bC_ D.out.b 17 rfl, bC_ D.out.b 18 rfl, bC_ D.out.b 2 rfl⟩ (fun hHeld => ?_)
    clear hK K
    refine norm_ (a' := ?_) ?_ ?_
    rotate_left
    ·show Act.put _ (some 15) _ = _
     simp only [Act.put, la_, lb_, lc_, i64_w, i32_w]
     rfl
    refine qon_ 10 (some 3) (dB 11 2047) ?_
    refine done_ (by kernel_rfl) ?_
    have hcd8 : w2.cell? ⟨gd, 8, none⟩ = some (.int .u64 c.f8) := bC_ D.out.b 8 rfl
    have hcd9 : w2.cell? ⟨gd, 9, none⟩ = some (.int .u64 c.f9) := bC_ D.out.b 9 rfl
    have hcd12 : w2.cell? ⟨gd, 12, none⟩ = some (.bool true) := (blk_cell D.out.b 12).trans (by show some (Value.bool c.f12) = _; rw [f12])
    go_wp2_with (first
      | (go_at_call 54; refine (drop_itself w0 gd c rg _ _ l _ typ host gen apt _ D.out HN.out).mono ?_; rintro e w5 ⟨rfl, ⟨u2, hd2_⟩⟩; clear D; have D := aS_ (show Dd w0 w5 gd c rg u2 l2 typ host gen apt ue ev by rw [L2.out]; exact hd2_); clear hd2_; obtain ⟨A2, c2, e2⟩ := Kd.R_slice D.out.r; subst e2; have hcd17 : w5.cell? ⟨gd, 17, none⟩ = some (.int .u32 gen) := bC_ D.out.b 17 rfl; have hfd17 := bF_ D.out.b 17))
    refine Hand.at_world (fun w' => Aside0 (Dd w0 w' gd c rg (.slice A2 l2.length c2) l2 typ host ((gen + 1) % 4294967296) apt ue ev)) ⟨D.out.put 17 _ rfl⟩ ?_
    intro w6 DK_
    clear D hcd17 hfd17 hcd8 hcd9 hcd12
    have D := DK_
    clear DK_
    have n1_ := aS_ (D.out.below (below_drew (Below.refl _ _)))
    clear D
    have D := n1_
    clear n1_
    refine start_ (n := 13) (S := fun w' => w'.cell? ⟨gd, 16, none⟩ = some (.string host) ∧ w'.cell? ⟨gd, 2, none⟩ = some (.string c.f2)) (ds := []) #[false, false, false, false, false, false, false, false, false, false, false, false, false] (by kernel_rfl) rfl rfl ⟨bC_ D.out.b 16 rfl, bC_ D.out.b 2 rfl⟩ (fun hHeld => ?_)
    generalize w6.drew = w7 at D hHeld ⊢
    refine qon_ 0 (some 109) (dB 13 1) ?_
    refine qon_ 1 (some 110) (dB 13 3) ?_
    refine qon_ 2 (some 111) (dB 13 7) ?_
    refine qon_ 3 (some 112) (dB 13 15) ?_
    refine qon_ 4 (some 113) (dB 13 31) ?_
    refine qon_ 6 (some 115) (dB 13 95) ?_
    refine qon_ 7 (some 116) (dB 13 223) ?_
    refine qon_ 8 (some 117) (dB 13 479) ?_
    refine qon_ 9 (some 118) (dB 13 991) ?_
    refine qtk_ 5 (some 114) (dB 13 1023) hHeld ?_
    refine qtk_ 10 (some 119) (dB 13 2047) hHeld ?_
    refine qon_ 11 (some 120) (dB 13 4095) ?_
    refine qon_ 12 (some 4) (dB 13 8191) ?_
    refine done_ (by kernel_rfl) ?_
    have hcd13 : w7.cell? ⟨gd, 13, none⟩ = some (.int .i64 c.f13) := bC_ D.out.b 13 rfl
    have hcd14 : w7.cell? ⟨gd, 14, none⟩ = some (.slice A2 l2.length c2) := bC_ D.out.b 14 rfl
    have hcd15 : w7.cell? ⟨gd, 15, none⟩ = some (.int .i64 typ) := bC_ D.out.b 15 rfl
    have hcd16 : w7.cell? ⟨gd, 16, none⟩ = some (.string host) := bC_ D.out.b 16 rfl
    have hcd18 : w7.cell? ⟨gd, 18, none⟩ = some (.bool apt) := bC_ D.out.b 18 rfl
    have hfd15 := bF_ D.out.b 15
    have hfd16 := bF_ D.out.b 16
    have hfd18 := bF_ D.out.b 18
    cases al
    · cases eb
      · exact absurd hs (by simp)
      · cases z
        · exact absurd hs (by decide)
        · skip
          cases t3
          · cases t4
            · skip
              have HF := aS_ (show freed c typ l2 = [] by unfold freed; rw [h3, h4]; rfl)
              rcases F3 with ⟨rfl, a1⟩ | ⟨rfl, a1, a2⟩ | ⟨rfl, a1, a2⟩
              all_goals
                go_wp2_with (first
                  | (go_at_call 46; refine (resv_everybody.calls typ true _ HE.out).mono ?_; rintro e w8 ⟨rfl, hd⟩; have hb_ := hd.below; have n1_ := aS_ (D.out.below hb_); clear D hd hb_; clear hcd13 hcd14 hcd15 hcd16 hcd18 hfd15 hfd16 hfd18; have D := n1_; clear n1_; have hcd13 : w8.cell? ⟨gd, 13, none⟩ = some (.int .i64 c.f13) := bC_ D.out.b 13 rfl; have hcd14 : w8.cell? ⟨gd, 14, none⟩ = some (.slice A2 l2.length c2) := bC_ D.out.b 14 rfl; have hcd15 : w8.cell? ⟨gd, 15, none⟩ = some (.int .i64 typ) := bC_ D.out.b 15 rfl; have hcd16 : w8.cell? ⟨gd, 16, none⟩ = some (.string host) := bC_ D.out.b 16 rfl; have hcd18 : w8.cell? ⟨gd, 18, none⟩ = some (.bool apt) := bC_ D.out.b 18 rfl; have hfd15 := bF_ D.out.b 15; have hfd16 := bF_ D.out.b 16; have hfd18 := bF_ D.out.b 18))
                go_ret
                exact ⟨rfl, _, _, by rw [HF.out, List.append_nil]; first | exact ((D.out.put 15 _ rfl).put 16 _ rfl).put 18 _ rfl | exact (D.out.put 15 _ rfl).put 16 _ rfl⟩
            · skip
              have HF := aS_ (show freed c typ l2 = told c (fun _ _ => true) 3 l2 l2.length by unfold freed; rw [h3, h4]; rfl)
              rcases F3 with ⟨rfl, a1⟩ | ⟨rfl, a1, a2⟩ | ⟨rfl, a1, a2⟩
              all_goals
                go_wp2_with (first
                  | (go_at_call 46; refine (resv_everybody.calls typ true _ HE.out).mono ?_; rintro e w8 ⟨rfl, hd⟩; have hb_ := hd.below; have n1_ := aS_ (D.out.below hb_); clear D hd hb_; clear hcd13 hcd14 hcd15 hcd16 hcd18 hfd15 hfd16 hfd18; have D := n1_; clear n1_; have hcd13 : w8.cell? ⟨gd, 13, none⟩ = some (.int .i64 c.f13) := bC_ D.out.b 13 rfl; have hcd14 : w8.cell? ⟨gd, 14, none⟩ = some (.slice A2 l2.length c2) := bC_ D.out.b 14 rfl; have hcd15 : w8.cell? ⟨gd, 15, none⟩ = some (.int .i64 typ) := bC_ D.out.b 15 rfl; have hcd16 : w8.cell? ⟨gd, 16, none⟩ = some (.string host) := bC_ D.out.b 16 rfl; have hcd18 : w8.cell? ⟨gd, 18, none⟩ = some (.bool apt) := bC_ D.out.b 18 rfl; have hfd15 := bF_ D.out.b 15; have hfd16 := bF_ D.out.b 16; have hfd18 := bF_ D.out.b 18)
                  | (go_at_call 55; refine (tell_all w0 gd c rg _ _ l2 ev typ host ((gen + 1) % 4294967296) apt 3 _ D.out HN2.out HEV.out).mono ?_; rintro e w10 ⟨rfl, hd_⟩; obtain ⟨ue2, hd2_⟩ := hd_.out; clear D hd_; clear hcd13 hcd14 hcd15 hcd16 hcd18 hfd15 hfd16 hfd18; have D := aS_ hd2_; clear hd2_; have hcd13 : w10.cell? ⟨gd, 13, none⟩ = some (.int .i64 c.f13) := bC_ D.out.b 13 rfl; have hcd14 : w10.cell? ⟨gd, 14, none⟩ = some (.slice A2 l2.length c2) := bC_ D.out.b 14 rfl; have hcd15 : w10.cell? ⟨gd, 15, none⟩ = some (.int .i64 typ) := bC_ D.out.b 15 rfl; have hcd16 : w10.cell? ⟨gd, 16, none⟩ = some (.string host) := bC_ D.out.b 16 rfl; have hcd18 : w10.cell? ⟨gd, 18, none⟩ = some (.bool apt) := bC_ D.out.b 18 rfl; have hfd15 := bF_ D.out.b 15; have hfd16 := bF_ D.out.b 16; have hfd18 := bF_ D.out.b 18))
                go_ret
                exact ⟨rfl, _, _, by rw [HF.out]; first | exact ((D.out.put 15 _ rfl).put 16 _ rfl).put 18 _ rfl | exact (D.out.put 15 _ rfl).put 16 _ rfl⟩
          · skip
            have HF := aS_ (show freed c typ l2 = told c (fun _ _ => true) 3 l2 l2.length by unfold freed; rw [h3, h4]; rfl)
            rcases F3 with ⟨rfl, a1⟩ | ⟨rfl, a1, a2⟩ | ⟨rfl, a1, a2⟩
            all_goals
              go_wp2_with (first
                | (go_at_call 46; refine (resv_everybody.calls typ true _ HE.out).mono ?_; rintro e w8 ⟨rfl, hd⟩; have hb_ := hd.below; have n1_ := aS_ (D.out.below hb_); clear D hd hb_; clear hcd13 hcd14 hcd15 hcd16 hcd18 hfd15 hfd16 hfd18; have D := n1_; clear n1_; have hcd13 : w8.cell? ⟨gd, 13, none⟩ = some (.int .i64 c.f13) := bC_ D.out.b 13 rfl; have hcd14 : w8.cell? ⟨gd, 14, none⟩ = some (.slice A2 l2.length c2) := bC_ D.out.b 14 rfl; have hcd15 : w8.cell? ⟨gd, 15, none⟩ = some (.int .i64 typ) := bC_ D.out.b 15 rfl; have hcd16 : w8.cell? ⟨gd, 16, none⟩ = some (.string host) := bC_ D.out.b 16 rfl; have hcd18 : w8.cell? ⟨gd, 18, none⟩ = some (.bool apt) := bC_ D.out.b 18 rfl; have hfd15 := bF_ D.out.b 15; have hfd16 := bF_ D.out.b 16; have hfd18 := bF_ D.out.b 18)
                | (go_at_call 55; refine (tell_all w0 gd c rg _ _ l2 ev typ host ((gen + 1) % 4294967296) apt 3 _ D.out HN2.out HEV.out).mono ?_; rintro e w10 ⟨rfl, hd_⟩; obtain ⟨ue2, hd2_⟩ := hd_.out; clear D hd_; clear hcd13 hcd14 hcd15 hcd16 hcd18 hfd15 hfd16 hfd18; have D := aS_ hd2_; clear hd2_; have hcd13 : w10.cell? ⟨gd, 13, none⟩ = some (.int .i64 c.f13) := bC_ D.out.b 13 rfl; have hcd14 : w10.cell? ⟨gd, 14, none⟩ = some (.slice A2 l2.length c2) := bC_ D.out.b 14 rfl; have hcd15 : w10.cell? ⟨gd, 15, none⟩ = some (.int .i64 typ) := bC_ D.out.b 15 rfl; have hcd16 : w10.cell? ⟨gd, 16, none⟩ = some (.string host) := bC_ D.out.b 16 rfl; have hcd18 : w10.cell? ⟨gd, 18, none⟩ = some (.bool apt) := bC_ D.out.b 18 rfl; have hfd15 := bF_ D.out.b 15; have hfd16 := bF_ D.out.b 16; have hfd18 := bF_ D.out.b 18))
              go_ret
              exact ⟨rfl, _, _, by rw [HF.out]; first | exact ((D.out.put 15 _ rfl).put 16 _ rfl).put 18 _ rfl | exact (D.out.put 15 _ rfl).put 16 _ rfl⟩
    · skip
      cases t3
      · cases t4
        · skip
          have HF := aS_ (show freed c typ l2 = [] by unfold freed; rw [h3, h4]; rfl)
          rcases F3 with ⟨rfl, a1⟩ | ⟨rfl, a1, a2⟩ | ⟨rfl, a1, a2⟩
          all_goals
            go_wp2
            go_ret
            exact ⟨rfl, _, _, by rw [HF.out, List.append_nil]; first | exact ((D.out.put 15 _ rfl).put 16 _ rfl).put 18 _ rfl | exact (D.out.put 15 _ rfl).put 16 _ rfl⟩
        · skip
          have HF := aS_ (show freed c typ l2 = told c (fun _ _ => true) 3 l2 l2.length by unfold freed; rw [h3, h4]; rfl)
          rcases F3 with ⟨rfl, a1⟩ | ⟨rfl, a1, a2⟩ | ⟨rfl, a1, a2⟩
          all_goals
            go_wp2_with (first
              | (go_at_call 55; refine (tell_all w0 gd c rg _ _ l2 ev typ host ((gen + 1) % 4294967296) apt 3 _ D.out HN2.out HEV.out).mono ?_; rintro e w10 ⟨rfl, hd_⟩; obtain ⟨ue2, hd2_⟩ := hd_.out; clear D hd_; clear hcd13 hcd14 hcd15 hcd16 hcd18 hfd15 hfd16 hfd18; have D := aS_ hd2_; clear hd2_; have hcd13 : w10.cell? ⟨gd, 13, none⟩ = some (.int .i64 c.f13) := bC_ D.out.b 13 rfl; have hcd14 : w10.cell? ⟨gd, 14, none⟩ = some (.slice A2 l2.length c2) := bC_ D.out.b 14 rfl; have hcd15 : w10.cell? ⟨gd, 15, none⟩ = some (.int .i64 typ) := bC_ D.out.b 15 rfl; have hcd16 : w10.cell? ⟨gd, 16, none⟩ = some (.string host) := bC_ D.out.b 16 rfl; have hcd18 : w10.cell? ⟨gd, 18, none⟩ = some (.bool apt) := bC_ D.out.b 18 rfl; have hfd15 := bF_ D.out.b 15; have hfd16 := bF_ D.out.b 16; have hfd18 := bF_ D.out.b 18))
            go_ret
            exact ⟨rfl, _, _, by rw [HF.out]; first | exact ((D.out.put 15 _ rfl).put 16 _ rfl).put 18 _ rfl | exact (D.out.put 15 _ rfl).put 16 _ rfl⟩
      · skip
        have HF := aS_ (show freed c typ l2 = told c (fun _ _ => true) 3 l2 l2.length by unfold freed; rw [h3, h4]; rfl)
        rcases F3 with ⟨rfl, a1⟩ | ⟨rfl, a1, a2⟩ | ⟨rfl, a1, a2⟩
        all_goals
          go_wp2_with (first
            | (go_at_call 55; refine (tell_all w0 gd c rg _ _ l2 ev typ host ((gen + 1) % 4294967296) apt 3 _ D.out HN2.out HEV.out).mono ?_; rintro e w10 ⟨rfl, hd_⟩; obtain ⟨ue2, hd2_⟩ := hd_.out; clear D hd_; clear hcd13 hcd14 hcd15 hcd16 hcd18 hfd15 hfd16 hfd18; have D := aS_ hd2_; clear hd2_; have hcd13 : w10.cell? ⟨gd, 13, none⟩ = some (.int .i64 c.f13) := bC_ D.out.b 13 rfl; have hcd14 : w10.cell? ⟨gd, 14, none⟩ = some (.slice A2 l2.length c2) := bC_ D.out.b 14 rfl; have hcd15 : w10.cell? ⟨gd, 15, none⟩ = some (.int .i64 typ) := bC_ D.out.b 15 rfl; have hcd16 : w10.cell? ⟨gd, 16, none⟩ = some (.string host) := bC_ D.out.b 16 rfl; have hcd18 : w10.cell? ⟨gd, 18, none⟩ = some (.bool apt) := bC_ D.out.b 18 rfl; have hfd15 := bF_ D.out.b 15; have hfd16 := bF_ D.out.b 16; have hfd18 := bF_ D.out.b 18))
          go_ret
          exact ⟨rfl, _, _, by rw [HF.out]; first | exact ((D.out.put 15 _ rfl).put 16 _ rfl).put 18 _ rfl | exact (D.out.put 15 _ rfl).put 16 _ rfl⟩
  · skip
    go_enter Tryd.func30, Tryd.ntmps30
    go_wp2
    have n1_ := aS_ (D.out.below (below_drew (Below.refl _ _)))
    clear D
    have D := n1_
    clear n1_
    refine start_ (n := 11) (S := fun w' => w'.cell? ⟨gd, 14, none⟩ = some (.slice Au l.length cu) ∧ w'.cell? ⟨gd, 15, none⟩ = some (.int .i64 typ) ∧ w'.cell? ⟨gd, 16, none⟩ = some (.string host) ∧ w'.cell? ⟨gd, 17, none⟩ = some (.int .u32 gen) ∧ w'.cell? ⟨gd, 18, none⟩ = some (.bool apt) ∧ w'.cell? ⟨gd, 2, none⟩ = some (.string c.f2)) (ds := []) #[false, false, false, false, false, false, false, false, false, false, false] (by kernel_rfl) rfl rfl ⟨bC_ D.out.b 14 rfl, bC_ D.out.b 15 rfl, bC_ D.out.b 16 rfl, bC_ D.out.b 17 rfl, bC_ D.out.b 18 rfl, bC_ D.out.b 2 rfl⟩ (fun hHeld => ?_)
    generalize w.drew = w1 at D hHeld ⊢
    refine qon_ 0 (some 6) (dB 11 1) ?_
    refine qon_ 1 (some 7) (dB 11 3) ?_
    refine qon_ 2 (some 8) (dB 11 7) ?_
    refine qon_ 4 (some 10) (dB 11 23) ?_
    refine qon_ 5 (some 11) (dB 11 55) ?_
    refine qon_ 6 (some 12) (dB 11 119) ?_
    refine qon_ 7 (some 13) (dB 11 247) ?_
    refine qtk_ 3 (some 9) (dB 11 255) hHeld ?_
    refine qtk_ 8 (some 14) (dB 11 511) hHeld ?_
    refine one_ (i := 9) (N := some 15) (dB 11 1023) rfl rfl (by kernel_rfl) (by decide) (fun K hK => ?_)
    refine goes_ Tryd.func24 (by kernel_rfl) rfl #[.agg #[.slice Au l.length cu, .int .i64 typ, .string host, .int .u32 gen, .bool apt], .string c.f2] (by rfl) rfl rfl (by simp only [List.map_toArray, List.map_cons, List.map_nil]; rfl) ?_
    with_reducible refine (resv_Key.calls k Au cu l typ host gen apt c.f2 kk _ (Kd.R_reads' D.out.r).2.2 (Kd.R_reads' D.out.r).2.1 HK.out).mono ?_
    rintro e_ w2 ⟨rfl, hb⟩
    have n1_ := aS_ (D.out.below hb)
    clear D hb
    have D := n1_
    clear n1_
    refine ⟨_, rfl, ?_⟩
    refine hK.out _ _ ⟨bC_ D.out.b 14 rfl, bC_ D.out.b 15 rfl, bC_ D.out.b 16 rfl, bC_ D.out.b 17 rfl, bC_ D.out.b 18 rfl, bC_ D.out.b 2 rfl⟩ (fun hHeld => ?_)
    clear hK K
    refine norm_ (a' := ?_) ?_ ?_
    rotate_left
    ·show Act.put _ (some 15) _ = _
     simp only [Act.put, la_, lb_, lc_, i64_w, i32_w]
     rfl
    refine qon_ 10 (some 3) (dB 11 2047) ?_
    refine done_ (by kernel_rfl) ?_
    have hcd8 : w2.cell? ⟨gd, 8, none⟩ = some (.int .u64 c.f8) := bC_ D.out.b 8 rfl
    have hcd9 : w2.cell? ⟨gd, 9, none⟩ = some (.int .u64 c.f9) := bC_ D.out.b 9 rfl
    have hcd12 : w2.cell? ⟨gd, 12, none⟩ = some (.bool false) := (blk_cell D.out.b 12).trans (by show some (Value.bool c.f12) = _; rw [f12])
    go_wp2_with (first
      | (go_at_call 54; refine (drop_itself w0 gd c rg _ _ l _ typ host gen apt _ D.out HN.out).mono ?_; rintro e w5 ⟨rfl, ⟨u2, hd2_⟩⟩; clear D; have D := aS_ (show Dd w0 w5 gd c rg u2 l2 typ host gen apt ue ev by rw [L2.out]; exact hd2_); clear hd2_; obtain ⟨A2, c2, e2⟩ := Kd.R_slice D.out.r; subst e2; have hcd17 : w5.cell? ⟨gd, 17, none⟩ = some (.int .u32 gen) := bC_ D.out.b 17 rfl; have hfd17 := bF_ D.out.b 17))
    refine Hand.at_world (fun w' => Aside0 (Dd w0 w' gd c rg (.slice A2 l2.length c2) l2 typ host ((gen + 1) % 4294967296) apt ue ev)) ⟨D.out.put 17 _ rfl⟩ ?_
    intro w6 DK_
    clear D hcd17 hfd17 hcd8 hcd9 hcd12
    have D := DK_
    clear DK_
    have n1_ := aS_ (D.out.below (below_drew (Below.refl _ _)))
    clear D
    have D := n1_
    clear n1_
    refine start_ (n := 13) (S := fun w' => w'.cell? ⟨gd, 16, none⟩ = some (.string host) ∧ w'.cell? ⟨gd, 2, none⟩ = some (.string c.f2)) (ds := []) #[false, false, false, false, false, false, false, false, false, false, false, false, false] (by kernel_rfl) rfl rfl ⟨bC_ D.out.b 16 rfl, bC_ D.out.b 2 rfl⟩ (fun hHeld => ?_)
    generalize w6.drew = w7 at D hHeld ⊢
    refine qon_ 0 (some 109) (dB 13 1) ?_
    refine qon_ 1 (some 110) (dB 13 3) ?_
    refine qon_ 2 (some 111) (dB 13 7) ?_
    refine qon_ 3 (some 112) (dB 13 15) ?_
    refine qon_ 4 (some 113) (dB 13 31) ?_
    refine qon_ 6 (some 115) (dB 13 95) ?_
    refine qon_ 7 (some 116) (dB 13 223) ?_
    refine qon_ 8 (some 117) (dB 13 479) ?_
    refine qon_ 9 (some 118) (dB 13 991) ?_
    refine qtk_ 5 (some 114) (dB 13 1023) hHeld ?_
    refine qtk_ 10 (some 119) (dB 13 2047) hHeld ?_
    refine qon_ 11 (some 120) (dB 13 4095) ?_
    refine qon_ 12 (some 4) (dB 13 8191) ?_
    refine done_ (by kernel_rfl) ?_
    have hcd13 : w7.cell? ⟨gd, 13, none⟩ = some (.int .i64 c.f13) := bC_ D.out.b 13 rfl
    have hcd14 : w7.cell? ⟨gd, 14, none⟩ = some (.slice A2 l2.length c2) := bC_ D.out.b 14 rfl
    have hcd15 : w7.cell? ⟨gd, 15, none⟩ = some (.int .i64 typ) := bC_ D.out.b 15 rfl
    have hcd16 : w7.cell? ⟨gd, 16, none⟩ = some (.string host) := bC_ D.out.b 16 rfl
    have hcd18 : w7.cell? ⟨gd, 18, none⟩ = some (.bool apt) := bC_ D.out.b 18 rfl
    have hfd15 := bF_ D.out.b 15
    have hfd16 := bF_ D.out.b 16
    have hfd18 := bF_ D.out.b 18
    cases al
    · cases eb
      · exact absurd hs (by simp)
      · cases z
        · exact absurd hs (by decide)
        · skip
          cases t3
          · cases t4
            · skip
              have HF := aS_ (show freed c typ l2 = [] by unfold freed; rw [h3, h4]; rfl)
              rcases F3 with ⟨rfl, a1⟩ | ⟨rfl, a1, a2⟩ | ⟨rfl, a1, a2⟩
              all_goals
                go_wp2_with (first
                  | (go_at_call 46; refine (resv_everybody.calls typ true _ HE.out).mono ?_; rintro e w8 ⟨rfl, hd⟩; have hb_ := hd.below; have n1_ := aS_ (D.out.below hb_); clear D hd hb_; clear hcd13 hcd14 hcd15 hcd16 hcd18 hfd15 hfd16 hfd18; have D := n1_; clear n1_; have hcd13 : w8.cell? ⟨gd, 13, none⟩ = some (.int .i64 c.f13) := bC_ D.out.b 13 rfl; have hcd14 : w8.cell? ⟨gd, 14, none⟩ = some (.slice A2 l2.length c2) := bC_ D.out.b 14 rfl; have hcd15 : w8.cell? ⟨gd, 15, none⟩ = some (.int .i64 typ) := bC_ D.out.b 15 rfl; have hcd16 : w8.cell? ⟨gd, 16, none⟩ = some (.string host) := bC_ D.out.b 16 rfl; have hcd18 : w8.cell? ⟨gd, 18, none⟩ = some (.bool apt) := bC_ D.out.b 18 rfl; have hfd15 := bF_ D.out.b 15; have hfd16 := bF_ D.out.b 16; have hfd18 := bF_ D.out.b 18))
                go_ret
                exact ⟨rfl, _, _, by rw [HF.out, List.append_nil]; first | exact ((D.out.put 15 _ rfl).put 16 _ rfl).put 18 _ rfl | exact (D.out.put 15 _ rfl).put 16 _ rfl⟩
            · skip
              have HF := aS_ (show freed c typ l2 = told c (fun _ _ => true) 3 l2 l2.length by unfold freed; rw [h3, h4]; rfl)
              rcases F3 with ⟨rfl, a1⟩ | ⟨rfl, a1, a2⟩ | ⟨rfl, a1, a2⟩
              all_goals
                go_wp2_with (first
                  | (go_at_call 46; refine (resv_everybody.calls typ true _ HE.out).mono ?_; rintro e w8 ⟨rfl, hd⟩; have hb_ := hd.below; have n1_ := aS_ (D.out.below hb_); clear D hd hb_; clear hcd13 hcd14 hcd15 hcd16 hcd18 hfd15 hfd16 hfd18; have D := n1_; clear n1_; have hcd13 : w8.cell? ⟨gd, 13, none⟩ = some (.int .i64 c.f13) := bC_ D.out.b 13 rfl; have hcd14 : w8.cell? ⟨gd, 14, none⟩ = some (.slice A2 l2.length c2) := bC_ D.out.b 14 rfl; have hcd15 : w8.cell? ⟨gd, 15, none⟩ = some (.int .i64 typ) := bC_ D.out.b 15 rfl; have hcd16 : w8.cell? ⟨gd, 16, none⟩ = some (.string host) := bC_ D.out.b 16 rfl; have hcd18 : w8.cell? ⟨gd, 18, none⟩ = some (.bool apt) := bC_ D.out.b 18 rfl; have hfd15 := bF_ D.out.b 15; have hfd16 := bF_ D.out.b 16; have hfd18 := bF_ D.out.b 18)
                  | (go_at_call 55; refine (tell_all w0 gd c rg _ _ l2 ev typ host ((gen + 1) % 4294967296) apt 3 _ D.out HN2.out HEV.out).mono ?_; rintro e w10 ⟨rfl, hd_⟩; obtain ⟨ue2, hd2_⟩ := hd_.out; clear D hd_; clear hcd13 hcd14 hcd15 hcd16 hcd18 hfd15 hfd16 hfd18; have D := aS_ hd2_; clear hd2_; have hcd13 : w10.cell? ⟨gd, 13, none⟩ = some (.int .i64 c.f13) := bC_ D.out.b 13 rfl; have hcd14 : w10.cell? ⟨gd, 14, none⟩ = some (.slice A2 l2.length c2) := bC_ D.out.b 14 rfl; have hcd15 : w10.cell? ⟨gd, 15, none⟩ = some (.int .i64 typ) := bC_ D.out.b 15 rfl; have hcd16 : w10.cell? ⟨gd, 16, none⟩ = some (.string host) := bC_ D.out.b 16 rfl; have hcd18 : w10.cell? ⟨gd, 18, none⟩ = some (.bool apt) := bC_ D.out.b 18 rfl; have hfd15 := bF_ D.out.b 15; have hfd16 := bF_ D.out.b 16; have hfd18 := bF_ D.out.b 18))
                go_ret
                exact ⟨rfl, _, _, by rw [HF.out]; first | exact ((D.out.put 15 _ rfl).put 16 _ rfl).put 18 _ rfl | exact (D.out.put 15 _ rfl).put 16 _ rfl⟩
          · skip
            have HF := aS_ (show freed c typ l2 = told c (fun _ _ => true) 3 l2 l2.length by unfold freed; rw [h3, h4]; rfl)
            rcases F3 with ⟨rfl, a1⟩ | ⟨rfl, a1, a2⟩ | ⟨rfl, a1, a2⟩
            all_goals
              go_wp2_with (first
                | (go_at_call 46; refine (resv_everybody.calls typ true _ HE.out).mono ?_; rintro e w8 ⟨rfl, hd⟩; have hb_ := hd.below; have n1_ := aS_ (D.out.below hb_); clear D hd hb_; clear hcd13 hcd14 hcd15 hcd16 hcd18 hfd15 hfd16 hfd18; have D := n1_; clear n1_; have hcd13 : w8.cell? ⟨gd, 13, none⟩ = some (.int .i64 c.f13) := bC_ D.out.b 13 rfl; have hcd14 : w8.cell? ⟨gd, 14, none⟩ = some (.slice A2 l2.length c2) := bC_ D.out.b 14 rfl; have hcd15 : w8.cell? ⟨gd, 15, none⟩ = some (.int .i64 typ) := bC_ D.out.b 15 rfl; have hcd16 : w8.cell? ⟨gd, 16, none⟩ = some (.string host) := bC_ D.out.b 16 rfl; have hcd18 : w8.cell? ⟨gd, 18, none⟩ = some (.bool apt) := bC_ D.out.b 18 rfl; have hfd15 := bF_ D.out.b 15; have hfd16 := bF_ D.out.b 16; have hfd18 := bF_ D.out.b 18)
                | (go_at_call 55; refine (tell_all w0 gd c rg _ _ l2 ev typ host ((gen + 1) % 4294967296) apt 3 _ D.out HN2.out HEV.out).mono ?_; rintro e w10 ⟨rfl, hd_⟩; obtain ⟨ue2, hd2_⟩ := hd_.out; clear D hd_; clear hcd13 hcd14 hcd15 hcd16 hcd18 hfd15 hfd16 hfd18; have D := aS_ hd2_; clear hd2_; have hcd13 : w10.cell? ⟨gd, 13, none⟩ = some (.int .i64 c.f13) := bC_ D.out.b 13 rfl; have hcd14 : w10.cell? ⟨gd, 14, none⟩ = some (.slice A2 l2.length c2) := bC_ D.out.b 14 rfl; have hcd15 : w10.cell? ⟨gd, 15, none⟩ = some (.int .i64 typ) := bC_ D.out.b 15 rfl; have hcd16 : w10.cell? ⟨gd, 16, none⟩ = some (.string host) := bC_ D.out.b 16 rfl; have hcd18 : w10.cell? ⟨gd, 18, none⟩ = some (.bool apt) := bC_ D.out.b 18 rfl; have hfd15 := bF_ D.out.b 15; have hfd16 := bF_ D.out.b 16; have hfd18 := bF_ D.out.b 18))
              go_ret
              exact ⟨rfl, _, _, by rw [HF.out]; first | exact ((D.out.put 15 _ rfl).put 16 _ rfl).put 18 _ rfl | exact (D.out.put 15 _ rfl).put 16 _ rfl⟩
    · skip
      cases t3
      · cases t4
        · skip
          have HF := aS_ (show freed c typ l2 = [] by unfold freed; rw [h3, h4]; rfl)
          rcases F3 with ⟨rfl, a1⟩ | ⟨rfl, a1, a2⟩ | ⟨rfl, a1, a2⟩
          all_goals
            go_wp2
            go_ret
            exact ⟨rfl, _, _, by rw [HF.out, List.append_nil]; first | exact ((D.out.put 15 _ rfl).put 16 _ rfl).put 18 _ rfl | exact (D.out.put 15 _ rfl).put 16 _ rfl⟩
        · skip
          have HF := aS_ (show freed c typ l2 = told c (fun _ _ => true) 3 l2 l2.length by unfold freed; rw [h3, h4]; rfl)
          rcases F3 with ⟨rfl, a1⟩ | ⟨rfl, a1, a2⟩ | ⟨rfl, a1, a2⟩
          all_goals
            go_wp2_with (first
              | (go_at_call 55; refine (tell_all w0 gd c rg _ _ l2 ev typ host ((gen + 1) % 4294967296) apt 3 _ D.out HN2.out HEV.out).mono ?_; rintro e w10 ⟨rfl, hd_⟩; obtain ⟨ue2, hd2_⟩ := hd_.out; clear D hd_; clear hcd13 hcd14 hcd15 hcd16 hcd18 hfd15 hfd16 hfd18; have D := aS_ hd2_; clear hd2_; have hcd13 : w10.cell? ⟨gd, 13, none⟩ = some (.int .i64 c.f13) := bC_ D.out.b 13 rfl; have hcd14 : w10.cell? ⟨gd, 14, none⟩ = some (.slice A2 l2.length c2) := bC_ D.out.b 14 rfl; have hcd15 : w10.cell? ⟨gd, 15, none⟩ = some (.int .i64 typ) := bC_ D.out.b 15 rfl; have hcd16 : w10.cell? ⟨gd, 16, none⟩ = some (.string host) := bC_ D.out.b 16 rfl; have hcd18 : w10.cell? ⟨gd, 18, none⟩ = some (.bool apt) := bC_ D.out.b 18 rfl; have hfd15 := bF_ D.out.b 15; have hfd16 := bF_ D.out.b 16; have hfd18 := bF_ D.out.b 18))
            go_ret
            exact ⟨rfl, _, _, by rw [HF.out]; first | exact ((D.out.put 15 _ rfl).put 16 _ rfl).put 18 _ rfl | exact (D.out.put 15 _ rfl).put 16 _ rfl⟩
      · skip
        have HF := aS_ (show freed c typ l2 = told c (fun _ _ => true) 3 l2 l2.length by unfold freed; rw [h3, h4]; rfl)
        rcases F3 with ⟨rfl, a1⟩ | ⟨rfl, a1, a2⟩ | ⟨rfl, a1, a2⟩
        all_goals
          go_wp2_with (first
            | (go_at_call 55; refine (tell_all w0 gd c rg _ _ l2 ev typ host ((gen + 1) % 4294967296) apt 3 _ D.out HN2.out HEV.out).mono ?_; rintro e w10 ⟨rfl, hd_⟩; obtain ⟨ue2, hd2_⟩ := hd_.out; clear D hd_; clear hcd13 hcd14 hcd15 hcd16 hcd18 hfd15 hfd16 hfd18; have D := aS_ hd2_; clear hd2_; have hcd13 : w10.cell? ⟨gd, 13, none⟩ = some (.int .i64 c.f13) := bC_ D.out.b 13 rfl; have hcd14 : w10.cell? ⟨gd, 14, none⟩ = some (.slice A2 l2.length c2) := bC_ D.out.b 14 rfl; have hcd15 : w10.cell? ⟨gd, 15, none⟩ = some (.int .i64 typ) := bC_ D.out.b 15 rfl; have hcd16 : w10.cell? ⟨gd, 16, none⟩ = some (.string host) := bC_ D.out.b 16 rfl; have hcd18 : w10.cell? ⟨gd, 18, none⟩ = some (.bool apt) := bC_ D.out.b 18 rfl; have hfd15 := bF_ D.out.b 15; have hfd16 := bF_ D.out.b 16; have hfd18 := bF_ D.out.b 18))
          go_ret
          exact ⟨rfl, _, _, by rw [HF.out]; first | exact ((D.out.put 15 _ rfl).put 16 _ rfl).put 18 _ rfl | exact (D.out.put 15 _ rfl).put 16 _ rfl⟩
end Go.Proofs.YtjogkfcjlljjcaaDoor.P
namespace Go.Proofs.YtjogkfcjlljjcaaDoor.P
open Go.RowKit Go.Proofs.YtjogkfcjlljjcaaDoorW.PrintWords Go.Proofs.YtjogkfcjlljjcaaDoorW.PrintLast Go.Proofs.YtjogkfcjlljjcaaDoorW.PrintMore
attribute [local go_sem] max2_int min2_int max_two min_two max_three min_three max_four min_four   -- for this text's walks alone
set_option linter.unusedVariables false
set_option linter.unusedSimpArgs false
set_option linter.unnecessarySimpa false
def fnR (v : Value) : Option (DataW Nat × List MemPlace) := match v with
  | .func (.func n) first cap => if first = #[] ∧ cap = #[] then some (.lit (.int .i64 (n : Int)), []) else none
  | _ => some (.lit (.int .i64 0), [])
theorem fnR_mk (n : Nat) : fnR (.func (.func n) #[] #[]) = some (.lit (.int .i64 (n : Int)), []) := rfl
theorem fnR_inv {v : Value} {n : Nat} {ps : List MemPlace} (hn : n ≠ 0) (h : fnR v = some (.lit (.int .i64 (n : Int)), ps)) : v = .func (.func n) #[] #[] := by
 unfold fnR at h
 split at h
 ·split at h
  ·rename_i hc
   obtain ⟨rfl, rfl⟩ := hc
   injection h with h
   injection h with h _
   injection h with h
   injection h with _ h
   rw [Int.ofNat_inj.mp h]
  ·cases h
 ·injection h with h
  injection h with h _
  injection h with h
  injection h with _ h
  exact absurd (Int.ofNat_inj.mp h.symm) hn
theorem below_turned {B b : Nat} {w0 w w1 : World} (h : Below B w0 w) (ht : w.mapTurned w1 b) (hb : B ≤ b) : Below B w0 w1 := by
 have hg := ht.grown
 refine ⟨hg.os.trans h.os, hg.tape.trans h.tape, hg.output.trans h.output, Nat.le_trans h.size hg.size, fun k hk => ?_⟩
 by_cases hlt : k < w.heap.size
 ·exact (hg.block k hlt (fun e => by injection e with e; omega)).trans (h.block k hk)
 ·have h1 := h.block k hk
  obtain ⟨es, clock, es', clock', hm, rfl⟩ := ht
  have hs : (ChangeMaps.setBlock w b (.map es' clock')).heap[k]? = w.heap[k]? := by
   simp only [ChangeMaps.setBlock]
   exact Array.getElem?_setIfInBounds_ne (by omega)
  exact hs.trans h1
def doD : DataW Nat := ((((((DataW.map []).put (.int .i64 8) (.lit (.int .i64 (30 : Nat)))).put (.int .i64 9) (.lit (.int .i64 (31 : Nat)))).put (.int .i64 10) (.lit (.int .i64 (32 : Nat)))).put (.int .i64 11) (.lit (.int .i64 (33 : Nat)))).put (.int .i64 12) (.lit (.int .i64 (34 : Nat))))
theorem doD_has (op : Int) : Maps.has doD (.int .i64 op) = decide (8 ≤ op ∧ op ≤ 12) := by
  have e : doD = .map [(.int .i64 8, .lit (.int .i64 (30 : Nat))), (.int .i64 9, .lit (.int .i64 (31 : Nat))), (.int .i64 10, .lit (.int .i64 (32 : Nat))), (.int .i64 11, .lit (.int .i64 (33 : Nat))), (.int .i64 12, .lit (.int .i64 (34 : Nat)))] := by rfl
  rw [e]
  simp only [Maps.has, List.any_cons, List.any_nil, Lit.sameKey, true_and, Bool.or_false]
  rw [Bool.eq_iff_iff]
  simp only [Bool.or_eq_true, decide_eq_true_eq]
  omega
theorem doD_at (op : Int) (n : Nat) (h : op = 8 ∧ n = 30 ∨ op = 9 ∧ n = 31 ∨ op = 10 ∧ n = 32 ∨ op = 11 ∧ n = 33 ∨ op = 12 ∧ n = 34) (z : DataW Nat) : doD.atKey (.int .i64 op) z = .lit (.int .i64 (n : Int)) := by
  rcases h with ⟨rfl, rfl⟩ | ⟨rfl, rfl⟩ | ⟨rfl, rfl⟩ | ⟨rfl, rfl⟩ | ⟨rfl, rfl⟩ <;> rfl
theorem do_map (w : World) (op : Int) (hop : (Lit.int .i64 op).wf = true) :
  ∃ w1 w2 w3 w4 w5 v, (Instr.mapUpdate 64 (.map (some w.heap.size)) (.int .i64 8) (.func (.func 30) #[] #[])).run Tryd.prog (w.alloc (.map #[] 0)) = .ok () w1
   ∧ (Instr.mapUpdate 64 (.map (some w.heap.size)) (.int .i64 9) (.func (.func 31) #[] #[])).run Tryd.prog w1 = .ok () w2
   ∧ (Instr.mapUpdate 64 (.map (some w.heap.size)) (.int .i64 10) (.func (.func 32) #[] #[])).run Tryd.prog w2 = .ok () w3
   ∧ (Instr.mapUpdate 64 (.map (some w.heap.size)) (.int .i64 11) (.func (.func 33) #[] #[])).run Tryd.prog w3 = .ok () w4
   ∧ (Instr.mapUpdate 64 (.map (some w.heap.size)) (.int .i64 12) (.func (.func 34) #[] #[])).run Tryd.prog w4 = .ok () w5
   ∧ (Instr.lookup 64 (.map (some w.heap.size)) (.int .i64 op) true).run Tryd.prog w5 = .ok (.tuple #[v, .bool (decide (8 ≤ op ∧ op ≤ 12))]) w5
   ∧ Below w.heap.size w w5
   ∧ ∀ n : Nat, (op = 8 ∧ n = 30 ∨ op = 9 ∧ n = 31 ∨ op = 10 ∧ n = 32 ∨ op = 11 ∧ n = 33 ∨ op = 12 ∧ n = 34) → v = .func (.func n) #[] #[] := by
 have K : Maps.Keyed Tryd.prog 3 := Maps.int_keyed Tryd.underlying3
 have hk : ∀ i : Int, (Lit.int .i64 i).wf = true → keyOf Tryd.prog 3 (.int .i64 i) = some (.int .i64 i) := fun i h => Maps.keyOf_int_mk Tryd.underlying3 h
 have o0 := World.ownsMap_made w Tryd.prog 3 fnR
 obtain ⟨w1, r1, o1, t1⟩ := o0.store K Tryd.underlying64 (by decide) (hk 8 (by decide)) (fnR_mk 30)
 obtain ⟨w2, r2, o2, t2⟩ := o1.store K Tryd.underlying64 (by decide) (hk 9 (by decide)) (fnR_mk 31)
 obtain ⟨w3, r3, o3, t3⟩ := o2.store K Tryd.underlying64 (by decide) (hk 10 (by decide)) (fnR_mk 32)
 obtain ⟨w4, r4, o4, t4⟩ := o3.store K Tryd.underlying64 (by decide) (hk 11 (by decide)) (fnR_mk 33)
 obtain ⟨w5, r5, o5, t5⟩ := o4.store K Tryd.underlying64 (by decide) (hk 12 (by decide)) (fnR_mk 34)
 have hz : (zeroValue 60).run Tryd.prog w5 = .ok .nilFunc w5 := by kernel_rfl
 obtain ⟨v, ps, hl, hv⟩ := o5.look_ok K Tryd.underlying64 hz rfl (hk op hop)
 refine ⟨w1, w2, w3, w4, w5, v, r1, r2, r3, r4, r5, ?_, ?_, ?_⟩
 ·rw [← doD_has op]
  exact hl
 ·exact below_turned (below_turned (below_turned (below_turned (below_turned (below_alloc (Below.refl _ _) _) t1 (Nat.le_refl _)) t2 (Nat.le_refl _)) t3 (Nat.le_refl _)) t4 (Nat.le_refl _)) t5 (Nat.le_refl _)
 ·intro n h
  have e := doD_at op n h (.lit (.int .i64 0))
  have hn : n ≠ 0 := by omega
  refine fnR_inv hn (ps := ps) ?_
  rw [← e]
  exact hv
theorem results_do {P : Program} {fn : Func} {p t u : Tmp} {ty : TypeId} (h : fn.results = #[.cell p ty, .tmp t, .tmp u]) (tmps : Array Value) (w : World) (g : Nat) (tb : TypeId) (cs : Array Value) (fr : Nat × Nat) (d : TypeDesc)
  (hp : tmps.getD p undef = .pointer (some ⟨g, 0, none⟩)) (hg : w.heap[g]? = some (.cells cs tb fr)) (hu : P.underlying ty = some d) (hd : (match d with | .struct _ | .array _ _ => true | _ => false) = true) (hi : (P.info? ty).map (·.size) = some cs.size) :
  (results fn tmps).run P w = .ok (.tuple #[.agg cs, tmps.getD t undef, tmps.getD u undef]) w := by
 have hp' : tmps[p]?.getD undef = .pointer (some ⟨g, 0, none⟩) := by simpa using hp
 simp [results, h, hp', asAddr, run_loadVar_row w g tb ty cs fr d hg hu hd hi]
theorem R_re {α : Type} {d : Kd α} {e base base' : Nat} {w : World} {ok ok' : Nat → Prop} {v : Value} {xs : List α} (hM : ∀ {b b' : Nat} {o o' : Nat → Prop} {x : α} {cs : List Value}, d.M w b o x cs → d.M w b' o' x cs) (h : d.R e w base ok v xs) (hb : base' ≤ base) (hok : ∀ k, v.ownBlock = some k → base ≤ k → ok' k) : d.R e w base' ok' v xs := by
 have hbase : ∀ k, v.ownBlock = some k → base ≤ k := fun k hk => by
  obtain ⟨_, inner, ⟨_, ho⟩, _⟩ := h
  rcases ho with ⟨rfl, _⟩ | ⟨g, cap, cur, rfl, hg, _⟩
  ·cases hk
  ·injection hk with hk
   rw [← hk]
   exact hg
 obtain ⟨_, inner, ho, hr⟩ := Kd.R_lower h hb
 exact ⟨fun k hk => hok k hk (hbase k hk), inner, ho, hr.1, fun j p hj => hM (hr.2 j p hj)⟩
theorem R_re53 {e base base' : Nat} {w : World} {ok ok' : Nat → Prop} {v : Value} {xs : List S53} (h : Kd.R k53 e w base ok v xs) (hb : base' ≤ base) (hok : ∀ k, v.ownBlock = some k → base ≤ k → ok' k) : Kd.R k53 e w base' ok' v xs :=
  R_re (fun h => by have := k53_openM h; subst this; exact k53_mkM _ _ _ _) h hb hok
theorem R_re46 {e base base' : Nat} {w : World} {ok ok' : Nat → Prop} {v : Value} {xs : List S46} (h : Kd.R k46 e w base ok v xs) (hb : base' ≤ base) (hok : ∀ k, v.ownBlock = some k → base ≤ k → ok' k) : Kd.R k46 e w base' ok' v xs :=
  R_re (fun h => by have := k46_openM h; subst this; exact k46_mkM _ _ _ _) h hb hok
theorem value_event {P : Program} {ops : Array Oper} {rest : List Oper} {o : Oper} {a : Act} {Q : Exit → Act → World → Prop} {w : World} (hgd : o.guard = none) {f : FuncId} {fn : Func} {x : Operand} {xs_ : Array Operand} {ts : Array TypeId} (hf : P.funcs[f]? = some fn) (hname : (fn.name == "runtime.NumGoroutine") = false) (hb : fn.body.isSome = true) (hop : o.op = .call { callee := .value x, args := xs_, argTypes := ts }) (first cap : Array Value) (hv : a.eval x = .func (.func f) first cap) (args : Array Value) (hargs : first ++ xs_.map a.eval ++ cap = args)
  (h : Calls P f args w fun e w' => ∃ v, e = .returned v ∧ wpList P ops Q rest (a.put o.dst v) w') : wpList P ops Q (o :: rest) a w := by
 refine wpList_plain hgd fun K hK => ?_
 have he := enters_ hf hname hb args w
 unfold Oper.wp
 rw [show (execOp a.eval o).run P w = .ok (.enter f args) w from by unfold execOp; simp [hop, resolve, Deferred.ofValue, invoke, hv, hargs, he], Oper.upon_enter]
 exact h.mono fun e w' hh => by
  obtain ⟨v, rfl, hk⟩ := hh
  exact hK _ _ hk
theorem rows_apart {α β : Type} {d : Kd α} {d2 : Kd β} {e e2 base base2 : Nat} {w : World} {ok ok2 : Nat → Prop} {v v2 : Value} {xs : List α} {ys : List β} (h : d.R e w base ok v xs) (h2 : d2.R e2 w base2 ok2 v2 ys) (he : e ≠ e2) (k : Nat) (hk : v.ownBlock = some k) : some k ≠ v2.ownBlock := by
  intro z
  obtain ⟨_, i1, ho1, _⟩ := h
  obtain ⟨_, i2, ho2, _⟩ := h2
  obtain ⟨c1, h1⟩ := own_typed ho1 k hk
  obtain ⟨c2, h2⟩ := own_typed ho2 k z.symm
  rw [h1] at h2
  injection h2 with h2
  injection h2 with _ h2
  exact he h2
theorem row_put5 {α : Type} {d : Kd α} {e base g t : Nat} {w : World} {ok : Nat → Prop} {v : Value} {xs : List α} {cells : Array Value} (h : d.R e w base ok v xs) (hb : w.heap[g]? = some (.cells cells t (0, 0))) (ht : ∀ q, q ∈ e :: d.E → q ≠ t) (a b c f i : Value) :
  d.R e (((((w.setCell ⟨g, 0, none⟩ a).setCell ⟨g, 1, none⟩ b).setCell ⟨g, 2, none⟩ c).setCell ⟨g, 3, none⟩ f).setCell ⟨g, 4, none⟩ i) base ok v xs :=
 Kd.R_set (Kd.R_set (Kd.R_set (Kd.R_set (Kd.R_set h hb ht 0 a) (blk_put hb 0 a rfl) ht 1 b) (blk_put (blk_put hb 0 a rfl) 1 b rfl) ht 2 c) (blk_put (blk_put (blk_put hb 0 a rfl) 1 b rfl) 2 c rfl) ht 3 f) (blk_put (blk_put (blk_put (blk_put hb 0 a rfl) 1 b rfl) 2 c rfl) 3 f rfl) ht 4 i
theorem do_op (k : Nat) (P : Nat → Prop) (A0 : Option Addr) (c0 : Nat) (l : List S53) (typ : Int) (host : ByteArray) (gen : Int) (apt : Bool) (c : S31) (rg : Value) (w : World) (hs : Kd.V k53 53 w w.heap.size (fun k_ => P k_) (.slice A0 l.length c0) l) (hG : Glob w) (hop : (Lit.int .i64 c.f0).wf = true) (hno : decide (8 ≤ c.f0 ∧ c.f0 ≤ 12) = false) :
  Calls Tryd.prog 15 #[.agg #[.slice A0 l.length c0, .int .i64 typ, .string host, .int .u32 gen, .bool apt], .agg #[.int .i64 c.f0, .int .i64 c.f1, .string c.f2, .int .i64 c.f3, .int .i64 c.f4, .string c.f5, .bool c.f6, rg, .int .u64 c.f8, .int .u64 c.f9, .int .u64 c.f10, .int .i64 c.f11, .bool c.f12, .int .i64 c.f13]] w fun e w' => ∃ v0_ v5_ : Value, e = .returned (.tuple #[.agg #[v0_, .int .i64 typ, .string host, .int .u32 gen, .bool apt], v5_, .int .i64 5]) ∧ Kd.V k53 53 w' w.heap.size (fun k_ => (P k_ ∨ w.heap.size ≤ k_) ∧ some k_ ≠ (v5_ : Value).ownBlock) v0_ l ∧ Kd.R k46 46 w' w.heap.size (fun k_ => (w.heap.size ≤ k_)) v5_ [] ∧ Below w.heap.size w w' := by
 have hu27 := Tryd.underlying27
 have hu24 := Tryd.underlying24
 have hu31 := Tryd.underlying31
 have hu66 := Tryd.underlying66
 have hmm := @run_makeMap Tryd.prog
 have HS := aS_ hs
 have HG := aS_ hG
 have HOP := aS_ hop
 have HLE := aS_ (Kd.V_reads' hs).2.1
 have HB := aS_ (Below.refl w.heap.size w)
 clear hs hG hop
 have HIN := aS_ hno
 clear hno
 go_enter Tryd.func15, Tryd.ntmps15
 go_wp2_with (first
  | ((with_reducible refine gate_dst (N := 2) rfl ?_); refine bX_ (N := 2) (cs := #[.slice A0 l.length c0, .int .i64 typ, .string host, .int .u32 gen, .bool apt]) (t := 27) ?hr ?_; (case hr => first | (go_simp; done) | (go_simp; rfl)); intro g2 hg w2 hbox hb; have nb_ := aS_ (below_step HB.out hb); clear HB; have HB := nb_; clear nb_; have BK2 := aS_ hbox; clear hb hbox hg)
  | ((with_reducible refine gate_dst (N := 3) rfl ?_); refine bX_ (N := 3) (cs := #[.int .i64 c.f0, .int .i64 c.f1, .string c.f2, .int .i64 c.f3, .int .i64 c.f4, .string c.f5, .bool c.f6, rg, .int .u64 c.f8, .int .u64 c.f9, .int .u64 c.f10, .int .i64 c.f11, .bool c.f12, .int .i64 c.f13]) (t := 31) ?hr ?_; (case hr => first | (go_simp; done) | (go_simp; rfl)); intro g3 hg w3 hbox hb; have N32 := aS_ (show g2 ≠ g3 by rw [hg]; exact Nat.ne_of_lt (blk_lt BK2.out)); have n2_ := aS_ (blk_below BK2.out hb); have nb_ := aS_ (below_step HB.out hb); clear HB BK2; have BK2 := n2_; clear n2_; have HB := nb_; clear nb_; have BK3 := aS_ hbox; clear hb hbox hg)
  | ((with_reducible refine gate_dst (N := 4) rfl ?_); refine bX_ (N := 4) (cs := #[.slice none 0 0, .int .i64 0, .string (⟨#[]⟩ : ByteArray), .int .u32 0, .bool false]) (t := 27) ?hr ?_; (case hr => first | (go_simp; done) | (go_simp; rfl)); intro g4 hg w4 hbox hb; have N42 := aS_ (show g2 ≠ g4 by rw [hg]; exact Nat.ne_of_lt (blk_lt BK2.out)); have G4 := aS_ (show w.heap.size ≤ g4 by rw [hg]; exact below_size HB.out); have n2_ := aS_ (blk_below BK2.out hb); have n3_ := aS_ (blk_below BK3.out hb); have nb_ := aS_ (below_step HB.out hb); clear HB BK2 BK3; have BK2 := n2_; clear n2_; have BK3 := n3_; clear n3_; have HB := nb_; clear nb_; have BK4 := aS_ hbox; clear hb hbox hg; obtain ⟨m1, m2, m3, m4, m5, fv, r1, r2, r3, r4, r5, rl, hb, hfv⟩ := do_map w4 c.f0 HOP.out; rw [HIN.out] at rl; have n2_ := aS_ (blk_below BK2.out hb); have n3_ := aS_ (blk_below BK3.out hb); have n4_ := aS_ (blk_below BK4.out hb); have nb_ := aS_ (below_step HB.out hb); clear HB BK2 BK3 BK4; have BK2 := n2_; clear n2_; have BK3 := n3_; clear n3_; have BK4 := n4_; clear n4_; have HB := nb_; clear nb_; clear hb hfv; have hct0 : m5.cell? ⟨g2, 0, none⟩ = some (.slice A0 l.length c0) := bC_ BK2.out 0 rfl; have hct1 : m5.cell? ⟨g2, 1, none⟩ = some (.int .i64 typ) := bC_ BK2.out 1 rfl; have hct2 : m5.cell? ⟨g2, 2, none⟩ = some (.string host) := bC_ BK2.out 2 rfl; have hct3 : m5.cell? ⟨g2, 3, none⟩ = some (.int .u32 gen) := bC_ BK2.out 3 rfl; have hct4 : m5.cell? ⟨g2, 4, none⟩ = some (.bool apt) := bC_ BK2.out 4 rfl; have hcc0 : m5.cell? ⟨g3, 0, none⟩ = some (.int .i64 c.f0) := bC_ BK3.out 0 rfl; have hcc2 : m5.cell? ⟨g3, 2, none⟩ = some (.string c.f2) := bC_ BK3.out 2 rfl; have hcr0 : m5.cell? ⟨g4, 0, none⟩ = some (.slice none 0 0) := bC_ BK4.out 0 rfl; have hfr0 := bF_ BK4.out 0; have hcr1 : m5.cell? ⟨g4, 1, none⟩ = some (.int .i64 0) := bC_ BK4.out 1 rfl; have hfr1 := bF_ BK4.out 1; have hcr2 : m5.cell? ⟨g4, 2, none⟩ = some (.string (⟨#[]⟩ : ByteArray)) := bC_ BK4.out 2 rfl; have hfr2 := bF_ BK4.out 2; have hcr3 : m5.cell? ⟨g4, 3, none⟩ = some (.int .u32 0) := bC_ BK4.out 3 rfl; have hfr3 := bF_ BK4.out 3; have hcr4 : m5.cell? ⟨g4, 4, none⟩ = some (.bool false) := bC_ BK4.out 4 rfl; have hfr4 := bF_ BK4.out 4))
 (try simp only [Exit.inBlock, Exit.then])
 refine bodyPost_ret (results_do rfl _ _ g4 27 #[.slice A0 l.length c0, .int .i64 typ, .string host, .int .u32 gen, .bool apt] (0, 0) _ rfl (by refine blk_put (blk_put (blk_put (blk_put (blk_put BK4.out 0 _ rfl) 1 _ rfl) 2 _ rfl) 3 _ rfl) 4 _ rfl) hu27 rfl rfl) rfl ?_
 exact ⟨_, _, rfl, Kd.V_mono (Kd.V_apart_nil (Kd.V_below HS.out ((below_set (below_set (below_set (below_set (below_set HB.out G4.out) G4.out) G4.out) G4.out) G4.out)))) (fun k_ hk_ => ⟨Or.inl hk_.1, hk_.2⟩), Kd.R_nil _ _ _ _ _, (below_set (below_set (below_set (below_set (below_set HB.out G4.out) G4.out) G4.out) G4.out) G4.out)⟩
theorem do_good (k : Nat) (P : Nat → Prop) (A0 : Option Addr) (c0 : Nat) (l : List S53) (typ : Int) (host : ByteArray) (gen : Int) (apt : Bool) (c : S31) (rg : Value) (w : World) (hs : Kd.V k53 53 w w.heap.size (fun k_ => P k_) (.slice A0 l.length c0) l) (hG : Glob w) (hop : (Lit.int .i64 c.f0).wf = true) (n_ : Nat) (hfn : c.f0 = 8 ∧ n_ = 30 ∨ c.f0 = 9 ∧ n_ = 31 ∨ c.f0 = 10 ∧ n_ = 32 ∨ c.f0 = 11 ∧ n_ = 33 ∨ c.f0 = 12 ∧ n_ = 34) (hgd : resv_Good.f l typ host gen apt = some false) :
  Calls Tryd.prog 15 #[.agg #[.slice A0 l.length c0, .int .i64 typ, .string host, .int .u32 gen, .bool apt], .agg #[.int .i64 c.f0, .int .i64 c.f1, .string c.f2, .int .i64 c.f3, .int .i64 c.f4, .string c.f5, .bool c.f6, rg, .int .u64 c.f8, .int .u64 c.f9, .int .u64 c.f10, .int .i64 c.f11, .bool c.f12, .int .i64 c.f13]] w fun e w' => ∃ v0_ v5_ : Value, e = .returned (.tuple #[.agg #[v0_, .int .i64 typ, .string host, .int .u32 gen, .bool apt], v5_, .int .i64 5]) ∧ Kd.V k53 53 w' w.heap.size (fun k_ => (P k_ ∨ w.heap.size ≤ k_) ∧ some k_ ≠ (v5_ : Value).ownBlock) v0_ l ∧ Kd.R k46 46 w' w.heap.size (fun k_ => (w.heap.size ≤ k_)) v5_ [] ∧ Below w.heap.size w w' := by
 have hu27 := Tryd.underlying27
 have hu24 := Tryd.underlying24
 have hu31 := Tryd.underlying31
 have hu66 := Tryd.underlying66
 have hmm := @run_makeMap Tryd.prog
 have HS := aS_ hs
 have HG := aS_ hG
 have HOP := aS_ hop
 have HLE := aS_ (Kd.V_reads' hs).2.1
 have HB := aS_ (Below.refl w.heap.size w)
 clear hs hG hop
 have HFN := aS_ hfn
 have HIN := aS_ (show decide (8 ≤ c.f0 ∧ c.f0 ≤ 12) = true from decide_eq_true (by omega))
 clear hfn
 have HGD := aS_ hgd
 clear hgd
 go_enter Tryd.func15, Tryd.ntmps15
 go_wp2_with (first
  | ((with_reducible refine gate_dst (N := 2) rfl ?_); refine bX_ (N := 2) (cs := #[.slice A0 l.length c0, .int .i64 typ, .string host, .int .u32 gen, .bool apt]) (t := 27) ?hr ?_; (case hr => first | (go_simp; done) | (go_simp; rfl)); intro g2 hg w2 hbox hb; have nb_ := aS_ (below_step HB.out hb); clear HB; have HB := nb_; clear nb_; have BK2 := aS_ hbox; clear hb hbox hg)
  | ((with_reducible refine gate_dst (N := 3) rfl ?_); refine bX_ (N := 3) (cs := #[.int .i64 c.f0, .int .i64 c.f1, .string c.f2, .int .i64 c.f3, .int .i64 c.f4, .string c.f5, .bool c.f6, rg, .int .u64 c.f8, .int .u64 c.f9, .int .u64 c.f10, .int .i64 c.f11, .bool c.f12, .int .i64 c.f13]) (t := 31) ?hr ?_; (case hr => first | (go_simp; done) | (go_simp; rfl)); intro g3 hg w3 hbox hb; have N32 := aS_ (show g2 ≠ g3 by rw [hg]; exact Nat.ne_of_lt (blk_lt BK2.out)); have n2_ := aS_ (blk_below BK2.out hb); have nb_ := aS_ (below_step HB.out hb); clear HB BK2; have BK2 := n2_; clear n2_; have HB := nb_; clear nb_; have BK3 := aS_ hbox; clear hb hbox hg)
  | ((with_reducible refine gate_dst (N := 4) rfl ?_); refine bX_ (N := 4) (cs := #[.slice none 0 0, .int .i64 0, .string (⟨#[]⟩ : ByteArray), .int .u32 0, .bool false]) (t := 27) ?hr ?_; (case hr => first | (go_simp; done) | (go_simp; rfl)); intro g4 hg w4 hbox hb; have N42 := aS_ (show g2 ≠ g4 by rw [hg]; exact Nat.ne_of_lt (blk_lt BK2.out)); have G4 := aS_ (show w.heap.size ≤ g4 by rw [hg]; exact below_size HB.out); have n2_ := aS_ (blk_below BK2.out hb); have n3_ := aS_ (blk_below BK3.out hb); have nb_ := aS_ (below_step HB.out hb); clear HB BK2 BK3; have BK2 := n2_; clear n2_; have BK3 := n3_; clear n3_; have HB := nb_; clear nb_; have BK4 := aS_ hbox; clear hb hbox hg; obtain ⟨m1, m2, m3, m4, m5, fv, r1, r2, r3, r4, r5, rl, hb, hfv⟩ := do_map w4 c.f0 HOP.out; rw [hfv _ HFN.out, HIN.out] at rl; have n2_ := aS_ (blk_below BK2.out hb); have n3_ := aS_ (blk_below BK3.out hb); have n4_ := aS_ (blk_below BK4.out hb); have nb_ := aS_ (below_step HB.out hb); clear HB BK2 BK3 BK4; have BK2 := n2_; clear n2_; have BK3 := n3_; clear n3_; have BK4 := n4_; clear n4_; have HB := nb_; clear nb_; clear hb hfv; have hct0 : m5.cell? ⟨g2, 0, none⟩ = some (.slice A0 l.length c0) := bC_ BK2.out 0 rfl; have hct1 : m5.cell? ⟨g2, 1, none⟩ = some (.int .i64 typ) := bC_ BK2.out 1 rfl; have hct2 : m5.cell? ⟨g2, 2, none⟩ = some (.string host) := bC_ BK2.out 2 rfl; have hct3 : m5.cell? ⟨g2, 3, none⟩ = some (.int .u32 gen) := bC_ BK2.out 3 rfl; have hct4 : m5.cell? ⟨g2, 4, none⟩ = some (.bool apt) := bC_ BK2.out 4 rfl; have hcc0 : m5.cell? ⟨g3, 0, none⟩ = some (.int .i64 c.f0) := bC_ BK3.out 0 rfl; have hcc2 : m5.cell? ⟨g3, 2, none⟩ = some (.string c.f2) := bC_ BK3.out 2 rfl; have hcr0 : m5.cell? ⟨g4, 0, none⟩ = some (.slice none 0 0) := bC_ BK4.out 0 rfl; have hfr0 := bF_ BK4.out 0; have hcr1 : m5.cell? ⟨g4, 1, none⟩ = some (.int .i64 0) := bC_ BK4.out 1 rfl; have hfr1 := bF_ BK4.out 1; have hcr2 : m5.cell? ⟨g4, 2, none⟩ = some (.string (⟨#[]⟩ : ByteArray)) := bC_ BK4.out 2 rfl; have hfr2 := bF_ BK4.out 2; have hcr3 : m5.cell? ⟨g4, 3, none⟩ = some (.int .u32 0) := bC_ BK4.out 3 rfl; have hfr3 := bF_ BK4.out 3; have hcr4 : m5.cell? ⟨g4, 4, none⟩ = some (.bool false) := bC_ BK4.out 4 rfl; have hfr4 := bF_ BK4.out 4)
  | (go_at_call 21; refine (resv_Good.calls A0 c0 l typ host gen apt false _ (Kd.C_below (Kd.V_reads' HS.out).2.2 HB.out) HLE.out HGD.out).mono ?_; rintro e w5 ⟨rfl, hb⟩; have n2_ := aS_ (blk_below BK2.out hb); have n3_ := aS_ (blk_below BK3.out hb); have n4_ := aS_ (blk_below BK4.out hb); have nb_ := aS_ (below_step HB.out hb); clear HB BK2 BK3 BK4; have BK2 := n2_; clear n2_; have BK3 := n3_; clear n3_; have BK4 := n4_; clear n4_; have HB := nb_; clear nb_; clear hb hcc0 hcc2; clear hct0 hct1 hct2 hct3 hct4; clear hcr0 hfr0 hcr1 hfr1 hcr2 hfr2 hcr3 hfr3 hcr4 hfr4; have hct0 : w5.cell? ⟨g2, 0, none⟩ = some (.slice A0 l.length c0) := bC_ BK2.out 0 rfl; have hct1 : w5.cell? ⟨g2, 1, none⟩ = some (.int .i64 typ) := bC_ BK2.out 1 rfl; have hct2 : w5.cell? ⟨g2, 2, none⟩ = some (.string host) := bC_ BK2.out 2 rfl; have hct3 : w5.cell? ⟨g2, 3, none⟩ = some (.int .u32 gen) := bC_ BK2.out 3 rfl; have hct4 : w5.cell? ⟨g2, 4, none⟩ = some (.bool apt) := bC_ BK2.out 4 rfl; have hcc0 : w5.cell? ⟨g3, 0, none⟩ = some (.int .i64 c.f0) := bC_ BK3.out 0 rfl; have hcc1 : w5.cell? ⟨g3, 1, none⟩ = some (.int .i64 c.f1) := bC_ BK3.out 1 rfl; have hcc2 : w5.cell? ⟨g3, 2, none⟩ = some (.string c.f2) := bC_ BK3.out 2 rfl; have hcc3 : w5.cell? ⟨g3, 3, none⟩ = some (.int .i64 c.f3) := bC_ BK3.out 3 rfl; have hcc4 : w5.cell? ⟨g3, 4, none⟩ = some (.int .i64 c.f4) := bC_ BK3.out 4 rfl; have hcc5 : w5.cell? ⟨g3, 5, none⟩ = some (.string c.f5) := bC_ BK3.out 5 rfl; have hcc6 : w5.cell? ⟨g3, 6, none⟩ = some (.bool c.f6) := bC_ BK3.out 6 rfl; have hcc7 : w5.cell? ⟨g3, 7, none⟩ = some (rg) := bC_ BK3.out 7 rfl; have hcc8 : w5.cell? ⟨g3, 8, none⟩ = some (.int .u64 c.f8) := bC_ BK3.out 8 rfl; have hcc9 : w5.cell? ⟨g3, 9, none⟩ = some (.int .u64 c.f9) := bC_ BK3.out 9 rfl; have hcc10 : w5.cell? ⟨g3, 10, none⟩ = some (.int .u64 c.f10) := bC_ BK3.out 10 rfl; have hcc11 : w5.cell? ⟨g3, 11, none⟩ = some (.int .i64 c.f11) := bC_ BK3.out 11 rfl; have hcc12 : w5.cell? ⟨g3, 12, none⟩ = some (.bool c.f12) := bC_ BK3.out 12 rfl; have hcc13 : w5.cell? ⟨g3, 13, none⟩ = some (.int .i64 c.f13) := bC_ BK3.out 13 rfl; have hcr0 : w5.cell? ⟨g4, 0, none⟩ = some (.slice none 0 0) := bC_ BK4.out 0 rfl; have hfr0 := bF_ BK4.out 0; have hcr1 : w5.cell? ⟨g4, 1, none⟩ = some (.int .i64 0) := bC_ BK4.out 1 rfl; have hfr1 := bF_ BK4.out 1; have hcr2 : w5.cell? ⟨g4, 2, none⟩ = some (.string (⟨#[]⟩ : ByteArray)) := bC_ BK4.out 2 rfl; have hfr2 := bF_ BK4.out 2; have hcr3 : w5.cell? ⟨g4, 3, none⟩ = some (.int .u32 0) := bC_ BK4.out 3 rfl; have hfr3 := bF_ BK4.out 3; have hcr4 : w5.cell? ⟨g4, 4, none⟩ = some (.bool false) := bC_ BK4.out 4 rfl; have hfr4 := bF_ BK4.out 4))
 (try simp only [Exit.inBlock, Exit.then])
 refine bodyPost_ret (results_do rfl _ _ g4 27 #[.slice A0 l.length c0, .int .i64 typ, .string host, .int .u32 gen, .bool apt] (0, 0) _ rfl (by refine blk_put (blk_put (blk_put (blk_put (blk_put BK4.out 0 _ rfl) 1 _ rfl) 2 _ rfl) 3 _ rfl) 4 _ rfl) hu27 rfl rfl) rfl ?_
 exact ⟨_, _, rfl, Kd.V_mono (Kd.V_apart_nil (Kd.V_below HS.out ((below_set (below_set (below_set (below_set (below_set HB.out G4.out) G4.out) G4.out) G4.out) G4.out)))) (fun k_ hk_ => ⟨Or.inl hk_.1, hk_.2⟩), Kd.R_nil _ _ _ _ _, (below_set (below_set (below_set (below_set (below_set HB.out G4.out) G4.out) G4.out) G4.out) G4.out)⟩
theorem do_name (k : Nat) (P : Nat → Prop) (A0 : Option Addr) (c0 : Nat) (l : List S53) (typ : Int) (host : ByteArray) (gen : Int) (apt : Bool) (c : S31) (rg : Value) (w : World) (hs : Kd.V k53 53 w w.heap.size (fun k_ => P k_) (.slice A0 l.length c0) l) (hG : Glob w) (hop : (Lit.int .i64 c.f0).wf = true) (n_ : Nat) (hfn : c.f0 = 8 ∧ n_ = 30 ∨ c.f0 = 9 ∧ n_ = 31 ∨ c.f0 = 10 ∧ n_ = 32 ∨ c.f0 = 11 ∧ n_ = 33 ∨ c.f0 = 12 ∧ n_ = 34) (hgd : resv_Good.f l typ host gen apt = some true) (hnm : names_Name.f c.f2 = some false) :
  Calls Tryd.prog 15 #[.agg #[.slice A0 l.length c0, .int .i64 typ, .string host, .int .u32 gen, .bool apt], .agg #[.int .i64 c.f0, .int .i64 c.f1, .string c.f2, .int .i64 c.f3, .int .i64 c.f4, .string c.f5, .bool c.f6, rg, .int .u64 c.f8, .int .u64 c.f9, .int .u64 c.f10, .int .i64 c.f11, .bool c.f12, .int .i64 c.f13]] w fun e w' => ∃ v0_ v5_ : Value, e = .returned (.tuple #[.agg #[v0_, .int .i64 typ, .string host, .int .u32 gen, .bool apt], v5_, .int .i64 5]) ∧ Kd.V k53 53 w' w.heap.size (fun k_ => (P k_ ∨ w.heap.size ≤ k_) ∧ some k_ ≠ (v5_ : Value).ownBlock) v0_ l ∧ Kd.R k46 46 w' w.heap.size (fun k_ => (w.heap.size ≤ k_)) v5_ [] ∧ Below w.heap.size w w' := by
 have hu27 := Tryd.underlying27
 have hu24 := Tryd.underlying24
 have hu31 := Tryd.underlying31
 have hu66 := Tryd.underlying66
 have hmm := @run_makeMap Tryd.prog
 have HS := aS_ hs
 have HG := aS_ hG
 have HOP := aS_ hop
 have HLE := aS_ (Kd.V_reads' hs).2.1
 have HB := aS_ (Below.refl w.heap.size w)
 clear hs hG hop
 have HFN := aS_ hfn
 have HIN := aS_ (show decide (8 ≤ c.f0 ∧ c.f0 ≤ 12) = true from decide_eq_true (by omega))
 clear hfn
 have HGD := aS_ hgd
 have HNM := aS_ hnm
 clear hgd hnm
 go_enter Tryd.func15, Tryd.ntmps15
 go_wp2_with (first
  | ((with_reducible refine gate_dst (N := 2) rfl ?_); refine bX_ (N := 2) (cs := #[.slice A0 l.length c0, .int .i64 typ, .string host, .int .u32 gen, .bool apt]) (t := 27) ?hr ?_; (case hr => first | (go_simp; done) | (go_simp; rfl)); intro g2 hg w2 hbox hb; have nb_ := aS_ (below_step HB.out hb); clear HB; have HB := nb_; clear nb_; have BK2 := aS_ hbox; clear hb hbox hg)
  | ((with_reducible refine gate_dst (N := 3) rfl ?_); refine bX_ (N := 3) (cs := #[.int .i64 c.f0, .int .i64 c.f1, .string c.f2, .int .i64 c.f3, .int .i64 c.f4, .string c.f5, .bool c.f6, rg, .int .u64 c.f8, .int .u64 c.f9, .int .u64 c.f10, .int .i64 c.f11, .bool c.f12, .int .i64 c.f13]) (t := 31) ?hr ?_; (case hr => first | (go_simp; done) | (go_simp; rfl)); intro g3 hg w3 hbox hb; have N32 := aS_ (show g2 ≠ g3 by rw [hg]; exact Nat.ne_of_lt (blk_lt BK2.out)); have n2_ := aS_ (blk_below BK2.out hb); have nb_ := aS_ (below_step HB.out hb); clear HB BK2; have BK2 := n2_; clear n2_; have HB := nb_; clear nb_; have BK3 := aS_ hbox; clear hb hbox hg)
  | ((with_reducible refine gate_dst (N := 4) rfl ?_); refine bX_ (N := 4) (cs := #[.slice none 0 0, .int .i64 0, .string (⟨#[]⟩ : ByteArray), .int .u32 0, .bool false]) (t := 27) ?hr ?_; (case hr => first | (go_simp; done) | (go_simp; rfl)); intro g4 hg w4 hbox hb; have N42 := aS_ (show g2 ≠ g4 by rw [hg]; exact Nat.ne_of_lt (blk_lt BK2.out)); have G4 := aS_ (show w.heap.size ≤ g4 by rw [hg]; exact below_size HB.out); have n2_ := aS_ (blk_below BK2.out hb); have n3_ := aS_ (blk_below BK3.out hb); have nb_ := aS_ (below_step HB.out hb); clear HB BK2 BK3; have BK2 := n2_; clear n2_; have BK3 := n3_; clear n3_; have HB := nb_; clear nb_; have BK4 := aS_ hbox; clear hb hbox hg; obtain ⟨m1, m2, m3, m4, m5, fv, r1, r2, r3, r4, r5, rl, hb, hfv⟩ := do_map w4 c.f0 HOP.out; rw [hfv _ HFN.out, HIN.out] at rl; have n2_ := aS_ (blk_below BK2.out hb); have n3_ := aS_ (blk_below BK3.out hb); have n4_ := aS_ (blk_below BK4.out hb); have nb_ := aS_ (below_step HB.out hb); clear HB BK2 BK3 BK4; have BK2 := n2_; clear n2_; have BK3 := n3_; clear n3_; have BK4 := n4_; clear n4_; have HB := nb_; clear nb_; clear hb hfv; have hct0 : m5.cell? ⟨g2, 0, none⟩ = some (.slice A0 l.length c0) := bC_ BK2.out 0 rfl; have hct1 : m5.cell? ⟨g2, 1, none⟩ = some (.int .i64 typ) := bC_ BK2.out 1 rfl; have hct2 : m5.cell? ⟨g2, 2, none⟩ = some (.string host) := bC_ BK2.out 2 rfl; have hct3 : m5.cell? ⟨g2, 3, none⟩ = some (.int .u32 gen) := bC_ BK2.out 3 rfl; have hct4 : m5.cell? ⟨g2, 4, none⟩ = some (.bool apt) := bC_ BK2.out 4 rfl; have hcc0 : m5.cell? ⟨g3, 0, none⟩ = some (.int .i64 c.f0) := bC_ BK3.out 0 rfl; have hcc2 : m5.cell? ⟨g3, 2, none⟩ = some (.string c.f2) := bC_ BK3.out 2 rfl; have hcr0 : m5.cell? ⟨g4, 0, none⟩ = some (.slice none 0 0) := bC_ BK4.out 0 rfl; have hfr0 := bF_ BK4.out 0; have hcr1 : m5.cell? ⟨g4, 1, none⟩ = some (.int .i64 0) := bC_ BK4.out 1 rfl; have hfr1 := bF_ BK4.out 1; have hcr2 : m5.cell? ⟨g4, 2, none⟩ = some (.string (⟨#[]⟩ : ByteArray)) := bC_ BK4.out 2 rfl; have hfr2 := bF_ BK4.out 2; have hcr3 : m5.cell? ⟨g4, 3, none⟩ = some (.int .u32 0) := bC_ BK4.out 3 rfl; have hfr3 := bF_ BK4.out 3; have hcr4 : m5.cell? ⟨g4, 4, none⟩ = some (.bool false) := bC_ BK4.out 4 rfl; have hfr4 := bF_ BK4.out 4)
  | (go_at_call 21; refine (resv_Good.calls A0 c0 l typ host gen apt true _ (Kd.C_below (Kd.V_reads' HS.out).2.2 HB.out) HLE.out HGD.out).mono ?_; rintro e w5 ⟨rfl, hb⟩; have n2_ := aS_ (blk_below BK2.out hb); have n3_ := aS_ (blk_below BK3.out hb); have n4_ := aS_ (blk_below BK4.out hb); have nb_ := aS_ (below_step HB.out hb); clear HB BK2 BK3 BK4; have BK2 := n2_; clear n2_; have BK3 := n3_; clear n3_; have BK4 := n4_; clear n4_; have HB := nb_; clear nb_; clear hb hcc0 hcc2; clear hct0 hct1 hct2 hct3 hct4; clear hcr0 hfr0 hcr1 hfr1 hcr2 hfr2 hcr3 hfr3 hcr4 hfr4; have hct0 : w5.cell? ⟨g2, 0, none⟩ = some (.slice A0 l.length c0) := bC_ BK2.out 0 rfl; have hct1 : w5.cell? ⟨g2, 1, none⟩ = some (.int .i64 typ) := bC_ BK2.out 1 rfl; have hct2 : w5.cell? ⟨g2, 2, none⟩ = some (.string host) := bC_ BK2.out 2 rfl; have hct3 : w5.cell? ⟨g2, 3, none⟩ = some (.int .u32 gen) := bC_ BK2.out 3 rfl; have hct4 : w5.cell? ⟨g2, 4, none⟩ = some (.bool apt) := bC_ BK2.out 4 rfl; have hcc0 : w5.cell? ⟨g3, 0, none⟩ = some (.int .i64 c.f0) := bC_ BK3.out 0 rfl; have hcc1 : w5.cell? ⟨g3, 1, none⟩ = some (.int .i64 c.f1) := bC_ BK3.out 1 rfl; have hcc2 : w5.cell? ⟨g3, 2, none⟩ = some (.string c.f2) := bC_ BK3.out 2 rfl; have hcc3 : w5.cell? ⟨g3, 3, none⟩ = some (.int .i64 c.f3) := bC_ BK3.out 3 rfl; have hcc4 : w5.cell? ⟨g3, 4, none⟩ = some (.int .i64 c.f4) := bC_ BK3.out 4 rfl; have hcc5 : w5.cell? ⟨g3, 5, none⟩ = some (.string c.f5) := bC_ BK3.out 5 rfl; have hcc6 : w5.cell? ⟨g3, 6, none⟩ = some (.bool c.f6) := bC_ BK3.out 6 rfl; have hcc7 : w5.cell? ⟨g3, 7, none⟩ = some (rg) := bC_ BK3.out 7 rfl; have hcc8 : w5.cell? ⟨g3, 8, none⟩ = some (.int .u64 c.f8) := bC_ BK3.out 8 rfl; have hcc9 : w5.cell? ⟨g3, 9, none⟩ = some (.int .u64 c.f9) := bC_ BK3.out 9 rfl; have hcc10 : w5.cell? ⟨g3, 10, none⟩ = some (.int .u64 c.f10) := bC_ BK3.out 10 rfl; have hcc11 : w5.cell? ⟨g3, 11, none⟩ = some (.int .i64 c.f11) := bC_ BK3.out 11 rfl; have hcc12 : w5.cell? ⟨g3, 12, none⟩ = some (.bool c.f12) := bC_ BK3.out 12 rfl; have hcc13 : w5.cell? ⟨g3, 13, none⟩ = some (.int .i64 c.f13) := bC_ BK3.out 13 rfl; have hcr0 : w5.cell? ⟨g4, 0, none⟩ = some (.slice none 0 0) := bC_ BK4.out 0 rfl; have hfr0 := bF_ BK4.out 0; have hcr1 : w5.cell? ⟨g4, 1, none⟩ = some (.int .i64 0) := bC_ BK4.out 1 rfl; have hfr1 := bF_ BK4.out 1; have hcr2 : w5.cell? ⟨g4, 2, none⟩ = some (.string (⟨#[]⟩ : ByteArray)) := bC_ BK4.out 2 rfl; have hfr2 := bF_ BK4.out 2; have hcr3 : w5.cell? ⟨g4, 3, none⟩ = some (.int .u32 0) := bC_ BK4.out 3 rfl; have hfr3 := bF_ BK4.out 3; have hcr4 : w5.cell? ⟨g4, 4, none⟩ = some (.bool false) := bC_ BK4.out 4 rfl; have hfr4 := bF_ BK4.out 4)
  | (go_at_call 35; refine (names_Name.calls c.f2 false _ HNM.out).mono ?_; rintro e w6 ⟨rfl, hb⟩; have n2_ := aS_ (blk_below BK2.out hb); have n3_ := aS_ (blk_below BK3.out hb); have n4_ := aS_ (blk_below BK4.out hb); have nb_ := aS_ (below_step HB.out hb); clear HB BK2 BK3 BK4; have BK2 := n2_; clear n2_; have BK3 := n3_; clear n3_; have BK4 := n4_; clear n4_; have HB := nb_; clear nb_; clear hb; clear hct0 hct1 hct2 hct3 hct4; clear hcc0 hcc1 hcc2 hcc3 hcc4 hcc5 hcc6 hcc7 hcc8 hcc9 hcc10 hcc11 hcc12 hcc13; clear hcr0 hfr0 hcr1 hfr1 hcr2 hfr2 hcr3 hfr3 hcr4 hfr4; have hct0 : w6.cell? ⟨g2, 0, none⟩ = some (.slice A0 l.length c0) := bC_ BK2.out 0 rfl; have hct1 : w6.cell? ⟨g2, 1, none⟩ = some (.int .i64 typ) := bC_ BK2.out 1 rfl; have hct2 : w6.cell? ⟨g2, 2, none⟩ = some (.string host) := bC_ BK2.out 2 rfl; have hct3 : w6.cell? ⟨g2, 3, none⟩ = some (.int .u32 gen) := bC_ BK2.out 3 rfl; have hct4 : w6.cell? ⟨g2, 4, none⟩ = some (.bool apt) := bC_ BK2.out 4 rfl; have hcc0 : w6.cell? ⟨g3, 0, none⟩ = some (.int .i64 c.f0) := bC_ BK3.out 0 rfl; have hcc1 : w6.cell? ⟨g3, 1, none⟩ = some (.int .i64 c.f1) := bC_ BK3.out 1 rfl; have hcc2 : w6.cell? ⟨g3, 2, none⟩ = some (.string c.f2) := bC_ BK3.out 2 rfl; have hcc3 : w6.cell? ⟨g3, 3, none⟩ = some (.int .i64 c.f3) := bC_ BK3.out 3 rfl; have hcc4 : w6.cell? ⟨g3, 4, none⟩ = some (.int .i64 c.f4) := bC_ BK3.out 4 rfl; have hcc5 : w6.cell? ⟨g3, 5, none⟩ = some (.string c.f5) := bC_ BK3.out 5 rfl; have hcc6 : w6.cell? ⟨g3, 6, none⟩ = some (.bool c.f6) := bC_ BK3.out 6 rfl; have hcc7 : w6.cell? ⟨g3, 7, none⟩ = some (rg) := bC_ BK3.out 7 rfl; have hcc8 : w6.cell? ⟨g3, 8, none⟩ = some (.int .u64 c.f8) := bC_ BK3.out 8 rfl; have hcc9 : w6.cell? ⟨g3, 9, none⟩ = some (.int .u64 c.f9) := bC_ BK3.out 9 rfl; have hcc10 : w6.cell? ⟨g3, 10, none⟩ = some (.int .u64 c.f10) := bC_ BK3.out 10 rfl; have hcc11 : w6.cell? ⟨g3, 11, none⟩ = some (.int .i64 c.f11) := bC_ BK3.out 11 rfl; have hcc12 : w6.cell? ⟨g3, 12, none⟩ = some (.bool c.f12) := bC_ BK3.out 12 rfl; have hcc13 : w6.cell? ⟨g3, 13, none⟩ = some (.int .i64 c.f13) := bC_ BK3.out 13 rfl; have hcr0 : w6.cell? ⟨g4, 0, none⟩ = some (.slice none 0 0) := bC_ BK4.out 0 rfl; have hfr0 := bF_ BK4.out 0; have hcr1 : w6.cell? ⟨g4, 1, none⟩ = some (.int .i64 0) := bC_ BK4.out 1 rfl; have hfr1 := bF_ BK4.out 1; have hcr2 : w6.cell? ⟨g4, 2, none⟩ = some (.string (⟨#[]⟩ : ByteArray)) := bC_ BK4.out 2 rfl; have hfr2 := bF_ BK4.out 2; have hcr3 : w6.cell? ⟨g4, 3, none⟩ = some (.int .u32 0) := bC_ BK4.out 3 rfl; have hfr3 := bF_ BK4.out 3; have hcr4 : w6.cell? ⟨g4, 4, none⟩ = some (.bool false) := bC_ BK4.out 4 rfl; have hfr4 := bF_ BK4.out 4))
 (try simp only [Exit.inBlock, Exit.then])
 refine bodyPost_ret (results_do rfl _ _ g4 27 #[.slice A0 l.length c0, .int .i64 typ, .string host, .int .u32 gen, .bool apt] (0, 0) _ rfl (by refine blk_put (blk_put (blk_put (blk_put (blk_put BK4.out 0 _ rfl) 1 _ rfl) 2 _ rfl) 3 _ rfl) 4 _ rfl) hu27 rfl rfl) rfl ?_
 exact ⟨_, _, rfl, Kd.V_mono (Kd.V_apart_nil (Kd.V_below HS.out ((below_set (below_set (below_set (below_set (below_set HB.out G4.out) G4.out) G4.out) G4.out) G4.out)))) (fun k_ hk_ => ⟨Or.inl hk_.1, hk_.2⟩), Kd.R_nil _ _ _ _ _, (below_set (below_set (below_set (below_set (below_set HB.out G4.out) G4.out) G4.out) G4.out) G4.out)⟩
theorem do_no (k : Nat) (P : Nat → Prop) (A0 : Option Addr) (c0 : Nat) (l : List S53) (typ : Int) (host : ByteArray) (gen : Int) (apt : Bool) (c : S31) (rg : Value) (w : World) (hs : Kd.V k53 53 w w.heap.size (fun k_ => P k_) (.slice A0 l.length c0) l) (hG : Glob w) (hop : (Lit.int .i64 c.f0).wf = true) (n_ : Nat) (hfn : c.f0 = 8 ∧ n_ = 30 ∨ c.f0 = 9 ∧ n_ = 31 ∨ c.f0 = 10 ∧ n_ = 32 ∨ c.f0 = 11 ∧ n_ = 33 ∨ c.f0 = 12 ∧ n_ = 34) (fnF : Func) (hf1 : Tryd.prog.funcs[n_]? = some fnF) (hf2 : (fnF.name == "runtime.NumGoroutine") = false) (hf3 : fnF.body.isSome = true) (hgd : resv_Good.f l typ host gen apt = some true) (hnm : names_Name.f c.f2 = some true) (hn : l.length ≤ 1000) (code : Int) (hc1 : (code != 1) = true) (hcall : ∀ (wB w1 : World) (gd : Nat) (u : Value), Glob wB → Dd wB w1 gd c rg u l typ host gen apt (.slice none 0 0) [] → Calls Tryd.prog n_ #[.pointer (some ⟨gd, 0, none⟩)] w1 fun e w' => e = .returned (.int .i64 code) ∧ Dd wB w' gd c rg u l typ host gen apt (.slice none 0 0) []) :
  Calls Tryd.prog 15 #[.agg #[.slice A0 l.length c0, .int .i64 typ, .string host, .int .u32 gen, .bool apt], .agg #[.int .i64 c.f0, .int .i64 c.f1, .string c.f2, .int .i64 c.f3, .int .i64 c.f4, .string c.f5, .bool c.f6, rg, .int .u64 c.f8, .int .u64 c.f9, .int .u64 c.f10, .int .i64 c.f11, .bool c.f12, .int .i64 c.f13]] w fun e w' => ∃ v0_ v5_ : Value, e = .returned (.tuple #[.agg #[v0_, .int .i64 typ, .string host, .int .u32 gen, .bool apt], v5_, .int .i64 code]) ∧ Kd.V k53 53 w' w.heap.size (fun k_ => (P k_ ∨ w.heap.size ≤ k_) ∧ some k_ ≠ (v5_ : Value).ownBlock) v0_ l ∧ Kd.R k46 46 w' w.heap.size (fun k_ => (w.heap.size ≤ k_)) v5_ [] ∧ Below w.heap.size w w' := by
 have hu27 := Tryd.underlying27
 have hu24 := Tryd.underlying24
 have hu31 := Tryd.underlying31
 have hu66 := Tryd.underlying66
 have hmm := @run_makeMap Tryd.prog
 have HS := aS_ hs
 have HG := aS_ hG
 have HOP := aS_ hop
 have HLE := aS_ (Kd.V_reads' hs).2.1
 have HB := aS_ (Below.refl w.heap.size w)
 clear hs hG hop
 have HFN := aS_ hfn
 have HIN := aS_ (show decide (8 ≤ c.f0 ∧ c.f0 ≤ 12) = true from decide_eq_true (by omega))
 clear hfn
 have HGD := aS_ hgd
 have HNM := aS_ hnm
 have HN := aS_ hn
 have HCALL := aS_ hcall
 have HF1 := aS_ hf1
 have HF2 := aS_ hf2
 have HF3 := aS_ hf3
 clear hgd hnm hn hcall hf1 hf2 hf3
 go_enter Tryd.func15, Tryd.ntmps15
 go_wp2_with (first
  | ((with_reducible refine gate_dst (N := 2) rfl ?_); refine bX_ (N := 2) (cs := #[.slice A0 l.length c0, .int .i64 typ, .string host, .int .u32 gen, .bool apt]) (t := 27) ?hr ?_; (case hr => first | (go_simp; done) | (go_simp; rfl)); intro g2 hg w2 hbox hb; have nb_ := aS_ (below_step HB.out hb); clear HB; have HB := nb_; clear nb_; have BK2 := aS_ hbox; clear hb hbox hg)
  | ((with_reducible refine gate_dst (N := 3) rfl ?_); refine bX_ (N := 3) (cs := #[.int .i64 c.f0, .int .i64 c.f1, .string c.f2, .int .i64 c.f3, .int .i64 c.f4, .string c.f5, .bool c.f6, rg, .int .u64 c.f8, .int .u64 c.f9, .int .u64 c.f10, .int .i64 c.f11, .bool c.f12, .int .i64 c.f13]) (t := 31) ?hr ?_; (case hr => first | (go_simp; done) | (go_simp; rfl)); intro g3 hg w3 hbox hb; have N32 := aS_ (show g2 ≠ g3 by rw [hg]; exact Nat.ne_of_lt (blk_lt BK2.out)); have n2_ := aS_ (blk_below BK2.out hb); have nb_ := aS_ (below_step HB.out hb); clear HB BK2; have BK2 := n2_; clear n2_; have HB := nb_; clear nb_; have BK3 := aS_ hbox; clear hb hbox hg)
  | ((with_reducible refine gate_dst (N := 4) rfl ?_); refine bX_ (N := 4) (cs := #[.slice none 0 0, .int .i64 0, .string (⟨#[]⟩ : ByteArray), .int .u32 0, .bool false]) (t := 27) ?hr ?_; (case hr => first | (go_simp; done) | (go_simp; rfl)); intro g4 hg w4 hbox hb; have N42 := aS_ (show g2 ≠ g4 by rw [hg]; exact Nat.ne_of_lt (blk_lt BK2.out)); have G4 := aS_ (show w.heap.size ≤ g4 by rw [hg]; exact below_size HB.out); have n2_ := aS_ (blk_below BK2.out hb); have n3_ := aS_ (blk_below BK3.out hb); have nb_ := aS_ (below_step HB.out hb); clear HB BK2 BK3; have BK2 := n2_; clear n2_; have BK3 := n3_; clear n3_; have HB := nb_; clear nb_; have BK4 := aS_ hbox; clear hb hbox hg; obtain ⟨m1, m2, m3, m4, m5, fv, r1, r2, r3, r4, r5, rl, hb, hfv⟩ := do_map w4 c.f0 HOP.out; rw [hfv _ HFN.out, HIN.out] at rl; have n2_ := aS_ (blk_below BK2.out hb); have n3_ := aS_ (blk_below BK3.out hb); have n4_ := aS_ (blk_below BK4.out hb); have nb_ := aS_ (below_step HB.out hb); clear HB BK2 BK3 BK4; have BK2 := n2_; clear n2_; have BK3 := n3_; clear n3_; have BK4 := n4_; clear n4_; have HB := nb_; clear nb_; clear hb hfv; have hct0 : m5.cell? ⟨g2, 0, none⟩ = some (.slice A0 l.length c0) := bC_ BK2.out 0 rfl; have hct1 : m5.cell? ⟨g2, 1, none⟩ = some (.int .i64 typ) := bC_ BK2.out 1 rfl; have hct2 : m5.cell? ⟨g2, 2, none⟩ = some (.string host) := bC_ BK2.out 2 rfl; have hct3 : m5.cell? ⟨g2, 3, none⟩ = some (.int .u32 gen) := bC_ BK2.out 3 rfl; have hct4 : m5.cell? ⟨g2, 4, none⟩ = some (.bool apt) := bC_ BK2.out 4 rfl; have hcc0 : m5.cell? ⟨g3, 0, none⟩ = some (.int .i64 c.f0) := bC_ BK3.out 0 rfl; have hcc2 : m5.cell? ⟨g3, 2, none⟩ = some (.string c.f2) := bC_ BK3.out 2 rfl; have hcr0 : m5.cell? ⟨g4, 0, none⟩ = some (.slice none 0 0) := bC_ BK4.out 0 rfl; have hfr0 := bF_ BK4.out 0; have hcr1 : m5.cell? ⟨g4, 1, none⟩ = some (.int .i64 0) := bC_ BK4.out 1 rfl; have hfr1 := bF_ BK4.out 1; have hcr2 : m5.cell? ⟨g4, 2, none⟩ = some (.string (⟨#[]⟩ : ByteArray)) := bC_ BK4.out 2 rfl; have hfr2 := bF_ BK4.out 2; have hcr3 : m5.cell? ⟨g4, 3, none⟩ = some (.int .u32 0) := bC_ BK4.out 3 rfl; have hfr3 := bF_ BK4.out 3; have hcr4 : m5.cell? ⟨g4, 4, none⟩ = some (.bool false) := bC_ BK4.out 4 rfl; have hfr4 := bF_ BK4.out 4)
  | (go_at_call 21; refine (resv_Good.calls A0 c0 l typ host gen apt true _ (Kd.C_below (Kd.V_reads' HS.out).2.2 HB.out) HLE.out HGD.out).mono ?_; rintro e w5 ⟨rfl, hb⟩; have n2_ := aS_ (blk_below BK2.out hb); have n3_ := aS_ (blk_below BK3.out hb); have n4_ := aS_ (blk_below BK4.out hb); have nb_ := aS_ (below_step HB.out hb); clear HB BK2 BK3 BK4; have BK2 := n2_; clear n2_; have BK3 := n3_; clear n3_; have BK4 := n4_; clear n4_; have HB := nb_; clear nb_; clear hb hcc0 hcc2; clear hct0 hct1 hct2 hct3 hct4; clear hcr0 hfr0 hcr1 hfr1 hcr2 hfr2 hcr3 hfr3 hcr4 hfr4; have hct0 : w5.cell? ⟨g2, 0, none⟩ = some (.slice A0 l.length c0) := bC_ BK2.out 0 rfl; have hct1 : w5.cell? ⟨g2, 1, none⟩ = some (.int .i64 typ) := bC_ BK2.out 1 rfl; have hct2 : w5.cell? ⟨g2, 2, none⟩ = some (.string host) := bC_ BK2.out 2 rfl; have hct3 : w5.cell? ⟨g2, 3, none⟩ = some (.int .u32 gen) := bC_ BK2.out 3 rfl; have hct4 : w5.cell? ⟨g2, 4, none⟩ = some (.bool apt) := bC_ BK2.out 4 rfl; have hcc0 : w5.cell? ⟨g3, 0, none⟩ = some (.int .i64 c.f0) := bC_ BK3.out 0 rfl; have hcc1 : w5.cell? ⟨g3, 1, none⟩ = some (.int .i64 c.f1) := bC_ BK3.out 1 rfl; have hcc2 : w5.cell? ⟨g3, 2, none⟩ = some (.string c.f2) := bC_ BK3.out 2 rfl; have hcc3 : w5.cell? ⟨g3, 3, none⟩ = some (.int .i64 c.f3) := bC_ BK3.out 3 rfl; have hcc4 : w5.cell? ⟨g3, 4, none⟩ = some (.int .i64 c.f4) := bC_ BK3.out 4 rfl; have hcc5 : w5.cell? ⟨g3, 5, none⟩ = some (.string c.f5) := bC_ BK3.out 5 rfl; have hcc6 : w5.cell? ⟨g3, 6, none⟩ = some (.bool c.f6) := bC_ BK3.out 6 rfl; have hcc7 : w5.cell? ⟨g3, 7, none⟩ = some (rg) := bC_ BK3.out 7 rfl; have hcc8 : w5.cell? ⟨g3, 8, none⟩ = some (.int .u64 c.f8) := bC_ BK3.out 8 rfl; have hcc9 : w5.cell? ⟨g3, 9, none⟩ = some (.int .u64 c.f9) := bC_ BK3.out 9 rfl; have hcc10 : w5.cell? ⟨g3, 10, none⟩ = some (.int .u64 c.f10) := bC_ BK3.out 10 rfl; have hcc11 : w5.cell? ⟨g3, 11, none⟩ = some (.int .i64 c.f11) := bC_ BK3.out 11 rfl; have hcc12 : w5.cell? ⟨g3, 12, none⟩ = some (.bool c.f12) := bC_ BK3.out 12 rfl; have hcc13 : w5.cell? ⟨g3, 13, none⟩ = some (.int .i64 c.f13) := bC_ BK3.out 13 rfl; have hcr0 : w5.cell? ⟨g4, 0, none⟩ = some (.slice none 0 0) := bC_ BK4.out 0 rfl; have hfr0 := bF_ BK4.out 0; have hcr1 : w5.cell? ⟨g4, 1, none⟩ = some (.int .i64 0) := bC_ BK4.out 1 rfl; have hfr1 := bF_ BK4.out 1; have hcr2 : w5.cell? ⟨g4, 2, none⟩ = some (.string (⟨#[]⟩ : ByteArray)) := bC_ BK4.out 2 rfl; have hfr2 := bF_ BK4.out 2; have hcr3 : w5.cell? ⟨g4, 3, none⟩ = some (.int .u32 0) := bC_ BK4.out 3 rfl; have hfr3 := bF_ BK4.out 3; have hcr4 : w5.cell? ⟨g4, 4, none⟩ = some (.bool false) := bC_ BK4.out 4 rfl; have hfr4 := bF_ BK4.out 4)
  | (go_at_call 35; refine (names_Name.calls c.f2 true _ HNM.out).mono ?_; rintro e w6 ⟨rfl, hb⟩; have n2_ := aS_ (blk_below BK2.out hb); have n3_ := aS_ (blk_below BK3.out hb); have n4_ := aS_ (blk_below BK4.out hb); have nb_ := aS_ (below_step HB.out hb); clear HB BK2 BK3 BK4; have BK2 := n2_; clear n2_; have BK3 := n3_; clear n3_; have BK4 := n4_; clear n4_; have HB := nb_; clear nb_; clear hb; clear hct0 hct1 hct2 hct3 hct4; clear hcc0 hcc1 hcc2 hcc3 hcc4 hcc5 hcc6 hcc7 hcc8 hcc9 hcc10 hcc11 hcc12 hcc13; clear hcr0 hfr0 hcr1 hfr1 hcr2 hfr2 hcr3 hfr3 hcr4 hfr4; have hct0 : w6.cell? ⟨g2, 0, none⟩ = some (.slice A0 l.length c0) := bC_ BK2.out 0 rfl; have hct1 : w6.cell? ⟨g2, 1, none⟩ = some (.int .i64 typ) := bC_ BK2.out 1 rfl; have hct2 : w6.cell? ⟨g2, 2, none⟩ = some (.string host) := bC_ BK2.out 2 rfl; have hct3 : w6.cell? ⟨g2, 3, none⟩ = some (.int .u32 gen) := bC_ BK2.out 3 rfl; have hct4 : w6.cell? ⟨g2, 4, none⟩ = some (.bool apt) := bC_ BK2.out 4 rfl; have hcc0 : w6.cell? ⟨g3, 0, none⟩ = some (.int .i64 c.f0) := bC_ BK3.out 0 rfl; have hcc1 : w6.cell? ⟨g3, 1, none⟩ = some (.int .i64 c.f1) := bC_ BK3.out 1 rfl; have hcc2 : w6.cell? ⟨g3, 2, none⟩ = some (.string c.f2) := bC_ BK3.out 2 rfl; have hcc3 : w6.cell? ⟨g3, 3, none⟩ = some (.int .i64 c.f3) := bC_ BK3.out 3 rfl; have hcc4 : w6.cell? ⟨g3, 4, none⟩ = some (.int .i64 c.f4) := bC_ BK3.out 4 rfl; have hcc5 : w6.cell? ⟨g3, 5, none⟩ = some (.string c.f5) := bC_ BK3.out 5 rfl; have hcc6 : w6.cell? ⟨g3, 6, none⟩ = some (.bool c.f6) := bC_ BK3.out 6 rfl; have hcc7 : w6.cell? ⟨g3, 7, none⟩ = some (rg) := bC_ BK3.out 7 rfl; have hcc8 : w6.cell? ⟨g3, 8, none⟩ = some (.int .u64 c.f8) := bC_ BK3.out 8 rfl; have hcc9 : w6.cell? ⟨g3, 9, none⟩ = some (.int .u64 c.f9) := bC_ BK3.out 9 rfl; have hcc10 : w6.cell? ⟨g3, 10, none⟩ = some (.int .u64 c.f10) := bC_ BK3.out 10 rfl; have hcc11 : w6.cell? ⟨g3, 11, none⟩ = some (.int .i64 c.f11) := bC_ BK3.out 11 rfl; have hcc12 : w6.cell? ⟨g3, 12, none⟩ = some (.bool c.f12) := bC_ BK3.out 12 rfl; have hcc13 : w6.cell? ⟨g3, 13, none⟩ = some (.int .i64 c.f13) := bC_ BK3.out 13 rfl; have hcr0 : w6.cell? ⟨g4, 0, none⟩ = some (.slice none 0 0) := bC_ BK4.out 0 rfl; have hfr0 := bF_ BK4.out 0; have hcr1 : w6.cell? ⟨g4, 1, none⟩ = some (.int .i64 0) := bC_ BK4.out 1 rfl; have hfr1 := bF_ BK4.out 1; have hcr2 : w6.cell? ⟨g4, 2, none⟩ = some (.string (⟨#[]⟩ : ByteArray)) := bC_ BK4.out 2 rfl; have hfr2 := bF_ BK4.out 2; have hcr3 : w6.cell? ⟨g4, 3, none⟩ = some (.int .u32 0) := bC_ BK4.out 3 rfl; have hfr3 := bF_ BK4.out 3; have hcr4 : w6.cell? ⟨g4, 4, none⟩ = some (.bool false) := bC_ BK4.out 4 rfl; have hfr4 := bF_ BK4.out 4)
  | ((with_reducible refine gate_dst (N := 36) rfl ?_); refine bX_ (N := 36) (cs := #[.int .i64 c.f0, .int .i64 c.f1, .string c.f2, .int .i64 c.f3, .int .i64 c.f4, .string c.f5, .bool c.f6, rg, .int .u64 c.f8, .int .u64 c.f9, .int .u64 c.f10, .int .i64 c.f11, .bool c.f12, .int .i64 c.f13, .slice A0 l.length c0, .int .i64 typ, .string host, .int .u32 gen, .bool apt, .slice none 0 0]) (t := 66) ?hr ?_; (case hr => first | (go_simp; done) | (go_simp; rfl)); intro gd hg w7 hbox hb; have OB := aS_ (show w6.heap.size ≤ gd by rw [hg]; exact Nat.le_refl _); have ND4 := aS_ (show gd ≠ g4 by rw [hg]; exact Nat.ne_of_gt (blk_lt BK4.out)); have HBB := aS_ hb; have HB7 := aS_ (below_step HB.out hb); have BKD := aS_ hbox; clear hct0 hct1 hct2 hct3 hct4; clear hcc0 hcc1 hcc2 hcc3 hcc4 hcc5 hcc6 hcc7 hcc8 hcc9 hcc10 hcc11 hcc12 hcc13; clear hcr0 hfr0 hcr1 hfr1 hcr2 hfr2 hcr3 hfr3 hcr4 hfr4; have hct0 : w7.cell? ⟨g2, 0, none⟩ = some (.slice A0 l.length c0) := (blk_cell (blk_below BK2.out hb) 0).trans rfl; clear hb hbox hg)
  | (go_at_call 36; refine (clone_calls A0 c0 l _ (Kd.C_below (Kd.V_reads' HS.out).2.2 HB7.out) HN.out).mono ?_; rintro e w8 ⟨u, rfl, hr, hb⟩; have n1_ := aS_ (blk_below BKD.out hb); have n2_ := aS_ (below_step HBB.out hb); have RR := aS_ (Kd.R_lower hr (below_size HBB.out)); obtain ⟨Au, cu, eu⟩ := Kd.R_slice hr; subst eu; clear BKD HBB HB7 hb hr hct0; have BKD := n1_; have HBB := n2_; clear n1_ n2_; have hcd14 : w8.cell? ⟨gd, 14, none⟩ = some (.slice A0 l.length c0) := bC_ BKD.out 14 rfl; have hfd14 := bF_ BKD.out 14)
  | ((with_reducible refine gate_dst (N := 46) rfl ?_); refine value_event rfl HF1.out HF2.out HF3.out rfl #[] #[] rfl #[.pointer (some ⟨gd, 0, none⟩)] (by simp only [List.map_toArray, List.map_cons, List.map_nil]; rfl) ?_; refine deed_call (fun w' => Aside0 (Dd w6 w' gd c rg (.slice Au l.length cu) l typ host gen apt (.slice none 0 0) [])) ⟨⟨OB.out, blk_put BKD.out 14 _ rfl, Kd.R_mono (Kd.R_far (p := ⟨gd, 14, none⟩) (Kd.R_types RR.out BKD.out (by decide)) (fun _ hk => hk.2) _) (fun _ hk => hk.1), Kd.R_nil _ _ _ _ _, below_set HBB.out OB.out⟩⟩ ?_; intro w9 D9; clear RR BKD HBB hcd14 hfd14; refine (HCALL.out w6 w9 gd _ (Glob.keep HG.out HB.out) D9.out).mono ?_; clear D9; rintro e w10 ⟨rfl, hd_⟩; have n1_ := aS_ (blk_below BK2.out hd_.hb); have n2_ := aS_ (blk_below BK4.out hd_.hb); have n3_ := aS_ (below_step HB.out hd_.hb); clear BK2 BK4 HB hd_; have BK2 := n1_; have BK4 := n2_; have HB := n3_; clear n1_ n2_ n3_; have hct0 : w10.cell? ⟨g2, 0, none⟩ = some (.slice A0 l.length c0) := bC_ BK2.out 0 rfl; have hct1 : w10.cell? ⟨g2, 1, none⟩ = some (.int .i64 typ) := bC_ BK2.out 1 rfl; have hct2 : w10.cell? ⟨g2, 2, none⟩ = some (.string host) := bC_ BK2.out 2 rfl; have hct3 : w10.cell? ⟨g2, 3, none⟩ = some (.int .u32 gen) := bC_ BK2.out 3 rfl; have hct4 : w10.cell? ⟨g2, 4, none⟩ = some (.bool apt) := bC_ BK2.out 4 rfl; have hcr0 : w10.cell? ⟨g4, 0, none⟩ = some (.slice none 0 0) := bC_ BK4.out 0 rfl; have hfr0 := bF_ BK4.out 0; have hcr1 : w10.cell? ⟨g4, 1, none⟩ = some (.int .i64 0) := bC_ BK4.out 1 rfl; have hfr1 := bF_ BK4.out 1; have hcr2 : w10.cell? ⟨g4, 2, none⟩ = some (.string (⟨#[]⟩ : ByteArray)) := bC_ BK4.out 2 rfl; have hfr2 := bF_ BK4.out 2; have hcr3 : w10.cell? ⟨g4, 3, none⟩ = some (.int .u32 0) := bC_ BK4.out 3 rfl; have hfr3 := bF_ BK4.out 3; have hcr4 : w10.cell? ⟨g4, 4, none⟩ = some (.bool false) := bC_ BK4.out 4 rfl; have hfr4 := bF_ BK4.out 4; refine ⟨_, rfl, ?_⟩))
 (try simp only [Exit.inBlock, Exit.then])
 refine bodyPost_ret (results_do rfl _ _ g4 27 #[.slice A0 l.length c0, .int .i64 typ, .string host, .int .u32 gen, .bool apt] (0, 0) _ rfl (by refine blk_put (blk_put (blk_put (blk_put (blk_put BK4.out 0 _ rfl) 1 _ rfl) 2 _ rfl) 3 _ rfl) 4 _ rfl) hu27 rfl rfl) rfl ?_
 exact ⟨_, _, rfl, Kd.V_mono (Kd.V_apart_nil (Kd.V_below HS.out ((below_set (below_set (below_set (below_set (below_set HB.out G4.out) G4.out) G4.out) G4.out) G4.out)))) (fun k_ hk_ => ⟨Or.inl hk_.1, hk_.2⟩), Kd.R_nil _ _ _ _ _, (below_set (below_set (below_set (below_set (below_set HB.out G4.out) G4.out) G4.out) G4.out) G4.out)⟩
theorem do_yes (k : Nat) (P : Nat → Prop) (A0 : Option Addr) (c0 : Nat) (l : List S53) (typ : Int) (host : ByteArray) (gen : Int) (apt : Bool) (c : S31) (rg : Value) (w : World) (hs : Kd.V k53 53 w w.heap.size (fun k_ => P k_) (.slice A0 l.length c0) l) (hG : Glob w) (hop : (Lit.int .i64 c.f0).wf = true) (n_ : Nat) (hfn : c.f0 = 8 ∧ n_ = 30 ∨ c.f0 = 9 ∧ n_ = 31 ∨ c.f0 = 10 ∧ n_ = 32 ∨ c.f0 = 11 ∧ n_ = 33 ∨ c.f0 = 12 ∧ n_ = 34) (fnF : Func) (hf1 : Tryd.prog.funcs[n_]? = some fnF) (hf2 : (fnF.name == "runtime.NumGoroutine") = false) (hf3 : fnF.body.isSome = true) (hgd : resv_Good.f l typ host gen apt = some true) (hnm : names_Name.f c.f2 = some true) (hn : l.length ≤ 1000) (l2 : List S53) (typ2 : Int) (host2 : ByteArray) (gen2 : Int) (apt2 : Bool) (ev2 : List S46) (hcall : ∀ (wB w1 : World) (gd : Nat) (u : Value), Glob wB → Dd wB w1 gd c rg u l typ host gen apt (.slice none 0 0) [] → Calls Tryd.prog n_ #[.pointer (some ⟨gd, 0, none⟩)] w1 fun e w' => e = .returned (.int .i64 1) ∧ ∃ u2 ue2, Dd wB w' gd c rg u2 l2 typ2 host2 gen2 apt2 ue2 ev2) :
    Calls Tryd.prog 15 #[.agg #[.slice A0 l.length c0, .int .i64 typ, .string host, .int .u32 gen, .bool apt], .agg #[.int .i64 c.f0, .int .i64 c.f1, .string c.f2, .int .i64 c.f3, .int .i64 c.f4, .string c.f5, .bool c.f6, rg, .int .u64 c.f8, .int .u64 c.f9, .int .u64 c.f10, .int .i64 c.f11, .bool c.f12, .int .i64 c.f13]] w fun e w' => ∃ v0_ v5_ : Value, e = .returned (.tuple #[.agg #[v0_, .int .i64 typ2, .string host2, .int .u32 gen2, .bool apt2], v5_, .int .i64 1]) ∧ Kd.V k53 53 w' w.heap.size (fun k_ => (P k_ ∨ w.heap.size ≤ k_) ∧ some k_ ≠ (v5_ : Value).ownBlock) v0_ l2 ∧ Kd.R k46 46 w' w.heap.size (fun k_ => (w.heap.size ≤ k_)) v5_ ev2 ∧ Below w.heap.size w w' := by
  have hu27 := Tryd.underlying27
  have hu24 := Tryd.underlying24
  have hu31 := Tryd.underlying31
  have hu66 := Tryd.underlying66
  have hmm := @run_makeMap Tryd.prog
  have HS := aS_ hs
  have HG := aS_ hG
  have HOP := aS_ hop
  have HLE := aS_ (Kd.V_reads' hs).2.1
  have HB := aS_ (Below.refl w.heap.size w)
  clear hs hG hop
  have HFN := aS_ hfn
  have HIN := aS_ (show decide (8 ≤ c.f0 ∧ c.f0 ≤ 12) = true from decide_eq_true (by omega))
  clear hfn
  have HGD := aS_ hgd
  have HNM := aS_ hnm
  have HN := aS_ hn
  have HCALL := aS_ hcall
  have HF1 := aS_ hf1
  have HF2 := aS_ hf2
  have HF3 := aS_ hf3
  clear hgd hnm hn hcall hf1 hf2 hf3
  go_enter Tryd.func15, Tryd.ntmps15
  go_wp2_with (first
    | ((with_reducible refine gate_dst (N := 2) rfl ?_); refine bX_ (N := 2) (cs := #[.slice A0 l.length c0, .int .i64 typ, .string host, .int .u32 gen, .bool apt]) (t := 27) ?hr ?_; (case hr => first | (go_simp; done) | (go_simp; rfl)); intro g2 hg w2 hbox hb; have nb_ := aS_ (below_step HB.out hb); clear HB; have HB := nb_; clear nb_; have BK2 := aS_ hbox; clear hb hbox hg)
    | ((with_reducible refine gate_dst (N := 3) rfl ?_); refine bX_ (N := 3) (cs := #[.int .i64 c.f0, .int .i64 c.f1, .string c.f2, .int .i64 c.f3, .int .i64 c.f4, .string c.f5, .bool c.f6, rg, .int .u64 c.f8, .int .u64 c.f9, .int .u64 c.f10, .int .i64 c.f11, .bool c.f12, .int .i64 c.f13]) (t := 31) ?hr ?_; (case hr => first | (go_simp; done) | (go_simp; rfl)); intro g3 hg w3 hbox hb; have N32 := aS_ (show g2 ≠ g3 by rw [hg]; exact Nat.ne_of_lt (blk_lt BK2.out)); have n2_ := aS_ (blk_below BK2.out hb); have nb_ := aS_ (below_step HB.out hb); clear HB BK2; have BK2 := n2_; clear n2_; have HB := nb_; clear nb_; have BK3 := aS_ hbox; clear hb hbox hg)
    | ((with_reducible refine gate_dst (N := 4) rfl ?_); refine bX_ (N := 4) (cs := #[.slice none 0 0, .int .i64 0, .string (⟨#[]⟩ : ByteArray), .int .u32 0, .bool false]) (t := 27) ?hr ?_; (case hr => first | (go_simp; done) | (go_simp; rfl)); intro g4 hg w4 hbox hb; have N42 := aS_ (show g2 ≠ g4 by rw [hg]; exact Nat.ne_of_lt (blk_lt BK2.out)); have G4 := aS_ (show w.heap.size ≤ g4 by rw [hg]; exact below_size HB.out); have n2_ := aS_ (blk_below BK2.out hb); have n3_ := aS_ (blk_below BK3.out hb); have nb_ := aS_ (below_step HB.out hb); clear HB BK2 BK3; have BK2 := n2_; clear n2_; have BK3 := n3_; clear n3_; have HB := nb_; clear nb_; have BK4 := aS_ hbox; clear hb hbox hg; obtain ⟨m1, m2, m3, m4, m5, fv, r1, r2, r3, r4, r5, rl, hb, hfv⟩ := do_map w4 c.f0 HOP.out; rw [hfv _ HFN.out, HIN.out] at rl; have n2_ := aS_ (blk_below BK2.out hb); have n3_ := aS_ (blk_below BK3.out hb); have n4_ := aS_ (blk_below BK4.out hb); have nb_ := aS_ (below_step HB.out hb); clear HB BK2 BK3 BK4; have BK2 := n2_; clear n2_; have BK3 := n3_; clear n3_; have BK4 := n4_; clear n4_; have HB := nb_; clear nb_; clear hb hfv; have hct0 : m5.cell? ⟨g2, 0, none⟩ = some (.slice A0 l.length c0) := bC_ BK2.out 0 rfl; have hct1 : m5.cell? ⟨g2, 1, none⟩ = some (.int .i64 typ) := bC_ BK2.out 1 rfl; have hct2 : m5.cell? ⟨g2, 2, none⟩ = some (.string host) := bC_ BK2.out 2 rfl; have hct3 : m5.cell? ⟨g2, 3, none⟩ = some (.int .u32 gen) := bC_ BK2.out 3 rfl; have hct4 : m5.cell? ⟨g2, 4, none⟩ = some (.bool apt) := bC_ BK2.out 4 rfl; have hcc0 : m5.cell? ⟨g3, 0, none⟩ = some (.int .i64 c.f0) := bC_ BK3.out 0 rfl; have hcc2 : m5.cell? ⟨g3, 2, none⟩ = some (.string c.f2) := bC_ BK3.out 2 rfl; have hcr0 : m5.cell? ⟨g4, 0, none⟩ = some (.slice none 0 0) := bC_ BK4.out 0 rfl; have hfr0 := bF_ BK4.out 0; have hcr1 : m5.cell? ⟨g4, 1, none⟩ = some (.int .i64 0) := bC_ BK4.out 1 rfl; have hfr1 := bF_ BK4.out 1; have hcr2 : m5.cell? ⟨g4, 2, none⟩ = some (.string (⟨#[]⟩ : ByteArray)) := bC_ BK4.out 2 rfl; have hfr2 := bF_ BK4.out 2; have hcr3 : m5.cell? ⟨g4, 3, none⟩ = some (.int .u32 0) := bC_ BK4.out 3 rfl; have hfr3 := bF_ BK4.out 3; have hcr4 : m5.cell? ⟨g4, 4, none⟩ = some (.bool false) := bC_ BK4.out 4 rfl; have hfr4 := bF_ BK4.out 4)
    | (go_at_call 21; refine (resv_Good.calls A0 c0 l typ host gen apt true _ (Kd.C_below (Kd.V_reads' HS.out).2.2 HB.out) HLE.out HGD.out).mono ?_; rintro e w5 ⟨rfl, hb⟩; have n2_ := aS_ (blk_below BK2.out hb); have n3_ := aS_ (blk_below BK3.out hb); have n4_ := aS_ (blk_below BK4.out hb); have nb_ := aS_ (below_step HB.out hb); clear HB BK2 BK3 BK4; have BK2 := n2_; clear n2_; have BK3 := n3_; clear n3_; have BK4 := n4_; clear n4_; have HB := nb_; clear nb_; clear hb hcc0 hcc2; clear hct0 hct1 hct2 hct3 hct4; clear hcr0 hfr0 hcr1 hfr1 hcr2 hfr2 hcr3 hfr3 hcr4 hfr4; have hct0 : w5.cell? ⟨g2, 0, none⟩ = some (.slice A0 l.length c0) := bC_ BK2.out 0 rfl; have hct1 : w5.cell? ⟨g2, 1, none⟩ = some (.int .i64 typ) := bC_ BK2.out 1 rfl; have hct2 : w5.cell? ⟨g2, 2, none⟩ = some (.string host) := bC_ BK2.out 2 rfl; have hct3 : w5.cell? ⟨g2, 3, none⟩ = some (.int .u32 gen) := bC_ BK2.out 3 rfl; have hct4 : w5.cell? ⟨g2, 4, none⟩ = some (.bool apt) := bC_ BK2.out 4 rfl; have hcc0 : w5.cell? ⟨g3, 0, none⟩ = some (.int .i64 c.f0) := bC_ BK3.out 0 rfl; have hcc1 : w5.cell? ⟨g3, 1, none⟩ = some (.int .i64 c.f1) := bC_ BK3.out 1 rfl; have hcc2 : w5.cell? ⟨g3, 2, none⟩ = some (.string c.f2) := bC_ BK3.out 2 rfl; have hcc3 : w5.cell? ⟨g3, 3, none⟩ = some (.int .i64 c.f3) := bC_ BK3.out 3 rfl; have hcc4 : w5.cell? ⟨g3, 4, none⟩ = some (.int .i64 c.f4) := bC_ BK3.out 4 rfl; have hcc5 : w5.cell? ⟨g3, 5, none⟩ = some (.string c.f5) := bC_ BK3.out 5 rfl; have hcc6 : w5.cell? ⟨g3, 6, none⟩ = some (.bool c.f6) := bC_ BK3.out 6 rfl; have hcc7 : w5.cell? ⟨g3, 7, none⟩ = some (rg) := bC_ BK3.out 7 rfl; have hcc8 : w5.cell? ⟨g3, 8, none⟩ = some (.int .u64 c.f8) := bC_ BK3.out 8 rfl; have hcc9 : w5.cell? ⟨g3, 9, none⟩ = some (.int .u64 c.f9) := bC_ BK3.out 9 rfl; have hcc10 : w5.cell? ⟨g3, 10, none⟩ = some (.int .u64 c.f10) := bC_ BK3.out 10 rfl; have hcc11 : w5.cell? ⟨g3, 11, none⟩ = some (.int .i64 c.f11) := bC_ BK3.out 11 rfl; have hcc12 : w5.cell? ⟨g3, 12, none⟩ = some (.bool c.f12) := bC_ BK3.out 12 rfl; have hcc13 : w5.cell? ⟨g3, 13, none⟩ = some (.int .i64 c.f13) := bC_ BK3.out 13 rfl; have hcr0 : w5.cell? ⟨g4, 0, none⟩ = some (.slice none 0 0) := bC_ BK4.out 0 rfl; have hfr0 := bF_ BK4.out 0; have hcr1 : w5.cell? ⟨g4, 1, none⟩ = some (.int .i64 0) := bC_ BK4.out 1 rfl; have hfr1 := bF_ BK4.out 1; have hcr2 : w5.cell? ⟨g4, 2, none⟩ = some (.string (⟨#[]⟩ : ByteArray)) := bC_ BK4.out 2 rfl; have hfr2 := bF_ BK4.out 2; have hcr3 : w5.cell? ⟨g4, 3, none⟩ = some (.int .u32 0) := bC_ BK4.out 3 rfl; have hfr3 := bF_ BK4.out 3; have hcr4 : w5.cell? ⟨g4, 4, none⟩ = some (.bool false) := bC_ BK4.out 4 rfl; have hfr4 := bF_ BK4.out 4)
    | (go_at_call 35; refine (names_Name.calls c.f2 true _ HNM.out).mono ?_; rintro e w6 ⟨rfl, hb⟩; have n2_ := aS_ (blk_below BK2.out hb); have n3_ := aS_ (blk_below BK3.out hb); have n4_ := aS_ (blk_below BK4.out hb); have nb_ := aS_ (below_step HB.out hb); clear HB BK2 BK3 BK4; have BK2 := n2_; clear n2_; have BK3 := n3_; clear n3_; have BK4 := n4_; clear n4_; have HB := nb_; clear nb_; clear hb; clear hct0 hct1 hct2 hct3 hct4; clear hcc0 hcc1 hcc2 hcc3 hcc4 hcc5 hcc6 hcc7 hcc8 hcc9 hcc10 hcc11 hcc12 hcc13; clear hcr0 hfr0 hcr1 hfr1 hcr2 hfr2 hcr3 hfr3 hcr4 hfr4; have hct0 : w6.cell? ⟨g2, 0, none⟩ = some (.slice A0 l.length c0) := bC_ BK2.out 0 rfl; have hct1 : w6.cell? ⟨g2, 1, none⟩ = some (.int .i64 typ) := bC_ BK2.out 1 rfl; have hct2 : w6.cell? ⟨g2, 2, none⟩ = some (.string host) := bC_ BK2.out 2 rfl; have hct3 : w6.cell? ⟨g2, 3, none⟩ = some (.int .u32 gen) := bC_ BK2.out 3 rfl; have hct4 : w6.cell? ⟨g2, 4, none⟩ = some (.bool apt) := bC_ BK2.out 4 rfl; have hcc0 : w6.cell? ⟨g3, 0, none⟩ = some (.int .i64 c.f0) := bC_ BK3.out 0 rfl; have hcc1 : w6.cell? ⟨g3, 1, none⟩ = some (.int .i64 c.f1) := bC_ BK3.out 1 rfl; have hcc2 : w6.cell? ⟨g3, 2, none⟩ = some (.string c.f2) := bC_ BK3.out 2 rfl; have hcc3 : w6.cell? ⟨g3, 3, none⟩ = some (.int .i64 c.f3) := bC_ BK3.out 3 rfl; have hcc4 : w6.cell? ⟨g3, 4, none⟩ = some (.int .i64 c.f4) := bC_ BK3.out 4 rfl; have hcc5 : w6.cell? ⟨g3, 5, none⟩ = some (.string c.f5) := bC_ BK3.out 5 rfl; have hcc6 : w6.cell? ⟨g3, 6, none⟩ = some (.bool c.f6) := bC_ BK3.out 6 rfl; have hcc7 : w6.cell? ⟨g3, 7, none⟩ = some (rg) := bC_ BK3.out 7 rfl; have hcc8 : w6.cell? ⟨g3, 8, none⟩ = some (.int .u64 c.f8) := bC_ BK3.out 8 rfl; have hcc9 : w6.cell? ⟨g3, 9, none⟩ = some (.int .u64 c.f9) := bC_ BK3.out 9 rfl; have hcc10 : w6.cell? ⟨g3, 10, none⟩ = some (.int .u64 c.f10) := bC_ BK3.out 10 rfl; have hcc11 : w6.cell? ⟨g3, 11, none⟩ = some (.int .i64 c.f11) := bC_ BK3.out 11 rfl; have hcc12 : w6.cell? ⟨g3, 12, none⟩ = some (.bool c.f12) := bC_ BK3.out 12 rfl; have hcc13 : w6.cell? ⟨g3, 13, none⟩ = some (.int .i64 c.f13) := bC_ BK3.out 13 rfl; have hcr0 : w6.cell? ⟨g4, 0, none⟩ = some (.slice none 0 0) := bC_ BK4.out 0 rfl; have hfr0 := bF_ BK4.out 0; have hcr1 : w6.cell? ⟨g4, 1, none⟩ = some (.int .i64 0) := bC_ BK4.out 1 rfl; have hfr1 := bF_ BK4.out 1; have hcr2 : w6.cell? ⟨g4, 2, none⟩ = some (.string (⟨#[]⟩ : ByteArray)) := bC_ BK4.out 2 rfl; have hfr2 := bF_ BK4.out 2; have hcr3 : w6.cell? ⟨g4, 3, none⟩ = some (.int .u32 0) := bC_ BK4.out 3 rfl; have hfr3 := bF_ BK4.out 3; have hcr4 : w6.cell? ⟨g4, 4, none⟩ = some (.bool false) := bC_ BK4.out 4 rfl; have hfr4 := bF_ BK4.out 4)
    | ((with_reducible refine gate_dst (N := 36) rfl ?_); refine bX_ (N := 36) (cs := #[.int .i64 c.f0, .int .i64 c.f1, .string c.f2, .int .i64 c.f3, .int .i64 c.f4, .string c.f5, .bool c.f6, rg, .int .u64 c.f8, .int .u64 c.f9, .int .u64 c.f10, .int .i64 c.f11, .bool c.f12, .int .i64 c.f13, .slice A0 l.length c0, .int .i64 typ, .string host, .int .u32 gen, .bool apt, .slice none 0 0]) (t := 66) ?hr ?_; (case hr => first | (go_simp; done) | (go_simp; rfl)); intro gd hg w7 hbox hb; have OB := aS_ (show w6.heap.size ≤ gd by rw [hg]; exact Nat.le_refl _); have ND4 := aS_ (show gd ≠ g4 by rw [hg]; exact Nat.ne_of_gt (blk_lt BK4.out)); have HBB := aS_ hb; have HB7 := aS_ (below_step HB.out hb); have BKD := aS_ hbox; clear hct0 hct1 hct2 hct3 hct4; clear hcc0 hcc1 hcc2 hcc3 hcc4 hcc5 hcc6 hcc7 hcc8 hcc9 hcc10 hcc11 hcc12 hcc13; clear hcr0 hfr0 hcr1 hfr1 hcr2 hfr2 hcr3 hfr3 hcr4 hfr4; have hct0 : w7.cell? ⟨g2, 0, none⟩ = some (.slice A0 l.length c0) := (blk_cell (blk_below BK2.out hb) 0).trans rfl; clear hb hbox hg)
    | (go_at_call 36; refine (clone_calls A0 c0 l _ (Kd.C_below (Kd.V_reads' HS.out).2.2 HB7.out) HN.out).mono ?_; rintro e w8 ⟨u, rfl, hr, hb⟩; have n1_ := aS_ (blk_below BKD.out hb); have n2_ := aS_ (below_step HBB.out hb); have RR := aS_ (Kd.R_lower hr (below_size HBB.out)); obtain ⟨Au, cu, eu⟩ := Kd.R_slice hr; subst eu; clear BKD HBB HB7 hb hr hct0; have BKD := n1_; have HBB := n2_; clear n1_ n2_; have hcd14 : w8.cell? ⟨gd, 14, none⟩ = some (.slice A0 l.length c0) := bC_ BKD.out 14 rfl; have hfd14 := bF_ BKD.out 14)
    | ((with_reducible refine gate_dst (N := 46) rfl ?_); refine value_event rfl HF1.out HF2.out HF3.out rfl #[] #[] rfl #[.pointer (some ⟨gd, 0, none⟩)] (by simp only [List.map_toArray, List.map_cons, List.map_nil]; rfl) ?_; refine deed_call (fun w' => Aside0 (Dd w6 w' gd c rg (.slice Au l.length cu) l typ host gen apt (.slice none 0 0) [])) ⟨⟨OB.out, blk_put BKD.out 14 _ rfl, Kd.R_mono (Kd.R_far (p := ⟨gd, 14, none⟩) (Kd.R_types RR.out BKD.out (by decide)) (fun _ hk => hk.2) _) (fun _ hk => hk.1), Kd.R_nil _ _ _ _ _, below_set HBB.out OB.out⟩⟩ ?_; intro w9 D9; clear RR BKD HBB hcd14 hfd14; refine (HCALL.out w6 w9 gd _ (Glob.keep HG.out HB.out) D9.out).mono ?_; clear D9; rintro e w10 ⟨rfl, u2, ue2, hd_⟩; have D := aS_ hd_; obtain ⟨Au2, cu2, eu2⟩ := Kd.R_slice hd_.r; subst eu2; obtain ⟨Ae, ce, ee⟩ := Kd.R_slice hd_.re; subst ee; clear hd_; refine ⟨_, rfl, ?_⟩))
  have n1_ := aS_ (D.out.below (below_drew (Below.refl _ _)))
  clear D
  have D := n1_
  clear n1_
  refine start_ (n := 11) (S := fun w' => w'.cell? ⟨gd, 14, none⟩ = some (.slice Au2 l2.length cu2) ∧ w'.cell? ⟨gd, 15, none⟩ = some (.int .i64 typ2) ∧ w'.cell? ⟨gd, 16, none⟩ = some (.string host2) ∧ w'.cell? ⟨gd, 17, none⟩ = some (.int .u32 gen2) ∧ w'.cell? ⟨gd, 18, none⟩ = some (.bool apt2) ∧ w'.cell? ⟨gd, 19, none⟩ = some (.slice Ae ev2.length ce)) (ds := []) #[false, false, false, false, false, false, false, false, false, false, false] (by kernel_rfl) rfl rfl ⟨bC_ D.out.b 14 rfl, bC_ D.out.b 15 rfl, bC_ D.out.b 16 rfl, bC_ D.out.b 17 rfl, bC_ D.out.b 18 rfl, bC_ D.out.b 19 rfl⟩ (fun hHeld => ?_)
  generalize w10.drew = w11 at D hHeld ⊢
  have n1_ := aS_ (blk_below BK4.out D.out.hb)
  have n2_ := aS_ (below_step HB.out D.out.hb)
  have LE6 := aS_ (below_size HB.out)
  clear BK4 HB
  have BK4 := n1_
  have HB := n2_
  clear n1_ n2_
  have hcr0 : w11.cell? ⟨g4, 0, none⟩ = some (.slice none 0 0) := bC_ BK4.out 0 rfl
  have hfr0 := bF_ BK4.out 0
  have hcr1 : w11.cell? ⟨g4, 1, none⟩ = some (.int .i64 0) := bC_ BK4.out 1 rfl
  have hfr1 := bF_ BK4.out 1
  have hcr2 : w11.cell? ⟨g4, 2, none⟩ = some (.string (⟨#[]⟩ : ByteArray)) := bC_ BK4.out 2 rfl
  have hfr2 := bF_ BK4.out 2
  have hcr3 : w11.cell? ⟨g4, 3, none⟩ = some (.int .u32 0) := bC_ BK4.out 3 rfl
  have hfr3 := bF_ BK4.out 3
  have hcr4 : w11.cell? ⟨g4, 4, none⟩ = some (.bool false) := bC_ BK4.out 4 rfl
  have hfr4 := bF_ BK4.out 4
  refine qon_ 0 (some 51) (dB 11 1) ?_
  refine qon_ 1 (some 52) (dB 11 3) ?_
  refine qon_ 2 (some 53) (dB 11 7) ?_
  refine qon_ 4 (some 55) (dB 11 23) ?_
  refine qon_ 5 (some 56) (dB 11 55) ?_
  refine qon_ 6 (some 57) (dB 11 119) ?_
  refine qtk_ 3 (some 54) (dB 11 127) hHeld ?_
  refine qtk_ 7 (some 58) (dB 11 255) hHeld ?_
  refine one_ (i := 8) (N := none) (dB 11 511) rfl rfl (by kernel_rfl) (by decide) (fun K hK => ?_)
  refine skip_ (w1 := ?_) (by rfl) rfl ?_ ?_
  rotate_left
  ·go_simp
   rfl
  refine hK.out _ _ ⟨(blk_cell (blk_far (blk_far (blk_far (blk_far (blk_far D.out.b ND4.out _) ND4.out _) ND4.out _) ND4.out _) ND4.out _) 14).trans rfl, (blk_cell (blk_far (blk_far (blk_far (blk_far (blk_far D.out.b ND4.out _) ND4.out _) ND4.out _) ND4.out _) ND4.out _) 15).trans rfl, (blk_cell (blk_far (blk_far (blk_far (blk_far (blk_far D.out.b ND4.out _) ND4.out _) ND4.out _) ND4.out _) ND4.out _) 16).trans rfl, (blk_cell (blk_far (blk_far (blk_far (blk_far (blk_far D.out.b ND4.out _) ND4.out _) ND4.out _) ND4.out _) ND4.out _) 17).trans rfl, (blk_cell (blk_far (blk_far (blk_far (blk_far (blk_far D.out.b ND4.out _) ND4.out _) ND4.out _) ND4.out _) ND4.out _) 18).trans rfl, (blk_cell (blk_far (blk_far (blk_far (blk_far (blk_far D.out.b ND4.out _) ND4.out _) ND4.out _) ND4.out _) ND4.out _) 19).trans rfl⟩ (fun hHeld => ?_)
  clear hK K
  refine qon_ 9 (some 5) (dB 11 1023) ?_
  refine qon_ 10 (some 6) (dB 11 2047) ?_
  refine done_ (by kernel_rfl) ?_
  go_wp2
  (try simp only [Exit.inBlock, Exit.then])
  refine bodyPost_ret (results_do rfl _ _ g4 27 #[.slice Au2 l2.length cu2, .int .i64 typ2, .string host2, .int .u32 gen2, .bool apt2] (0, 0) _ rfl (by refine blk_put (blk_put (blk_put (blk_put (blk_put BK4.out 0 _ rfl) 1 _ rfl) 2 _ rfl) 3 _ rfl) 4 _ rfl) hu27 rfl rfl) rfl ?_
  exact ⟨_, _, rfl, Kd.R_V (R_re53 (row_put5 D.out.r BK4.out (by decide) _ _ _ _ _) LE6.out (fun k_ hk_ hb_ => ⟨Or.inr (Nat.le_trans LE6.out hb_), rows_apart D.out.r D.out.re (by decide) k_ hk_⟩)), R_re46 (row_put5 D.out.re BK4.out (by decide) _ _ _ _ _) LE6.out (fun k_ _ hb_ => Nat.le_trans LE6.out hb_), (below_set (below_set (below_set (below_set (below_set HB.out G4.out) G4.out) G4.out) G4.out) G4.out)⟩
end Go.Proofs.YtjogkfcjlljjcaaDoor.P
