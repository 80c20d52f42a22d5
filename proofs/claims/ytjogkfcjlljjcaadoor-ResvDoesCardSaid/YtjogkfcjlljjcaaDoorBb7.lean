-- joined by this session's wip/tools/pack.py: words of the kit's print, cut to what the claim names; functions printed by a patched copy of the printer; walks and lemmas of this session; Lean checks it
import Derived.Test.YtjogkfcjlljjcaaDoorBb6
import Derived.Maps.Own
import Derived.Maps.OwnOps
import Derived.Maps.OwnSet
import Derived.Maps.Views
import Derived.Carry
import Derived.Lib.SliceRun
import Derived.Deep.QuietTactic
import Derived.BigQuiet
import Derived.OwnWalk
set_option maxHeartbeats 40000000
set_option maxRecDepth 100000
namespace Go.Proofs.YtjogkfcjlljjcaaDoor.P
open Go.RowKit Go.Proofs.YtjogkfcjlljjcaaDoorW.PrintWords Go.Proofs.YtjogkfcjlljjcaaDoorW.PrintLast Go.Proofs.YtjogkfcjlljjcaaDoorW.PrintMore
attribute [local go_sem] max2_int min2_int max_two min_two max_three min_three max_four min_four   -- for this text's walks alone
set_option linter.unusedVariables false
set_option linter.unusedSimpArgs false
set_option linter.unnecessarySimpa false
theorem rf_pre_whole (k : Nat) (A0 : Option Addr) (c0 : Nat) (l : List S53) (typ : Int) (host : ByteArray) (gen : Int) (apt : Bool) (c : S31) (rg : Value) (w : World) (hr : Kd.C k53 w A0 l.length l) (hc : l.length ≤ c0) (hn : l.length ≤ 1000) (hb4 : decide (4 < typ) = true) (hz : (c.f10 == 0) = true) (h1 : Int) (h2 : ByteArray) (hh : headgateref11_hold.f c.f11 c.f2 = some (h1, h2)) (evs : List S46) (hev : headgateref11_events.f k (l.filter (stk c true)) (⟨#[]⟩ : ByteArray) 2 = some evs) :
    Calls Tryd.prog 42 #[.agg (tabc (.slice A0 l.length c0) typ host gen apt), .agg (cmdc c rg)] w fun e w' => (∃ v0 v5, e = .returned (.agg (outd v0 h1 h2 ((gen + 1) % 4294967296) apt v5 1)) ∧ Kd.R k53 53 w' w.heap.size (fun _ => True) v0 (l.filter (sty c true)) ∧ Kd.R k46 46 w' w.heap.size (fun _ => True) v5 evs ∧ Below w.heap.size w w') := by
  have hu27 := Tryd.underlying27
  have hu24 := Tryd.underlying24
  have hu31 := Tryd.underlying31
  have hu40 := Tryd.underlying40
  have hu53 := Tryd.underlying53
  have HR := aS_ hr
  have HC := aS_ hc
  have HB := aS_ (Below.refl w.heap.size w)
  clear hr hc
  unfold tabc cmdc
  have HN := aS_ hn
  clear hn
  obtain ⟨xs, hxs⟩ : ∃ xs, xs = l.filter (sty c true) := ⟨_, rfl⟩
  obtain ⟨ys, hys⟩ : ∃ ys, ys = l.filter (stk c true) := ⟨_, rfl⟩
  rw [← hxs]
  rw [← hys] at hev
  have HXS := aS_ hxs
  have HYS := aS_ hys
  clear hxs hys
  obtain ⟨em, hem⟩ : ∃ em, ((ys.length : Int) == 0) = em := ⟨_, rfl⟩
  have HEV := aS_ hev
  clear hev
  have HH := aS_ hh
  clear hh
  go_enter Tryd.func42, Tryd.ntmps42
  go_wp2_with (first
    | ((with_reducible refine gate_dst (N := 2) rfl ?_); refine bX_ (N := 2) (cs := tabc (.slice A0 l.length c0) typ host gen apt) (t := 27) ?hr ?_; (case hr => first | (go_simp; done) | (go_simp; rfl)); intro g2 hgg2 w2 hxg2 hyg2; have X2 := aS_ hxg2; have Y2 := aS_ hyg2; have Z2 := aS_ hgg2; clear hxg2 hyg2 hgg2)
    | ((with_reducible refine gate_dst (N := 3) rfl ?_); refine bX_ (N := 3) (cs := cmdc c rg) (t := 31) ?hr ?_; (case hr => first | (go_simp; done) | (go_simp; rfl)); intro g3 hgg3 w3 hxg3 hyg3; have X3 := aS_ hxg3; have Y3 := aS_ hyg3; have Z3 := aS_ (show g2 < g3 by rw [hgg3]; exact blk_lt X2.out); clear hxg3 hyg3 hgg3)
    | ((with_reducible refine gate_dst (N := 4) rfl ?_); refine bX_ (N := 4) (cs := outc) (t := 40) ?hr ?_; (case hr => first | (go_simp; done) | (go_simp; rfl)); intro g4 hgg4 w4 hxg4 hyg4; have hlt3 := blk_lt (blk_below X2.out Y3.out); have hlt4 := blk_lt X3.out; have hz2 := below_size (below_step HB.out (below_step Y2.out Y3.out)); have F := aS_ (Rf.mk (w0 := w) (by have := Z2.out; have := below_size HB.out; omega) (by omega) (by omega) (by have := Z3.out; omega) (by omega) (blk_below (blk_below X2.out Y3.out) hyg4) (blk_below X3.out hyg4) hxg4 (below_step HB.out (below_step Y2.out (below_step Y3.out hyg4)))); have n42 := F.out.n42; have n24 := F.out.n42.symm; clear hlt3 hlt4 hz2 X2 X3 Y2 Y3 Z2 Z3 hxg4 hyg4 hgg4; obtain ⟨hct0, hct1, hct2, hct3, hct4⟩ := cells5 F.out.b2; obtain ⟨-, -, hcc2, -, -, -, -, -, -, -, hcc10, hcc11, -, -⟩ := cells14 F.out.b3; obtain ⟨hcr0, hcr1, hcr2, hcr3, hcr4, hcr5, hcr6⟩ := cells7 F.out.b4; have hfr0 := bF_ F.out.b4 0; have hfr1 := bF_ F.out.b4 1; have hfr2 := bF_ F.out.b4 2; have hfr3 := bF_ F.out.b4 3; have hfr4 := bF_ F.out.b4 4; have hfr5 := bF_ F.out.b4 5; have hfr6 := bF_ F.out.b4 6))
  clear hct0 hct1 hct2 hct3 hct4 hcc2 hcc10 hcc11 hcr0 hfr0 hcr1 hfr1 hcr2 hfr2 hcr3 hfr3 hcr4 hfr4 hcr5 hfr5 hcr6 hfr6
  have F1 := aS_ (F.out.below (below_drew (Below.refl _ _)))
  clear F
  have F := F1
  clear F1
  refine start_ (n := 18) (S := fun w' => w'.cell? ⟨g2, 0, none⟩ = some (.slice A0 l.length c0) ∧ w'.cell? ⟨g2, 1, none⟩ = some (.int .i64 typ) ∧ w'.cell? ⟨g2, 2, none⟩ = some (.string host) ∧ w'.cell? ⟨g2, 3, none⟩ = some (.int .u32 gen) ∧ w'.cell? ⟨g2, 4, none⟩ = some (.bool apt) ∧ w'.cell? ⟨g3, 10, none⟩ = some (.int .u64 c.f10)) (ds := []) #[false, false, false, false, false, false, false, false, false, false, false, false, false, false, false, false, false, false] (by kernel_rfl) rfl rfl ⟨bC_ F.out.b2 0 rfl, bC_ F.out.b2 1 rfl, bC_ F.out.b2 2 rfl, bC_ F.out.b2 3 rfl, bC_ F.out.b2 4 rfl, bC_ F.out.b3 10 rfl⟩ (fun hHeld => ?_)
  generalize w4.drew = w5 at F hHeld ⊢
  refine qon_ 0 (some 19) (dB 18 1) ?_
  refine qon_ 1 (some 20) (dB 18 3) ?_
  refine qof_ 2 (some 21) (dB 18 7) ?_
  refine qof_ 3 (some 22) (dB 18 15) ?_
  refine qof_ 4 (some 23) (dB 18 31) ?_
  refine qof_ 5 (some 24) (dB 18 63) ?_
  refine qof_ 6 (some 25) (dB 18 127) ?_
  refine qof_ 7 (some 26) (dB 18 255) ?_
  refine qof_ 8 (some 27) (dB 18 511) ?_
  refine qof_ 9 (some 28) (dB 18 1023) ?_
  refine qof_ 10 (some 29) (dB 18 2047) ?_
  refine qof_ 11 (some 30) (dB 18 4095) ?_
  refine qof_ 12 (some 31) (dB 18 8191) ?_
  refine qof_ 13 (some 32) (dB 18 16383) ?_
  refine qof_ 14 (some 33) (dB 18 32767) ?_
  refine qof_ 15 (some 34) (dB 18 65535) ?_
  refine qon_ 16 (some 35) (dB 18 131071) ?_
  refine qon_ 17 (some 6) (dB 18 262143) ?_
  refine done_ (by kernel_rfl) ?_
  (first | refine deed_then (fun w' => Aside0 (Rf w w' g2 g3 g4 c rg (tabc (.slice A0 l.length c0) typ host gen apt))) F ?_ | refine deed_exit (fun w' => Aside0 (Rf w w' g2 g3 g4 c rg (tabc (.slice A0 l.length c0) typ host gen apt))) F ?_)
  intro wv FV
  clear F
  have F := FV
  clear FV
  obtain ⟨hct0, hct1, hct2, hct3, hct4⟩ := cells5 F.out.b2
  obtain ⟨-, -, hcc2, -, -, -, -, -, -, -, hcc10, hcc11, -, -⟩ := cells14 F.out.b3
  obtain ⟨hcr0, hcr1, hcr2, hcr3, hcr4, hcr5, hcr6⟩ := cells7 F.out.b4
  have hfr0 := bF_ F.out.b4 0
  have hfr1 := bF_ F.out.b4 1
  have hfr2 := bF_ F.out.b4 2
  have hfr3 := bF_ F.out.b4 3
  have hfr4 := bF_ F.out.b4 4
  have hfr5 := bF_ F.out.b4 5
  have hfr6 := bF_ F.out.b4 6
  have hft0 := bF_ F.out.b2 0
  have hft1 := bF_ F.out.b2 1
  have hft2 := bF_ F.out.b2 2
  have hft3 := bF_ F.out.b2 3
  have hft4 := bF_ F.out.b2 4
  go_wp2
  go_loopw [7, 8, 9] (fun sv tv iv wr => ∃ i : Nat, i ≤ l.length ∧ iv = .int .i64 i ∧ Aside0 (Rf w wr g2 g3 g4 c rg (tabc (.slice A0 l.length c0) typ host gen apt)) ∧ Aside0 (Kd.R k53 53 wr w.heap.size (fun k_ => True ∧ some k_ ≠ tv.ownBlock) sv ((l.take i).filter (sty c true))) ∧ Aside0 (Kd.R k53 53 wr w.heap.size (fun k_ => True ∧ some k_ ≠ sv.ownBlock) tv ((l.take i).filter (stk c true)))) (fun _ _ iv _ => l.length - (intOf iv).toNat)
  case atStart => exact ⟨0, Nat.zero_le _, rfl, F, ⟨Kd.R_nil _ _ _ _ _⟩, ⟨Kd.R_nil _ _ _ _ _⟩⟩
  case round =>
    clear F hct0 hct1 hct2 hct3 hct4 hcc2 hcc10 hcc11 hft0 hft1 hft2 hft3 hft4 hcr0 hfr0 hcr1 hfr1 hcr2 hfr2 hcr3 hfr3 hcr4 hfr4 hcr5 hfr5 hcr6 hfr6
    obtain ⟨i, hi, rfl, F, RS, RT⟩ := hrel
    by_cases hlt : i < l.length
    · clear hi
      have HI := aS_ (show i ≤ 1000 by have := HN.out; omega)
      have HLT := aS_ hlt
      have p0 : (0 : Int) ≤ (i : Int) := Int.natCast_nonneg i
      have q0 : (i : Int) < (l.length : Int) := by omega
      obtain ⟨ad, ea, hx0, hx1⟩ := at_T53 (Kd.C_below HR.out F.out.hb) (i : Int) p0 q0
      cases ea
      obtain ⟨s, hs⟩ : ∃ s, s = (rd_T53 l i).f0 := ⟨_, rfl⟩
      obtain ⟨ky, hky⟩ : ∃ ky, ky = (rd_T53 l i).f1 := ⟨_, rfl⟩
      have HRD := aS_ (show rd_T53 l i = (⟨s, ky⟩ : S53) by rw [hs, hky])
      rw [← hs] at hx0
      rw [← hky] at hx1
      simp only [Int.toNat_natCast] at hx0 hx1
      have HX0 := aS_ hx0
      have HX1 := aS_ hx1
      have FS := aS_ (And.intro (flt_succ (sty c true) l i hlt) (flt_succ (stk c true) l i hlt))
      have LS := aS_ (And.intro (flt_len (sty c true) l i) (flt_len (stk c true) l i))
      obtain ⟨As, cs, es⟩ := Kd.R_slice RS.out
      obtain ⟨At, ct, et⟩ := Kd.R_slice RT.out
      obtain ⟨xs, hxs⟩ : ∃ xs, xs = (l.take i).filter (sty c true) := ⟨_, rfl⟩
      obtain ⟨ys, hys⟩ : ∃ ys, ys = (l.take i).filter (stk c true) := ⟨_, rfl⟩
      rw [← hxs] at RS es FS LS
      rw [← hys] at RT et FS LS
      subst es
      subst et
      clear hs hky hxs hys hx0 hx1
      have d3 : decide ((i : Int) < (l.length : Int)) = true := decide_eq_true q0
      obtain ⟨hct0, hct1, hct2, hct3, hct4⟩ := cells5 F.out.b2
      obtain ⟨b1, hb1⟩ : ∃ b1, (s.toList == c.f2.toList) = b1 := ⟨_, rfl⟩
      obtain ⟨kb, hkb⟩ : ∃ kb, (ky == c.f10) = kb := ⟨_, rfl⟩
      have HQ := aS_ hb1
      have HKB := aS_ hkb
      cases b1
      · have hne : (s.toList != c.f2.toList) = true := by rw [bne, hb1]; rfl
        cases kb
        all_goals
          go_wp2
          have F1 := aS_ (F.out.below (below_drew (Below.refl _ _)))
          clear F
          have F := F1
          clear F1
          have RS1 := aS_ (Kd.R_below RS.out (below_drew (Below.refl _ _)))
          have RT1 := aS_ (Kd.R_below RT.out (below_drew (Below.refl _ _)))
          clear RS RT
          have RS := RS1
          have RT := RT1
          clear RS1 RT1
          refine start_ (n := 23) (S := fun w' => w'.cell? ⟨g2, 0, none⟩ = some (.slice (some ad) l.length c0) ∧ w'.cell? (ad.add (i * 2)) = some (.string s) ∧ w'.cell? ⟨(ad.add (i * 2)).block, (ad.add (i * 2)).off + 1, none⟩ = some (.int .u64 ky) ∧ w'.cell? ⟨g3, 2, none⟩ = some (.string c.f2) ∧ w'.cell? ⟨g3, 10, none⟩ = some (.int .u64 c.f10)) (ds := []) #[false, false, false, false, false, false, false, false, false, false, false, false, false, false, false, false, false, false, false, false, false, false, false] (by kernel_rfl) rfl rfl ⟨bC_ F.out.b2 0 rfl, HX0.out, HX1.out, bC_ F.out.b3 2 rfl, bC_ F.out.b3 10 rfl⟩ (fun hHeld => ?_)
          generalize wr.drew = wd at F RS RT hHeld ⊢
          refine qon_ 0 (some 52) (dB 23 1) ?_
          refine qon_ 2 (some 54) (dB 23 5) ?_
          refine qon_ 6 (some 58) (dB 23 69) ?_
          refine qtk_ 1 (some 53) (dB 23 71) hHeld ?_
          refine qon_ 3 (some 55) (dB 23 79) ?_
          refine qon_ 4 (some 56) (dB 23 95) ?_
          refine qtk_ 5 (some 57) (dB 23 127) hHeld ?_
          refine qtk_ 7 (some 59) (dB 23 255) hHeld ?_
          refine qon_ 8 (some 60) (dB 23 511) ?_
          refine qon_ 9 (some 61) (dB 23 1023) ?_
          refine qon_ 10 (some 62) (dB 23 2047) ?_
          refine qon_ 11 (some 63) (dB 23 4095) ?_
          refine qof_ 12 (some 64) (dB 23 8191) ?_
          refine qof_ 13 (some 65) (dB 23 16383) ?_
          refine qof_ 14 (some 66) (dB 23 32767) ?_
          refine qof_ 15 (some 67) (dB 23 65535) ?_
          refine qof_ 16 (some 68) (dB 23 131071) ?_
          refine qof_ 17 (some 69) (dB 23 262143) ?_
          refine qof_ 18 (some 70) (dB 23 524287) ?_
          refine qof_ 19 (some 71) (dB 23 1048575) ?_
          refine qof_ 20 (some 72) (dB 23 2097151) ?_
          refine qon_ 21 (some 73) (dB 23 4194303) ?_
          refine qon_ 22 (some 74) (dB 23 8388607) ?_
          refine done_ (by kernel_rfl) ?_
          obtain ⟨hw0, hw1, hw2, hw3, hw4⟩ := hHeld
          go_wp2_with (first
            | ((with_reducible refine gate_builtin (b := .append) (xs := #[.tmp 75, .tmp 81]) rfl ?_); at_builtin; refine Kd.R_append k53 (w0 := w) w.heap.size rfl (.tmp 75) (.tmp 81) 22 53 (.agg #[(.string ⟨#[]⟩), (.int .u64 0)]) 24 rfl Tryd.underlying22 info53 rfl (by decide) (by omega) (.slice At ys.length ct) ys (⟨s, ky⟩ : S53) [.string s, .int .u64 ky] (fun k_ => True ∧ some k_ ≠ (Value.slice As xs.length cs).ownBlock) (fun _ => False) rfl rfl ?aP (fun _ hk => hk.elim) ?aF ?aO ?aB ?aS ?aL ?_; (case aP => exact k53_mkM _ _ _ (⟨s, ky⟩ : S53)); (case aB => exact F.out.hb); (case aF => exact fresh_ne RS.out); (case aO => exact RT.out); (case aS => exact below_size F.out.hb); (case aL => have := LS.out; have := HI.out; omega); intro v1 y1 ho hb hg hat; have F1 := aS_ (F.out.grown RT.out hg hb); have RA := aS_ (Kd.R_after RS.out hg hat); have RB := aS_ ho; clear F RS RT hb hg hat ho hct0 hct1 hct2 hct3 hct4; have F := F1; clear F1))
          go_roundw
          case rel =>
            have hst := stk_val c true s ky _ _ HQ.out HKB.out
            refine ⟨i + 1, HLT.out, deed_next i HI.out, F, ⟨?_⟩, ⟨?_⟩⟩
            · rw [FS.out.1, HRD.out, hst.2]
              rw [if_neg (by decide), List.append_nil]
              exact RA.out
            · rw [FS.out.2, HRD.out, hst.1]
              rw [if_pos (by decide)]
              exact RB.out
          case measure => exact deed_less i l.length HI.out HLT.out
      · have hne : (s.toList != c.f2.toList) = false := by rw [bne, hb1]; rfl
        cases kb
        all_goals
          go_wp2
          have F1 := aS_ (F.out.below (below_drew (Below.refl _ _)))
          clear F
          have F := F1
          clear F1
          have RS1 := aS_ (Kd.R_below RS.out (below_drew (Below.refl _ _)))
          have RT1 := aS_ (Kd.R_below RT.out (below_drew (Below.refl _ _)))
          clear RS RT
          have RS := RS1
          have RT := RT1
          clear RS1 RT1
          refine start_ (n := 23) (S := fun w' => w'.cell? ⟨g2, 0, none⟩ = some (.slice (some ad) l.length c0) ∧ w'.cell? (ad.add (i * 2)) = some (.string s) ∧ w'.cell? ⟨(ad.add (i * 2)).block, (ad.add (i * 2)).off + 1, none⟩ = some (.int .u64 ky) ∧ w'.cell? ⟨g3, 2, none⟩ = some (.string c.f2) ∧ w'.cell? ⟨g3, 10, none⟩ = some (.int .u64 c.f10)) (ds := []) #[false, false, false, false, false, false, false, false, false, false, false, false, false, false, false, false, false, false, false, false, false, false, false] (by kernel_rfl) rfl rfl ⟨bC_ F.out.b2 0 rfl, HX0.out, HX1.out, bC_ F.out.b3 2 rfl, bC_ F.out.b3 10 rfl⟩ (fun hHeld => ?_)
          generalize wr.drew = wd at F RS RT hHeld ⊢
          refine qon_ 0 (some 52) (dB 23 1) ?_
          refine qon_ 2 (some 54) (dB 23 5) ?_
          refine qon_ 6 (some 58) (dB 23 69) ?_
          refine qtk_ 1 (some 53) (dB 23 71) hHeld ?_
          refine qon_ 3 (some 55) (dB 23 79) ?_
          refine qon_ 4 (some 56) (dB 23 95) ?_
          refine qtk_ 5 (some 57) (dB 23 127) hHeld ?_
          refine qtk_ 7 (some 59) (dB 23 255) hHeld ?_
          refine qon_ 8 (some 60) (dB 23 511) ?_
          refine qon_ 9 (some 61) (dB 23 1023) ?_
          refine qof_ 10 (some 62) (dB 23 2047) ?_
          refine qof_ 11 (some 63) (dB 23 4095) ?_
          refine qof_ 12 (some 64) (dB 23 8191) ?_
          refine qof_ 13 (some 65) (dB 23 16383) ?_
          refine qof_ 14 (some 66) (dB 23 32767) ?_
          refine qof_ 15 (some 67) (dB 23 65535) ?_
          refine qof_ 16 (some 68) (dB 23 131071) ?_
          refine qof_ 17 (some 69) (dB 23 262143) ?_
          refine qof_ 18 (some 70) (dB 23 524287) ?_
          refine qof_ 19 (some 71) (dB 23 1048575) ?_
          refine qof_ 20 (some 72) (dB 23 2097151) ?_
          refine qof_ 21 (some 73) (dB 23 4194303) ?_
          refine qon_ 22 (some 74) (dB 23 8388607) ?_
          refine done_ (by kernel_rfl) ?_
          obtain ⟨hw0, hw1, hw2, hw3, hw4⟩ := hHeld
          go_wp2_with (first
            | ((with_reducible refine gate_builtin (b := .append) (xs := #[.tmp 83, .tmp 89]) rfl ?_); at_builtin; refine Kd.R_append k53 (w0 := w) w.heap.size rfl (.tmp 83) (.tmp 89) 22 53 (.agg #[(.string ⟨#[]⟩), (.int .u64 0)]) 24 rfl Tryd.underlying22 info53 rfl (by decide) (by omega) (.slice As xs.length cs) xs (⟨s, ky⟩ : S53) [.string s, .int .u64 ky] (fun k_ => True ∧ some k_ ≠ (Value.slice At ys.length ct).ownBlock) (fun _ => False) rfl rfl ?aP (fun _ hk => hk.elim) ?aF ?aO ?aB ?aS ?aL ?_; (case aP => exact k53_mkM _ _ _ (⟨s, ky⟩ : S53)); (case aB => exact F.out.hb); (case aF => exact fresh_ne RT.out); (case aO => exact RS.out); (case aS => exact below_size F.out.hb); (case aL => have := LS.out; have := HI.out; omega); intro v1 y1 ho hb hg hat; have F1 := aS_ (F.out.grown RS.out hg hb); have RA := aS_ (Kd.R_after RT.out hg hat); have RB := aS_ ho; clear F RS RT hb hg hat ho hct0 hct1 hct2 hct3 hct4; have F := F1; clear F1))
          go_roundw
          case rel =>
            have hst := stk_val c true s ky _ _ HQ.out HKB.out
            refine ⟨i + 1, HLT.out, deed_next i HI.out, F, ⟨?_⟩, ⟨?_⟩⟩
            · rw [FS.out.1, HRD.out, hst.2]
              rw [if_pos (by decide)]
              exact RB.out
            · rw [FS.out.2, HRD.out, hst.1]
              rw [if_neg (by decide), List.append_nil]
              exact RA.out
          case measure => exact deed_less i l.length HI.out HLT.out
    · have hil : i = l.length := by omega
      subst hil
      rw [List.take_length, ← HXS.out] at RS
      rw [List.take_length, ← HYS.out] at RT
      have d3 : decide ((l.length : Int) < (l.length : Int)) = false := decide_eq_false (by omega)
      obtain ⟨As, cs, es⟩ := Kd.R_slice RS.out
      obtain ⟨At, ct, et⟩ := Kd.R_slice RT.out
      subst es
      subst et
      obtain ⟨hct0, hct1, hct2, hct3, hct4⟩ := cells5 F.out.b2
      obtain ⟨-, -, hcc2, -, -, -, -, -, -, -, hcc10, hcc11, -, -⟩ := cells14 F.out.b3
      obtain ⟨hcr0, hcr1, hcr2, hcr3, hcr4, hcr5, hcr6⟩ := cells7 F.out.b4
      have hfr0 := bF_ F.out.b4 0
      have hfr1 := bF_ F.out.b4 1
      have hfr2 := bF_ F.out.b4 2
      have hfr3 := bF_ F.out.b4 3
      have hfr4 := bF_ F.out.b4 4
      have hfr5 := bF_ F.out.b4 5
      have hfr6 := bF_ F.out.b4 6
      have hft0 := bF_ F.out.b2 0
      have hft1 := bF_ F.out.b2 1
      have hft2 := bF_ F.out.b2 2
      have hft3 := bF_ F.out.b2 3
      have hft4 := bF_ F.out.b2 4
      have RS1 := aS_ (ok_any RS.out)
      have RT1 := aS_ (ok_any RT.out)
      clear RS RT
      have RS := RS1
      have RT := RT1
      clear RS1 RT1
      cases em
      all_goals
        go_wp2_with (first
          | (go_at_call 63; refine deed_call (fun w' => Aside0 (Rf w w' g2 g3 g4 c rg (tabc (.slice As xs.length cs) typ host ((gen + 1) % 4294967296) apt)) ∧ Aside0 (Kd.R k53 53 w' w.heap.size (fun _ => True) (.slice As xs.length cs) xs) ∧ Aside0 (Kd.R k53 53 w' w.heap.size (fun _ => True) (.slice At ys.length ct) ys)) ⟨⟨(F.out.put 0 _ rfl).put 3 _ rfl⟩, ⟨row_two F.out RS.out (by decide) 0 3 _ _⟩, ⟨row_two F.out RT.out (by decide) 0 3 _ _⟩⟩ ?_; rintro w15 ⟨F1, RS1, RT1⟩; clear F RS RT hct0 hct1 hct2 hct3 hct4 hft0 hft1 hft2 hft3 hft4 hcr0 hfr0 hcr1 hfr1 hcr2 hfr2 hcr3 hfr3 hcr4 hfr4 hcr5 hfr5 hcr6 hfr6; have F := F1; have RS := RS1; have RT := RT1; clear F1 RS1 RT1; refine (headgateref11_hold.calls c.f11 c.f2 h1 h2 _ HH.out).mono ?_; rintro e w16 ⟨rfl, hb⟩; have F1 := aS_ (F.out.below hb); have RS1 := aS_ (Kd.R_below RS.out hb); have RT1 := aS_ (Kd.R_below RT.out hb); clear F RS RT hb; have F := F1; have RS := RS1; have RT := RT1; clear F1 RS1 RT1; obtain ⟨hct0, hct1, hct2, hct3, hct4⟩ := cells5 F.out.b2; obtain ⟨hcr0, hcr1, hcr2, hcr3, hcr4, hcr5, hcr6⟩ := cells7 F.out.b4; have hfr0 := bF_ F.out.b4 0; have hfr1 := bF_ F.out.b4 1; have hfr2 := bF_ F.out.b4 2; have hfr3 := bF_ F.out.b4 3; have hfr4 := bF_ F.out.b4 4; have hfr5 := bF_ F.out.b4 5; have hfr6 := bF_ F.out.b4 6; have hft0 := bF_ F.out.b2 0; have hft1 := bF_ F.out.b2 1; have hft2 := bF_ F.out.b2 2; have hft3 := bF_ F.out.b2 3; have hft4 := bF_ F.out.b2 4))
        refine Hand.at_world (fun w' => Aside0 (Rf w w' g2 g3 g4 c rg (tabc (.slice As xs.length cs) h1 h2 ((gen + 1) % 4294967296) apt)) ∧ Aside0 (Kd.R k53 53 w' w.heap.size (fun _ => True) (.slice As xs.length cs) xs) ∧ Aside0 (Kd.R k53 53 w' w.heap.size (fun _ => True) (.slice At ys.length ct) ys)) ⟨⟨(F.out.put 1 _ rfl).put 2 _ rfl⟩, ⟨row_two F.out RS.out (by decide) 1 2 _ _⟩, ⟨row_two F.out RT.out (by decide) 1 2 _ _⟩⟩ ?_
        rintro w18 ⟨F1, RS1, RT1⟩
        clear F RS RT hct0 hct1 hct2 hct3 hct4 hft0 hft1 hft2 hft3 hft4 hcr0 hfr0 hcr1 hfr1 hcr2 hfr2 hcr3 hfr3 hcr4 hfr4 hcr5 hfr5 hcr6 hfr6
        have F := F1
        have RS := RS1
        have RT := RT1
        clear F1 RS1 RT1
        have F1 := aS_ (F.out.below (below_drew (Below.refl _ _)))
        clear F
        have F := F1
        clear F1
        have RS1 := aS_ (Kd.R_below RS.out (below_drew (Below.refl _ _)))
        have RT1 := aS_ (Kd.R_below RT.out (below_drew (Below.refl _ _)))
        clear RS RT
        have RS := RS1
        have RT := RT1
        clear RS1 RT1
        refine start_ (n := 5) (S := fun w' => w'.cell? ⟨g2, 0, none⟩ = some (.slice As xs.length cs) ∧ w'.cell? ⟨g2, 1, none⟩ = some (.int .i64 h1) ∧ w'.cell? ⟨g2, 2, none⟩ = some (.string h2) ∧ w'.cell? ⟨g2, 3, none⟩ = some (.int .u32 ((gen + 1) % 4294967296)) ∧ w'.cell? ⟨g2, 4, none⟩ = some (.bool apt)) (ds := [4]) #[false, false, false, false, false] (by kernel_rfl) rfl rfl ⟨bC_ F.out.b2 0 rfl, bC_ F.out.b2 1 rfl, bC_ F.out.b2 2 rfl, bC_ F.out.b2 3 rfl, bC_ F.out.b2 4 rfl⟩ (fun hHeld => ?_)
        generalize w18.drew = w19 at F RS RT hHeld ⊢
        refine qon_ 1 (some 114) (dB 5 2) ?_
        refine qtk_ 0 (some 113) (dB 5 3) hHeld ?_
        refine one_ (i := 2) (N := some 115) (dB 5 7) rfl rfl (by kernel_rfl) (by decide) (fun K hK => ?_)
        refine goes_ Tryd.func41 (by kernel_rfl) rfl #[.slice At ys.length ct, .string (⟨#[]⟩ : ByteArray), .int .i64 2] (by rfl) rfl rfl (by simp only [List.map_toArray, List.map_cons, List.map_nil]; rfl) ?_
        with_reducible refine (headgateref11_events.calls k At ct ys (⟨#[]⟩ : ByteArray) 2 evs _ (Kd.R_reads' RT.out).2.2 (Kd.R_reads' RT.out).2.1 HEV.out).mono ?_
        rintro e_ w20 ⟨v5, rfl, hv, hb⟩
        have RV := aS_ (R_re46 hv (below_size F.out.hb) (fun _ _ _ => trivial) (ok' := fun _ => True))
        obtain ⟨Av, cv, ev_⟩ := Kd.R_slice hv
        subst ev_
        clear hv
        have F1 := aS_ (F.out.below hb)
        have RS1 := aS_ (Kd.R_below RS.out hb)
        have RT1 := aS_ (Kd.R_below RT.out hb)
        clear F RS RT hb
        have F := F1
        have RS := RS1
        have RT := RT1
        clear F1 RS1 RT1
        refine ⟨_, rfl, ?_⟩
        refine hK.out _ _ ⟨bC_ F.out.b2 0 rfl, bC_ F.out.b2 1 rfl, bC_ F.out.b2 2 rfl, bC_ F.out.b2 3 rfl, bC_ F.out.b2 4 rfl⟩ (fun hHeld => ?_)
        clear hK K
        refine norm_ (a' := ?_) ?_ ?_
        rotate_left
        ·show Act.put _ (some 115) _ = _
         simp only [Act.put, la_, lb_, lc_, i64_w, i32_w]
         rfl
        refine qon_ 3 (some 116) (dB 5 15) ?_
        refine last_ (i := 4) (N := none) (dB 5 31) rfl rfl (by kernel_rfl) (by decide) (fun K hK => ?_)
        obtain ⟨hcr0, hcr1, hcr2, hcr3, hcr4, hcr5, hcr6⟩ := cells7 F.out.b4
        have hfr0 := bF_ F.out.b4 0
        have hfr1 := bF_ F.out.b4 1
        have hfr2 := bF_ F.out.b4 2
        have hfr3 := bF_ F.out.b4 3
        have hfr4 := bF_ F.out.b4 4
        have hfr5 := bF_ F.out.b4 5
        have hfr6 := bF_ F.out.b4 6
        refine skip_ (w1 := ?_) (by rfl) rfl ?_ ?_
        rotate_left
        ·go_simp
         rfl
        refine hK.out _ _ ?_
        clear hK K
        refine done_ (by kernel_rfl) ?_
        go_wp2
        (try simp only [Exit.inBlock, Exit.then])
        refine ret_out rfl rfl rfl (F.out.out _ _ _ _ _ _ _).1 hu40 rfl rfl ?_
        exact ⟨_, _, rfl, row_out RS.out F.out.b4 (by decide) _ _ _ _ _ _ _, row_out RV.out F.out.b4 (by decide) _ _ _ _ _ _ _, (F.out.out _ _ _ _ _ _ _).2⟩
theorem rf_pre_take (k : Nat) (A0 : Option Addr) (c0 : Nat) (l : List S53) (typ : Int) (host : ByteArray) (gen : Int) (apt : Bool) (c : S31) (rg : Value) (w : World) (hr : Kd.C k53 w A0 l.length l) (hc : l.length ≤ c0) (hn : l.length ≤ 1000) (hb4 : decide (4 < typ) = false) (z : Bool) (hz : (c.f10 == 0) = z) (hal : headgateref11_alone.f typ = some true) (kh : Int) (hkh : headgateref11_Key.f k l typ host gen apt host = some kh) (hq : (kh == c.f10) = true) (h1 : Int) (h2 : ByteArray) (hh : headgateref11_hold.f c.f11 c.f2 = some (h1, h2)) (evs : List S46) (hev : headgateref11_events.f k (l.filter (stk c false)) (⟨#[]⟩ : ByteArray) 2 = some evs) :
    Calls Tryd.prog 42 #[.agg (tabc (.slice A0 l.length c0) typ host gen apt), .agg (cmdc c rg)] w fun e w' => (∃ v0 v5, e = .returned (.agg (outd v0 h1 h2 ((gen + 1) % 4294967296) apt v5 1)) ∧ Kd.R k53 53 w' w.heap.size (fun _ => True) v0 (l.filter (sty c false)) ∧ Kd.R k46 46 w' w.heap.size (fun _ => True) v5 evs ∧ Below w.heap.size w w') := by
  have hu27 := Tryd.underlying27
  have hu24 := Tryd.underlying24
  have hu31 := Tryd.underlying31
  have hu40 := Tryd.underlying40
  have hu53 := Tryd.underlying53
  have HR := aS_ hr
  have HC := aS_ hc
  have HB := aS_ (Below.refl w.heap.size w)
  clear hr hc
  unfold tabc cmdc
  have HN := aS_ hn
  clear hn
  obtain ⟨xs, hxs⟩ : ∃ xs, xs = l.filter (sty c false) := ⟨_, rfl⟩
  obtain ⟨ys, hys⟩ : ∃ ys, ys = l.filter (stk c false) := ⟨_, rfl⟩
  rw [← hxs]
  rw [← hys] at hev
  have HXS := aS_ hxs
  have HYS := aS_ hys
  clear hxs hys
  obtain ⟨em, hem⟩ : ∃ em, ((ys.length : Int) == 0) = em := ⟨_, rfl⟩
  have HEV := aS_ hev
  clear hev
  have HH := aS_ hh
  clear hh
  have HAL := aS_ hal
  clear hal
  have HKH := aS_ hkh
  clear hkh
  cases z
  all_goals
    go_enter Tryd.func42, Tryd.ntmps42
    go_wp2_with (first
      | ((with_reducible refine gate_dst (N := 2) rfl ?_); refine bX_ (N := 2) (cs := tabc (.slice A0 l.length c0) typ host gen apt) (t := 27) ?hr ?_; (case hr => first | (go_simp; done) | (go_simp; rfl)); intro g2 hgg2 w2 hxg2 hyg2; have X2 := aS_ hxg2; have Y2 := aS_ hyg2; have Z2 := aS_ hgg2; clear hxg2 hyg2 hgg2)
      | ((with_reducible refine gate_dst (N := 3) rfl ?_); refine bX_ (N := 3) (cs := cmdc c rg) (t := 31) ?hr ?_; (case hr => first | (go_simp; done) | (go_simp; rfl)); intro g3 hgg3 w3 hxg3 hyg3; have X3 := aS_ hxg3; have Y3 := aS_ hyg3; have Z3 := aS_ (show g2 < g3 by rw [hgg3]; exact blk_lt X2.out); clear hxg3 hyg3 hgg3)
      | ((with_reducible refine gate_dst (N := 4) rfl ?_); refine bX_ (N := 4) (cs := outc) (t := 40) ?hr ?_; (case hr => first | (go_simp; done) | (go_simp; rfl)); intro g4 hgg4 w4 hxg4 hyg4; have hlt3 := blk_lt (blk_below X2.out Y3.out); have hlt4 := blk_lt X3.out; have hz2 := below_size (below_step HB.out (below_step Y2.out Y3.out)); have F := aS_ (Rf.mk (w0 := w) (by have := Z2.out; have := below_size HB.out; omega) (by omega) (by omega) (by have := Z3.out; omega) (by omega) (blk_below (blk_below X2.out Y3.out) hyg4) (blk_below X3.out hyg4) hxg4 (below_step HB.out (below_step Y2.out (below_step Y3.out hyg4)))); have n42 := F.out.n42; have n24 := F.out.n42.symm; clear hlt3 hlt4 hz2 X2 X3 Y2 Y3 Z2 Z3 hxg4 hyg4 hgg4; obtain ⟨hct0, hct1, hct2, hct3, hct4⟩ := cells5 F.out.b2; obtain ⟨-, -, hcc2, -, -, -, -, -, -, -, hcc10, hcc11, -, -⟩ := cells14 F.out.b3; obtain ⟨hcr0, hcr1, hcr2, hcr3, hcr4, hcr5, hcr6⟩ := cells7 F.out.b4; have hfr0 := bF_ F.out.b4 0; have hfr1 := bF_ F.out.b4 1; have hfr2 := bF_ F.out.b4 2; have hfr3 := bF_ F.out.b4 3; have hfr4 := bF_ F.out.b4 4; have hfr5 := bF_ F.out.b4 5; have hfr6 := bF_ F.out.b4 6))
    clear hct0 hct1 hct2 hct3 hct4 hcc2 hcc10 hcc11 hcr0 hfr0 hcr1 hfr1 hcr2 hfr2 hcr3 hfr3 hcr4 hfr4 hcr5 hfr5 hcr6 hfr6
    have F1 := aS_ (F.out.below (below_drew (Below.refl _ _)))
    clear F
    have F := F1
    clear F1
    refine start_ (n := 18) (S := fun w' => w'.cell? ⟨g2, 0, none⟩ = some (.slice A0 l.length c0) ∧ w'.cell? ⟨g2, 1, none⟩ = some (.int .i64 typ) ∧ w'.cell? ⟨g2, 2, none⟩ = some (.string host) ∧ w'.cell? ⟨g2, 3, none⟩ = some (.int .u32 gen) ∧ w'.cell? ⟨g2, 4, none⟩ = some (.bool apt) ∧ w'.cell? ⟨g3, 10, none⟩ = some (.int .u64 c.f10)) (ds := []) #[false, false, false, false, false, false, false, false, false, false, false, false, false, false, false, false, false, false] (by kernel_rfl) rfl rfl ⟨bC_ F.out.b2 0 rfl, bC_ F.out.b2 1 rfl, bC_ F.out.b2 2 rfl, bC_ F.out.b2 3 rfl, bC_ F.out.b2 4 rfl, bC_ F.out.b3 10 rfl⟩ (fun hHeld => ?_)
    generalize w4.drew = w5 at F hHeld ⊢
    refine qon_ 0 (some 19) (dB 18 1) ?_
    refine qon_ 1 (some 20) (dB 18 3) ?_
    refine qon_ 2 (some 21) (dB 18 7) ?_
    refine qon_ 3 (some 22) (dB 18 15) ?_
    refine qtk_ 4 (some 23) (dB 18 31) hHeld ?_
    refine one_ (i := 5) (N := some 24) (dB 18 63) rfl rfl (by kernel_rfl) (by decide) (fun K hK => ?_)
    refine goes_ Tryd.func43 (by kernel_rfl) rfl #[.int .i64 typ] (by rfl) rfl rfl (by simp only [List.map_toArray, List.map_cons, List.map_nil]; rfl) ?_
    with_reducible refine (headgateref11_alone.calls typ true _ HAL.out).mono ?_
    rintro e_ w6 ⟨rfl, hd⟩
    have hb := hd.below
    clear hd
    have F1 := aS_ (F.out.below hb)
    clear F hb
    have F := F1
    clear F1
    refine ⟨_, rfl, ?_⟩
    refine hK.out _ _ ⟨bC_ F.out.b2 0 rfl, bC_ F.out.b2 1 rfl, bC_ F.out.b2 2 rfl, bC_ F.out.b2 3 rfl, bC_ F.out.b2 4 rfl, bC_ F.out.b3 10 rfl⟩ (fun hHeld => ?_)
    clear hK K
    refine norm_ (a' := ?_) ?_ ?_
    rotate_left
    ·show Act.put _ (some 24) _ = _
     simp only [Act.put, la_, lb_, lc_, i64_w, i32_w]
     rfl
    refine qon_ 6 (some 25) (dB 18 127) ?_
    refine qon_ 8 (some 27) (dB 18 383) ?_
    refine qon_ 9 (some 28) (dB 18 895) ?_
    refine qon_ 12 (some 31) (dB 18 4991) ?_
    refine qtk_ 7 (some 26) (dB 18 5119) hHeld ?_
    refine qtk_ 10 (some 29) (dB 18 6143) hHeld ?_
    refine qtk_ 13 (some 32) (dB 18 14335) hHeld ?_
    refine one_ (i := 11) (N := some 30) (dB 18 16383) rfl rfl (by kernel_rfl) (by decide) (fun K hK => ?_)
    refine goes_ Tryd.func19 (by kernel_rfl) rfl #[.agg #[.slice A0 l.length c0, .int .i64 typ, .string host, .int .u32 gen, .bool apt], .string host] (by rfl) rfl rfl (by simp only [List.map_toArray, List.map_cons, List.map_nil]; rfl) ?_
    with_reducible refine (headgateref11_Key.calls k A0 c0 l typ host gen apt host kh _ (Kd.C_below HR.out F.out.hb) HC.out HKH.out).mono ?_
    rintro e_ w7 ⟨rfl, hb⟩
    have F1 := aS_ (F.out.below hb)
    clear F hb
    have F := F1
    clear F1
    refine ⟨_, rfl, ?_⟩
    refine hK.out _ _ ⟨bC_ F.out.b2 0 rfl, bC_ F.out.b2 1 rfl, bC_ F.out.b2 2 rfl, bC_ F.out.b2 3 rfl, bC_ F.out.b2 4 rfl, bC_ F.out.b3 10 rfl⟩ (fun hHeld => ?_)
    clear hK K
    refine norm_ (a' := ?_) ?_ ?_
    rotate_left
    ·show Act.put _ (some 30) _ = _
     simp only [Act.put, la_, lb_, lc_, i64_w, i32_w]
     rfl
    refine qon_ 14 (some 33) (dB 18 32767) ?_
    refine qon_ 15 (some 34) (dB 18 65535) ?_
    refine qon_ 16 (some 35) (dB 18 131071) ?_
    refine qon_ 17 (some 6) (dB 18 262143) ?_
    refine done_ (by kernel_rfl) ?_
    (first | refine deed_then (fun w' => Aside0 (Rf w w' g2 g3 g4 c rg (tabc (.slice A0 l.length c0) typ host gen apt))) F ?_ | refine deed_exit (fun w' => Aside0 (Rf w w' g2 g3 g4 c rg (tabc (.slice A0 l.length c0) typ host gen apt))) F ?_)
    intro wv FV
    clear F
    have F := FV
    clear FV
    obtain ⟨hct0, hct1, hct2, hct3, hct4⟩ := cells5 F.out.b2
    obtain ⟨-, -, hcc2, -, -, -, -, -, -, -, hcc10, hcc11, -, -⟩ := cells14 F.out.b3
    obtain ⟨hcr0, hcr1, hcr2, hcr3, hcr4, hcr5, hcr6⟩ := cells7 F.out.b4
    have hfr0 := bF_ F.out.b4 0
    have hfr1 := bF_ F.out.b4 1
    have hfr2 := bF_ F.out.b4 2
    have hfr3 := bF_ F.out.b4 3
    have hfr4 := bF_ F.out.b4 4
    have hfr5 := bF_ F.out.b4 5
    have hfr6 := bF_ F.out.b4 6
    have hft0 := bF_ F.out.b2 0
    have hft1 := bF_ F.out.b2 1
    have hft2 := bF_ F.out.b2 2
    have hft3 := bF_ F.out.b2 3
    have hft4 := bF_ F.out.b2 4
    go_wp2
    go_loopw [7, 8, 9] (fun sv tv iv wr => ∃ i : Nat, i ≤ l.length ∧ iv = .int .i64 i ∧ Aside0 (Rf w wr g2 g3 g4 c rg (tabc (.slice A0 l.length c0) typ host gen apt)) ∧ Aside0 (Kd.R k53 53 wr w.heap.size (fun k_ => True ∧ some k_ ≠ tv.ownBlock) sv ((l.take i).filter (sty c false))) ∧ Aside0 (Kd.R k53 53 wr w.heap.size (fun k_ => True ∧ some k_ ≠ sv.ownBlock) tv ((l.take i).filter (stk c false)))) (fun _ _ iv _ => l.length - (intOf iv).toNat)
    case atStart => exact ⟨0, Nat.zero_le _, rfl, F, ⟨Kd.R_nil _ _ _ _ _⟩, ⟨Kd.R_nil _ _ _ _ _⟩⟩
    case round =>
      clear F hct0 hct1 hct2 hct3 hct4 hcc2 hcc10 hcc11 hft0 hft1 hft2 hft3 hft4 hcr0 hfr0 hcr1 hfr1 hcr2 hfr2 hcr3 hfr3 hcr4 hfr4 hcr5 hfr5 hcr6 hfr6
      obtain ⟨i, hi, rfl, F, RS, RT⟩ := hrel
      by_cases hlt : i < l.length
      · clear hi
        have HI := aS_ (show i ≤ 1000 by have := HN.out; omega)
        have HLT := aS_ hlt
        have p0 : (0 : Int) ≤ (i : Int) := Int.natCast_nonneg i
        have q0 : (i : Int) < (l.length : Int) := by omega
        obtain ⟨ad, ea, hx0, hx1⟩ := at_T53 (Kd.C_below HR.out F.out.hb) (i : Int) p0 q0
        cases ea
        obtain ⟨s, hs⟩ : ∃ s, s = (rd_T53 l i).f0 := ⟨_, rfl⟩
        obtain ⟨ky, hky⟩ : ∃ ky, ky = (rd_T53 l i).f1 := ⟨_, rfl⟩
        have HRD := aS_ (show rd_T53 l i = (⟨s, ky⟩ : S53) by rw [hs, hky])
        rw [← hs] at hx0
        rw [← hky] at hx1
        simp only [Int.toNat_natCast] at hx0 hx1
        have HX0 := aS_ hx0
        have HX1 := aS_ hx1
        have FS := aS_ (And.intro (flt_succ (sty c false) l i hlt) (flt_succ (stk c false) l i hlt))
        have LS := aS_ (And.intro (flt_len (sty c false) l i) (flt_len (stk c false) l i))
        obtain ⟨As, cs, es⟩ := Kd.R_slice RS.out
        obtain ⟨At, ct, et⟩ := Kd.R_slice RT.out
        obtain ⟨xs, hxs⟩ : ∃ xs, xs = (l.take i).filter (sty c false) := ⟨_, rfl⟩
        obtain ⟨ys, hys⟩ : ∃ ys, ys = (l.take i).filter (stk c false) := ⟨_, rfl⟩
        rw [← hxs] at RS es FS LS
        rw [← hys] at RT et FS LS
        subst es
        subst et
        clear hs hky hxs hys hx0 hx1
        have d3 : decide ((i : Int) < (l.length : Int)) = true := decide_eq_true q0
        obtain ⟨hct0, hct1, hct2, hct3, hct4⟩ := cells5 F.out.b2
        obtain ⟨b1, hb1⟩ : ∃ b1, (s.toList == c.f2.toList) = b1 := ⟨_, rfl⟩
        obtain ⟨kb, hkb⟩ : ∃ kb, (ky == c.f10) = kb := ⟨_, rfl⟩
        have HQ := aS_ hb1
        have HKB := aS_ hkb
        cases b1
        · have hne : (s.toList != c.f2.toList) = true := by rw [bne, hb1]; rfl
          cases kb
          · skip
            go_wp2
            have F1 := aS_ (F.out.below (below_drew (Below.refl _ _)))
            clear F
            have F := F1
            clear F1
            have RS1 := aS_ (Kd.R_below RS.out (below_drew (Below.refl _ _)))
            have RT1 := aS_ (Kd.R_below RT.out (below_drew (Below.refl _ _)))
            clear RS RT
            have RS := RS1
            have RT := RT1
            clear RS1 RT1
            refine start_ (n := 23) (S := fun w' => w'.cell? ⟨g2, 0, none⟩ = some (.slice (some ad) l.length c0) ∧ w'.cell? (ad.add (i * 2)) = some (.string s) ∧ w'.cell? ⟨(ad.add (i * 2)).block, (ad.add (i * 2)).off + 1, none⟩ = some (.int .u64 ky) ∧ w'.cell? ⟨g3, 2, none⟩ = some (.string c.f2) ∧ w'.cell? ⟨g3, 10, none⟩ = some (.int .u64 c.f10)) (ds := []) #[false, false, false, false, false, false, false, false, false, false, false, false, false, false, false, false, false, false, false, false, false, false, false] (by kernel_rfl) rfl rfl ⟨bC_ F.out.b2 0 rfl, HX0.out, HX1.out, bC_ F.out.b3 2 rfl, bC_ F.out.b3 10 rfl⟩ (fun hHeld => ?_)
            generalize wr.drew = wd at F RS RT hHeld ⊢
            refine qon_ 0 (some 52) (dB 23 1) ?_
            refine qon_ 2 (some 54) (dB 23 5) ?_
            refine qon_ 6 (some 58) (dB 23 69) ?_
            refine qtk_ 1 (some 53) (dB 23 71) hHeld ?_
            refine qon_ 3 (some 55) (dB 23 79) ?_
            refine qon_ 4 (some 56) (dB 23 95) ?_
            refine qtk_ 5 (some 57) (dB 23 127) hHeld ?_
            refine qtk_ 7 (some 59) (dB 23 255) hHeld ?_
            refine qon_ 8 (some 60) (dB 23 511) ?_
            refine qon_ 9 (some 61) (dB 23 1023) ?_
            refine qon_ 10 (some 62) (dB 23 2047) ?_
            refine qon_ 11 (some 63) (dB 23 4095) ?_
            refine qon_ 12 (some 64) (dB 23 8191) ?_
            refine qon_ 14 (some 66) (dB 23 24575) ?_
            refine qon_ 18 (some 70) (dB 23 286719) ?_
            refine qtk_ 13 (some 65) (dB 23 294911) hHeld ?_
            refine qon_ 15 (some 67) (dB 23 327679) ?_
            refine qon_ 16 (some 68) (dB 23 393215) ?_
            refine qtk_ 17 (some 69) (dB 23 524287) hHeld ?_
            refine qtk_ 19 (some 71) (dB 23 1048575) hHeld ?_
            refine qon_ 20 (some 72) (dB 23 2097151) ?_
            refine qon_ 21 (some 73) (dB 23 4194303) ?_
            refine qon_ 22 (some 74) (dB 23 8388607) ?_
            refine done_ (by kernel_rfl) ?_
            obtain ⟨hw0, hw1, hw2, hw3, hw4⟩ := hHeld
            go_wp2_with (first
              | ((with_reducible refine gate_builtin (b := .append) (xs := #[.tmp 83, .tmp 89]) rfl ?_); at_builtin; refine Kd.R_append k53 (w0 := w) w.heap.size rfl (.tmp 83) (.tmp 89) 22 53 (.agg #[(.string ⟨#[]⟩), (.int .u64 0)]) 24 rfl Tryd.underlying22 info53 rfl (by decide) (by omega) (.slice As xs.length cs) xs (⟨s, ky⟩ : S53) [.string s, .int .u64 ky] (fun k_ => True ∧ some k_ ≠ (Value.slice At ys.length ct).ownBlock) (fun _ => False) rfl rfl ?aP (fun _ hk => hk.elim) ?aF ?aO ?aB ?aS ?aL ?_; (case aP => exact k53_mkM _ _ _ (⟨s, ky⟩ : S53)); (case aB => exact F.out.hb); (case aF => exact fresh_ne RT.out); (case aO => exact RS.out); (case aS => exact below_size F.out.hb); (case aL => have := LS.out; have := HI.out; omega); intro v1 y1 ho hb hg hat; have F1 := aS_ (F.out.grown RS.out hg hb); have RA := aS_ (Kd.R_after RT.out hg hat); have RB := aS_ ho; clear F RS RT hb hg hat ho hct0 hct1 hct2 hct3 hct4; have F := F1; clear F1))
            go_roundw
            case rel =>
              have hst := stk_val c false s ky _ _ HQ.out HKB.out
              refine ⟨i + 1, HLT.out, deed_next i HI.out, F, ⟨?_⟩, ⟨?_⟩⟩
              · rw [FS.out.1, HRD.out, hst.2]
                rw [if_pos (by decide)]
                exact RB.out
              · rw [FS.out.2, HRD.out, hst.1]
                rw [if_neg (by decide), List.append_nil]
                exact RA.out
            case measure => exact deed_less i l.length HI.out HLT.out
          · skip
            go_wp2
            have F1 := aS_ (F.out.below (below_drew (Below.refl _ _)))
            clear F
            have F := F1
            clear F1
            have RS1 := aS_ (Kd.R_below RS.out (below_drew (Below.refl _ _)))
            have RT1 := aS_ (Kd.R_below RT.out (below_drew (Below.refl _ _)))
            clear RS RT
            have RS := RS1
            have RT := RT1
            clear RS1 RT1
            refine start_ (n := 23) (S := fun w' => w'.cell? ⟨g2, 0, none⟩ = some (.slice (some ad) l.length c0) ∧ w'.cell? (ad.add (i * 2)) = some (.string s) ∧ w'.cell? ⟨(ad.add (i * 2)).block, (ad.add (i * 2)).off + 1, none⟩ = some (.int .u64 ky) ∧ w'.cell? ⟨g3, 2, none⟩ = some (.string c.f2) ∧ w'.cell? ⟨g3, 10, none⟩ = some (.int .u64 c.f10)) (ds := []) #[false, false, false, false, false, false, false, false, false, false, false, false, false, false, false, false, false, false, false, false, false, false, false] (by kernel_rfl) rfl rfl ⟨bC_ F.out.b2 0 rfl, HX0.out, HX1.out, bC_ F.out.b3 2 rfl, bC_ F.out.b3 10 rfl⟩ (fun hHeld => ?_)
            generalize wr.drew = wd at F RS RT hHeld ⊢
            refine qon_ 0 (some 52) (dB 23 1) ?_
            refine qon_ 2 (some 54) (dB 23 5) ?_
            refine qon_ 6 (some 58) (dB 23 69) ?_
            refine qtk_ 1 (some 53) (dB 23 71) hHeld ?_
            refine qon_ 3 (some 55) (dB 23 79) ?_
            refine qon_ 4 (some 56) (dB 23 95) ?_
            refine qtk_ 5 (some 57) (dB 23 127) hHeld ?_
            refine qtk_ 7 (some 59) (dB 23 255) hHeld ?_
            refine qon_ 8 (some 60) (dB 23 511) ?_
            refine qon_ 9 (some 61) (dB 23 1023) ?_
            refine qon_ 10 (some 62) (dB 23 2047) ?_
            refine qon_ 11 (some 63) (dB 23 4095) ?_
            refine qon_ 12 (some 64) (dB 23 8191) ?_
            refine qon_ 14 (some 66) (dB 23 24575) ?_
            refine qon_ 18 (some 70) (dB 23 286719) ?_
            refine qtk_ 13 (some 65) (dB 23 294911) hHeld ?_
            refine qon_ 15 (some 67) (dB 23 327679) ?_
            refine qon_ 16 (some 68) (dB 23 393215) ?_
            refine qtk_ 17 (some 69) (dB 23 524287) hHeld ?_
            refine qtk_ 19 (some 71) (dB 23 1048575) hHeld ?_
            refine qon_ 20 (some 72) (dB 23 2097151) ?_
            refine qon_ 21 (some 73) (dB 23 4194303) ?_
            refine qon_ 22 (some 74) (dB 23 8388607) ?_
            refine done_ (by kernel_rfl) ?_
            obtain ⟨hw0, hw1, hw2, hw3, hw4⟩ := hHeld
            go_wp2_with (first
              | ((with_reducible refine gate_builtin (b := .append) (xs := #[.tmp 75, .tmp 81]) rfl ?_); at_builtin; refine Kd.R_append k53 (w0 := w) w.heap.size rfl (.tmp 75) (.tmp 81) 22 53 (.agg #[(.string ⟨#[]⟩), (.int .u64 0)]) 24 rfl Tryd.underlying22 info53 rfl (by decide) (by omega) (.slice At ys.length ct) ys (⟨s, ky⟩ : S53) [.string s, .int .u64 ky] (fun k_ => True ∧ some k_ ≠ (Value.slice As xs.length cs).ownBlock) (fun _ => False) rfl rfl ?aP (fun _ hk => hk.elim) ?aF ?aO ?aB ?aS ?aL ?_; (case aP => exact k53_mkM _ _ _ (⟨s, ky⟩ : S53)); (case aB => exact F.out.hb); (case aF => exact fresh_ne RS.out); (case aO => exact RT.out); (case aS => exact below_size F.out.hb); (case aL => have := LS.out; have := HI.out; omega); intro v1 y1 ho hb hg hat; have F1 := aS_ (F.out.grown RT.out hg hb); have RA := aS_ (Kd.R_after RS.out hg hat); have RB := aS_ ho; clear F RS RT hb hg hat ho hct0 hct1 hct2 hct3 hct4; have F := F1; clear F1))
            go_roundw
            case rel =>
              have hst := stk_val c false s ky _ _ HQ.out HKB.out
              refine ⟨i + 1, HLT.out, deed_next i HI.out, F, ⟨?_⟩, ⟨?_⟩⟩
              · rw [FS.out.1, HRD.out, hst.2]
                rw [if_neg (by decide), List.append_nil]
                exact RA.out
              · rw [FS.out.2, HRD.out, hst.1]
                rw [if_pos (by decide)]
                exact RB.out
            case measure => exact deed_less i l.length HI.out HLT.out
        · have hne : (s.toList != c.f2.toList) = false := by rw [bne, hb1]; rfl
          cases kb
          all_goals
            go_wp2
            have F1 := aS_ (F.out.below (below_drew (Below.refl _ _)))
            clear F
            have F := F1
            clear F1
            have RS1 := aS_ (Kd.R_below RS.out (below_drew (Below.refl _ _)))
            have RT1 := aS_ (Kd.R_below RT.out (below_drew (Below.refl _ _)))
            clear RS RT
            have RS := RS1
            have RT := RT1
            clear RS1 RT1
            refine start_ (n := 23) (S := fun w' => w'.cell? ⟨g2, 0, none⟩ = some (.slice (some ad) l.length c0) ∧ w'.cell? (ad.add (i * 2)) = some (.string s) ∧ w'.cell? ⟨(ad.add (i * 2)).block, (ad.add (i * 2)).off + 1, none⟩ = some (.int .u64 ky) ∧ w'.cell? ⟨g3, 2, none⟩ = some (.string c.f2) ∧ w'.cell? ⟨g3, 10, none⟩ = some (.int .u64 c.f10)) (ds := []) #[false, false, false, false, false, false, false, false, false, false, false, false, false, false, false, false, false, false, false, false, false, false, false] (by kernel_rfl) rfl rfl ⟨bC_ F.out.b2 0 rfl, HX0.out, HX1.out, bC_ F.out.b3 2 rfl, bC_ F.out.b3 10 rfl⟩ (fun hHeld => ?_)
            generalize wr.drew = wd at F RS RT hHeld ⊢
            refine qon_ 0 (some 52) (dB 23 1) ?_
            refine qon_ 2 (some 54) (dB 23 5) ?_
            refine qon_ 6 (some 58) (dB 23 69) ?_
            refine qtk_ 1 (some 53) (dB 23 71) hHeld ?_
            refine qon_ 3 (some 55) (dB 23 79) ?_
            refine qon_ 4 (some 56) (dB 23 95) ?_
            refine qtk_ 5 (some 57) (dB 23 127) hHeld ?_
            refine qtk_ 7 (some 59) (dB 23 255) hHeld ?_
            refine qon_ 8 (some 60) (dB 23 511) ?_
            refine qon_ 9 (some 61) (dB 23 1023) ?_
            refine qof_ 10 (some 62) (dB 23 2047) ?_
            refine qof_ 11 (some 63) (dB 23 4095) ?_
            refine qof_ 12 (some 64) (dB 23 8191) ?_
            refine qof_ 13 (some 65) (dB 23 16383) ?_
            refine qof_ 14 (some 66) (dB 23 32767) ?_
            refine qof_ 15 (some 67) (dB 23 65535) ?_
            refine qof_ 16 (some 68) (dB 23 131071) ?_
            refine qof_ 17 (some 69) (dB 23 262143) ?_
            refine qof_ 18 (some 70) (dB 23 524287) ?_
            refine qof_ 19 (some 71) (dB 23 1048575) ?_
            refine qof_ 20 (some 72) (dB 23 2097151) ?_
            refine qof_ 21 (some 73) (dB 23 4194303) ?_
            refine qon_ 22 (some 74) (dB 23 8388607) ?_
            refine done_ (by kernel_rfl) ?_
            obtain ⟨hw0, hw1, hw2, hw3, hw4⟩ := hHeld
            go_wp2_with (first
              | ((with_reducible refine gate_builtin (b := .append) (xs := #[.tmp 83, .tmp 89]) rfl ?_); at_builtin; refine Kd.R_append k53 (w0 := w) w.heap.size rfl (.tmp 83) (.tmp 89) 22 53 (.agg #[(.string ⟨#[]⟩), (.int .u64 0)]) 24 rfl Tryd.underlying22 info53 rfl (by decide) (by omega) (.slice As xs.length cs) xs (⟨s, ky⟩ : S53) [.string s, .int .u64 ky] (fun k_ => True ∧ some k_ ≠ (Value.slice At ys.length ct).ownBlock) (fun _ => False) rfl rfl ?aP (fun _ hk => hk.elim) ?aF ?aO ?aB ?aS ?aL ?_; (case aP => exact k53_mkM _ _ _ (⟨s, ky⟩ : S53)); (case aB => exact F.out.hb); (case aF => exact fresh_ne RT.out); (case aO => exact RS.out); (case aS => exact below_size F.out.hb); (case aL => have := LS.out; have := HI.out; omega); intro v1 y1 ho hb hg hat; have F1 := aS_ (F.out.grown RS.out hg hb); have RA := aS_ (Kd.R_after RT.out hg hat); have RB := aS_ ho; clear F RS RT hb hg hat ho hct0 hct1 hct2 hct3 hct4; have F := F1; clear F1))
            go_roundw
            case rel =>
              have hst := stk_val c false s ky _ _ HQ.out HKB.out
              refine ⟨i + 1, HLT.out, deed_next i HI.out, F, ⟨?_⟩, ⟨?_⟩⟩
              · rw [FS.out.1, HRD.out, hst.2]
                rw [if_pos (by decide)]
                exact RB.out
              · rw [FS.out.2, HRD.out, hst.1]
                rw [if_neg (by decide), List.append_nil]
                exact RA.out
            case measure => exact deed_less i l.length HI.out HLT.out
      · have hil : i = l.length := by omega
        subst hil
        rw [List.take_length, ← HXS.out] at RS
        rw [List.take_length, ← HYS.out] at RT
        have d3 : decide ((l.length : Int) < (l.length : Int)) = false := decide_eq_false (by omega)
        obtain ⟨As, cs, es⟩ := Kd.R_slice RS.out
        obtain ⟨At, ct, et⟩ := Kd.R_slice RT.out
        subst es
        subst et
        obtain ⟨hct0, hct1, hct2, hct3, hct4⟩ := cells5 F.out.b2
        obtain ⟨-, -, hcc2, -, -, -, -, -, -, -, hcc10, hcc11, -, -⟩ := cells14 F.out.b3
        obtain ⟨hcr0, hcr1, hcr2, hcr3, hcr4, hcr5, hcr6⟩ := cells7 F.out.b4
        have hfr0 := bF_ F.out.b4 0
        have hfr1 := bF_ F.out.b4 1
        have hfr2 := bF_ F.out.b4 2
        have hfr3 := bF_ F.out.b4 3
        have hfr4 := bF_ F.out.b4 4
        have hfr5 := bF_ F.out.b4 5
        have hfr6 := bF_ F.out.b4 6
        have hft0 := bF_ F.out.b2 0
        have hft1 := bF_ F.out.b2 1
        have hft2 := bF_ F.out.b2 2
        have hft3 := bF_ F.out.b2 3
        have hft4 := bF_ F.out.b2 4
        have RS1 := aS_ (ok_any RS.out)
        have RT1 := aS_ (ok_any RT.out)
        clear RS RT
        have RS := RS1
        have RT := RT1
        clear RS1 RT1
        cases em
        all_goals
          go_wp2_with (first
            | (go_at_call 63; refine deed_call (fun w' => Aside0 (Rf w w' g2 g3 g4 c rg (tabc (.slice As xs.length cs) typ host ((gen + 1) % 4294967296) apt)) ∧ Aside0 (Kd.R k53 53 w' w.heap.size (fun _ => True) (.slice As xs.length cs) xs) ∧ Aside0 (Kd.R k53 53 w' w.heap.size (fun _ => True) (.slice At ys.length ct) ys)) ⟨⟨(F.out.put 0 _ rfl).put 3 _ rfl⟩, ⟨row_two F.out RS.out (by decide) 0 3 _ _⟩, ⟨row_two F.out RT.out (by decide) 0 3 _ _⟩⟩ ?_; rintro w15 ⟨F1, RS1, RT1⟩; clear F RS RT hct0 hct1 hct2 hct3 hct4 hft0 hft1 hft2 hft3 hft4 hcr0 hfr0 hcr1 hfr1 hcr2 hfr2 hcr3 hfr3 hcr4 hfr4 hcr5 hfr5 hcr6 hfr6; have F := F1; have RS := RS1; have RT := RT1; clear F1 RS1 RT1; refine (headgateref11_hold.calls c.f11 c.f2 h1 h2 _ HH.out).mono ?_; rintro e w16 ⟨rfl, hb⟩; have F1 := aS_ (F.out.below hb); have RS1 := aS_ (Kd.R_below RS.out hb); have RT1 := aS_ (Kd.R_below RT.out hb); clear F RS RT hb; have F := F1; have RS := RS1; have RT := RT1; clear F1 RS1 RT1; obtain ⟨hct0, hct1, hct2, hct3, hct4⟩ := cells5 F.out.b2; obtain ⟨hcr0, hcr1, hcr2, hcr3, hcr4, hcr5, hcr6⟩ := cells7 F.out.b4; have hfr0 := bF_ F.out.b4 0; have hfr1 := bF_ F.out.b4 1; have hfr2 := bF_ F.out.b4 2; have hfr3 := bF_ F.out.b4 3; have hfr4 := bF_ F.out.b4 4; have hfr5 := bF_ F.out.b4 5; have hfr6 := bF_ F.out.b4 6; have hft0 := bF_ F.out.b2 0; have hft1 := bF_ F.out.b2 1; have hft2 := bF_ F.out.b2 2; have hft3 := bF_ F.out.b2 3; have hft4 := bF_ F.out.b2 4))
          refine Hand.at_world (fun w' => Aside0 (Rf w w' g2 g3 g4 c rg (tabc (.slice As xs.length cs) h1 h2 ((gen + 1) % 4294967296) apt)) ∧ Aside0 (Kd.R k53 53 w' w.heap.size (fun _ => True) (.slice As xs.length cs) xs) ∧ Aside0 (Kd.R k53 53 w' w.heap.size (fun _ => True) (.slice At ys.length ct) ys)) ⟨⟨(F.out.put 1 _ rfl).put 2 _ rfl⟩, ⟨row_two F.out RS.out (by decide) 1 2 _ _⟩, ⟨row_two F.out RT.out (by decide) 1 2 _ _⟩⟩ ?_
          rintro w18 ⟨F1, RS1, RT1⟩
          clear F RS RT hct0 hct1 hct2 hct3 hct4 hft0 hft1 hft2 hft3 hft4 hcr0 hfr0 hcr1 hfr1 hcr2 hfr2 hcr3 hfr3 hcr4 hfr4 hcr5 hfr5 hcr6 hfr6
          have F := F1
          have RS := RS1
          have RT := RT1
          clear F1 RS1 RT1
          have F1 := aS_ (F.out.below (below_drew (Below.refl _ _)))
          clear F
          have F := F1
          clear F1
          have RS1 := aS_ (Kd.R_below RS.out (below_drew (Below.refl _ _)))
          have RT1 := aS_ (Kd.R_below RT.out (below_drew (Below.refl _ _)))
          clear RS RT
          have RS := RS1
          have RT := RT1
          clear RS1 RT1
          refine start_ (n := 5) (S := fun w' => w'.cell? ⟨g2, 0, none⟩ = some (.slice As xs.length cs) ∧ w'.cell? ⟨g2, 1, none⟩ = some (.int .i64 h1) ∧ w'.cell? ⟨g2, 2, none⟩ = some (.string h2) ∧ w'.cell? ⟨g2, 3, none⟩ = some (.int .u32 ((gen + 1) % 4294967296)) ∧ w'.cell? ⟨g2, 4, none⟩ = some (.bool apt)) (ds := [4]) #[false, false, false, false, false] (by kernel_rfl) rfl rfl ⟨bC_ F.out.b2 0 rfl, bC_ F.out.b2 1 rfl, bC_ F.out.b2 2 rfl, bC_ F.out.b2 3 rfl, bC_ F.out.b2 4 rfl⟩ (fun hHeld => ?_)
          generalize w18.drew = w19 at F RS RT hHeld ⊢
          refine qon_ 1 (some 114) (dB 5 2) ?_
          refine qtk_ 0 (some 113) (dB 5 3) hHeld ?_
          refine one_ (i := 2) (N := some 115) (dB 5 7) rfl rfl (by kernel_rfl) (by decide) (fun K hK => ?_)
          refine goes_ Tryd.func41 (by kernel_rfl) rfl #[.slice At ys.length ct, .string (⟨#[]⟩ : ByteArray), .int .i64 2] (by rfl) rfl rfl (by simp only [List.map_toArray, List.map_cons, List.map_nil]; rfl) ?_
          with_reducible refine (headgateref11_events.calls k At ct ys (⟨#[]⟩ : ByteArray) 2 evs _ (Kd.R_reads' RT.out).2.2 (Kd.R_reads' RT.out).2.1 HEV.out).mono ?_
          rintro e_ w20 ⟨v5, rfl, hv, hb⟩
          have RV := aS_ (R_re46 hv (below_size F.out.hb) (fun _ _ _ => trivial) (ok' := fun _ => True))
          obtain ⟨Av, cv, ev_⟩ := Kd.R_slice hv
          subst ev_
          clear hv
          have F1 := aS_ (F.out.below hb)
          have RS1 := aS_ (Kd.R_below RS.out hb)
          have RT1 := aS_ (Kd.R_below RT.out hb)
          clear F RS RT hb
          have F := F1
          have RS := RS1
          have RT := RT1
          clear F1 RS1 RT1
          refine ⟨_, rfl, ?_⟩
          refine hK.out _ _ ⟨bC_ F.out.b2 0 rfl, bC_ F.out.b2 1 rfl, bC_ F.out.b2 2 rfl, bC_ F.out.b2 3 rfl, bC_ F.out.b2 4 rfl⟩ (fun hHeld => ?_)
          clear hK K
          refine norm_ (a' := ?_) ?_ ?_
          rotate_left
          ·show Act.put _ (some 115) _ = _
           simp only [Act.put, la_, lb_, lc_, i64_w, i32_w]
           rfl
          refine qon_ 3 (some 116) (dB 5 15) ?_
          refine last_ (i := 4) (N := none) (dB 5 31) rfl rfl (by kernel_rfl) (by decide) (fun K hK => ?_)
          obtain ⟨hcr0, hcr1, hcr2, hcr3, hcr4, hcr5, hcr6⟩ := cells7 F.out.b4
          have hfr0 := bF_ F.out.b4 0
          have hfr1 := bF_ F.out.b4 1
          have hfr2 := bF_ F.out.b4 2
          have hfr3 := bF_ F.out.b4 3
          have hfr4 := bF_ F.out.b4 4
          have hfr5 := bF_ F.out.b4 5
          have hfr6 := bF_ F.out.b4 6
          refine skip_ (w1 := ?_) (by rfl) rfl ?_ ?_
          rotate_left
          ·go_simp
           rfl
          refine hK.out _ _ ?_
          clear hK K
          refine done_ (by kernel_rfl) ?_
          go_wp2
          (try simp only [Exit.inBlock, Exit.then])
          refine ret_out rfl rfl rfl (F.out.out _ _ _ _ _ _ _).1 hu40 rfl rfl ?_
          exact ⟨_, _, rfl, row_out RS.out F.out.b4 (by decide) _ _ _ _ _ _ _, row_out RV.out F.out.b4 (by decide) _ _ _ _ _ _ _, (F.out.out _ _ _ _ _ _ _).2⟩
theorem rf_pre_stayk (k : Nat) (A0 : Option Addr) (c0 : Nat) (l : List S53) (typ : Int) (host : ByteArray) (gen : Int) (apt : Bool) (c : S31) (rg : Value) (w : World) (hr : Kd.C k53 w A0 l.length l) (hc : l.length ≤ c0) (hn : l.length ≤ 1000) (hb4 : decide (4 < typ) = false) (hz : (c.f10 == 0) = false) (hal : headgateref11_alone.f typ = some true) (kh : Int) (hkh : headgateref11_Key.f k l typ host gen apt host = some kh) (hq : (kh == c.f10) = false) (evs : List S46) (hev : headgateref11_events.f k (l.filter (stk c false)) (⟨#[]⟩ : ByteArray) 2 = some evs) :
    Calls Tryd.prog 42 #[.agg (tabc (.slice A0 l.length c0) typ host gen apt), .agg (cmdc c rg)] w fun e w' => ((((l.filter (stk c false)).length : Int) == 0) = true ∧ e = .returned (.agg (outd (.slice A0 l.length c0) typ host gen apt (.slice none 0 0) 2)) ∧ Below w.heap.size w w') ∨ ((((l.filter (stk c false)).length : Int) == 0) = false ∧ (∃ v0 v5, e = .returned (.agg (outd v0 typ host ((gen + 1) % 4294967296) apt v5 1)) ∧ Kd.R k53 53 w' w.heap.size (fun _ => True) v0 (l.filter (sty c false)) ∧ Kd.R k46 46 w' w.heap.size (fun _ => True) v5 evs ∧ Below w.heap.size w w')) := by
  have hu27 := Tryd.underlying27
  have hu24 := Tryd.underlying24
  have hu31 := Tryd.underlying31
  have hu40 := Tryd.underlying40
  have hu53 := Tryd.underlying53
  have HR := aS_ hr
  have HC := aS_ hc
  have HB := aS_ (Below.refl w.heap.size w)
  clear hr hc
  unfold tabc cmdc
  have HN := aS_ hn
  clear hn
  obtain ⟨xs, hxs⟩ : ∃ xs, xs = l.filter (sty c false) := ⟨_, rfl⟩
  obtain ⟨ys, hys⟩ : ∃ ys, ys = l.filter (stk c false) := ⟨_, rfl⟩
  rw [← hxs, ← hys]
  rw [← hys] at hev
  have HXS := aS_ hxs
  have HYS := aS_ hys
  clear hxs hys
  obtain ⟨em, hem⟩ : ∃ em, ((ys.length : Int) == 0) = em := ⟨_, rfl⟩
  have HEV := aS_ hev
  clear hev
  have HAL := aS_ hal
  clear hal
  have HKH := aS_ hkh
  clear hkh
  go_enter Tryd.func42, Tryd.ntmps42
  go_wp2_with (first
    | ((with_reducible refine gate_dst (N := 2) rfl ?_); refine bX_ (N := 2) (cs := tabc (.slice A0 l.length c0) typ host gen apt) (t := 27) ?hr ?_; (case hr => first | (go_simp; done) | (go_simp; rfl)); intro g2 hgg2 w2 hxg2 hyg2; have X2 := aS_ hxg2; have Y2 := aS_ hyg2; have Z2 := aS_ hgg2; clear hxg2 hyg2 hgg2)
    | ((with_reducible refine gate_dst (N := 3) rfl ?_); refine bX_ (N := 3) (cs := cmdc c rg) (t := 31) ?hr ?_; (case hr => first | (go_simp; done) | (go_simp; rfl)); intro g3 hgg3 w3 hxg3 hyg3; have X3 := aS_ hxg3; have Y3 := aS_ hyg3; have Z3 := aS_ (show g2 < g3 by rw [hgg3]; exact blk_lt X2.out); clear hxg3 hyg3 hgg3)
    | ((with_reducible refine gate_dst (N := 4) rfl ?_); refine bX_ (N := 4) (cs := outc) (t := 40) ?hr ?_; (case hr => first | (go_simp; done) | (go_simp; rfl)); intro g4 hgg4 w4 hxg4 hyg4; have hlt3 := blk_lt (blk_below X2.out Y3.out); have hlt4 := blk_lt X3.out; have hz2 := below_size (below_step HB.out (below_step Y2.out Y3.out)); have F := aS_ (Rf.mk (w0 := w) (by have := Z2.out; have := below_size HB.out; omega) (by omega) (by omega) (by have := Z3.out; omega) (by omega) (blk_below (blk_below X2.out Y3.out) hyg4) (blk_below X3.out hyg4) hxg4 (below_step HB.out (below_step Y2.out (below_step Y3.out hyg4)))); have n42 := F.out.n42; have n24 := F.out.n42.symm; clear hlt3 hlt4 hz2 X2 X3 Y2 Y3 Z2 Z3 hxg4 hyg4 hgg4; obtain ⟨hct0, hct1, hct2, hct3, hct4⟩ := cells5 F.out.b2; obtain ⟨-, -, hcc2, -, -, -, -, -, -, -, hcc10, hcc11, -, -⟩ := cells14 F.out.b3; obtain ⟨hcr0, hcr1, hcr2, hcr3, hcr4, hcr5, hcr6⟩ := cells7 F.out.b4; have hfr0 := bF_ F.out.b4 0; have hfr1 := bF_ F.out.b4 1; have hfr2 := bF_ F.out.b4 2; have hfr3 := bF_ F.out.b4 3; have hfr4 := bF_ F.out.b4 4; have hfr5 := bF_ F.out.b4 5; have hfr6 := bF_ F.out.b4 6))
  clear hct0 hct1 hct2 hct3 hct4 hcc2 hcc10 hcc11 hcr0 hfr0 hcr1 hfr1 hcr2 hfr2 hcr3 hfr3 hcr4 hfr4 hcr5 hfr5 hcr6 hfr6
  have F1 := aS_ (F.out.below (below_drew (Below.refl _ _)))
  clear F
  have F := F1
  clear F1
  refine start_ (n := 18) (S := fun w' => w'.cell? ⟨g2, 0, none⟩ = some (.slice A0 l.length c0) ∧ w'.cell? ⟨g2, 1, none⟩ = some (.int .i64 typ) ∧ w'.cell? ⟨g2, 2, none⟩ = some (.string host) ∧ w'.cell? ⟨g2, 3, none⟩ = some (.int .u32 gen) ∧ w'.cell? ⟨g2, 4, none⟩ = some (.bool apt) ∧ w'.cell? ⟨g3, 10, none⟩ = some (.int .u64 c.f10)) (ds := []) #[false, false, false, false, false, false, false, false, false, false, false, false, false, false, false, false, false, false] (by kernel_rfl) rfl rfl ⟨bC_ F.out.b2 0 rfl, bC_ F.out.b2 1 rfl, bC_ F.out.b2 2 rfl, bC_ F.out.b2 3 rfl, bC_ F.out.b2 4 rfl, bC_ F.out.b3 10 rfl⟩ (fun hHeld => ?_)
  generalize w4.drew = w5 at F hHeld ⊢
  refine qon_ 0 (some 19) (dB 18 1) ?_
  refine qon_ 1 (some 20) (dB 18 3) ?_
  refine qon_ 2 (some 21) (dB 18 7) ?_
  refine qon_ 3 (some 22) (dB 18 15) ?_
  refine qtk_ 4 (some 23) (dB 18 31) hHeld ?_
  refine one_ (i := 5) (N := some 24) (dB 18 63) rfl rfl (by kernel_rfl) (by decide) (fun K hK => ?_)
  refine goes_ Tryd.func43 (by kernel_rfl) rfl #[.int .i64 typ] (by rfl) rfl rfl (by simp only [List.map_toArray, List.map_cons, List.map_nil]; rfl) ?_
  with_reducible refine (headgateref11_alone.calls typ true _ HAL.out).mono ?_
  rintro e_ w6 ⟨rfl, hd⟩
  have hb := hd.below
  clear hd
  have F1 := aS_ (F.out.below hb)
  clear F hb
  have F := F1
  clear F1
  refine ⟨_, rfl, ?_⟩
  refine hK.out _ _ ⟨bC_ F.out.b2 0 rfl, bC_ F.out.b2 1 rfl, bC_ F.out.b2 2 rfl, bC_ F.out.b2 3 rfl, bC_ F.out.b2 4 rfl, bC_ F.out.b3 10 rfl⟩ (fun hHeld => ?_)
  clear hK K
  refine norm_ (a' := ?_) ?_ ?_
  rotate_left
  ·show Act.put _ (some 24) _ = _
   simp only [Act.put, la_, lb_, lc_, i64_w, i32_w]
   rfl
  refine qon_ 6 (some 25) (dB 18 127) ?_
  refine qon_ 8 (some 27) (dB 18 383) ?_
  refine qon_ 9 (some 28) (dB 18 895) ?_
  refine qon_ 12 (some 31) (dB 18 4991) ?_
  refine qtk_ 7 (some 26) (dB 18 5119) hHeld ?_
  refine qtk_ 10 (some 29) (dB 18 6143) hHeld ?_
  refine qtk_ 13 (some 32) (dB 18 14335) hHeld ?_
  refine one_ (i := 11) (N := some 30) (dB 18 16383) rfl rfl (by kernel_rfl) (by decide) (fun K hK => ?_)
  refine goes_ Tryd.func19 (by kernel_rfl) rfl #[.agg #[.slice A0 l.length c0, .int .i64 typ, .string host, .int .u32 gen, .bool apt], .string host] (by rfl) rfl rfl (by simp only [List.map_toArray, List.map_cons, List.map_nil]; rfl) ?_
  with_reducible refine (headgateref11_Key.calls k A0 c0 l typ host gen apt host kh _ (Kd.C_below HR.out F.out.hb) HC.out HKH.out).mono ?_
  rintro e_ w7 ⟨rfl, hb⟩
  have F1 := aS_ (F.out.below hb)
  clear F hb
  have F := F1
  clear F1
  refine ⟨_, rfl, ?_⟩
  refine hK.out _ _ ⟨bC_ F.out.b2 0 rfl, bC_ F.out.b2 1 rfl, bC_ F.out.b2 2 rfl, bC_ F.out.b2 3 rfl, bC_ F.out.b2 4 rfl, bC_ F.out.b3 10 rfl⟩ (fun hHeld => ?_)
  clear hK K
  refine norm_ (a' := ?_) ?_ ?_
  rotate_left
  ·show Act.put _ (some 30) _ = _
   simp only [Act.put, la_, lb_, lc_, i64_w, i32_w]
   rfl
  refine qon_ 14 (some 33) (dB 18 32767) ?_
  refine qon_ 15 (some 34) (dB 18 65535) ?_
  refine qon_ 16 (some 35) (dB 18 131071) ?_
  refine qon_ 17 (some 6) (dB 18 262143) ?_
  refine done_ (by kernel_rfl) ?_
  (first | refine deed_then (fun w' => Aside0 (Rf w w' g2 g3 g4 c rg (tabc (.slice A0 l.length c0) typ host gen apt))) F ?_ | refine deed_exit (fun w' => Aside0 (Rf w w' g2 g3 g4 c rg (tabc (.slice A0 l.length c0) typ host gen apt))) F ?_)
  intro wv FV
  clear F
  have F := FV
  clear FV
  obtain ⟨hct0, hct1, hct2, hct3, hct4⟩ := cells5 F.out.b2
  obtain ⟨-, -, hcc2, -, -, -, -, -, -, -, hcc10, hcc11, -, -⟩ := cells14 F.out.b3
  obtain ⟨hcr0, hcr1, hcr2, hcr3, hcr4, hcr5, hcr6⟩ := cells7 F.out.b4
  have hfr0 := bF_ F.out.b4 0
  have hfr1 := bF_ F.out.b4 1
  have hfr2 := bF_ F.out.b4 2
  have hfr3 := bF_ F.out.b4 3
  have hfr4 := bF_ F.out.b4 4
  have hfr5 := bF_ F.out.b4 5
  have hfr6 := bF_ F.out.b4 6
  have hft0 := bF_ F.out.b2 0
  have hft1 := bF_ F.out.b2 1
  have hft2 := bF_ F.out.b2 2
  have hft3 := bF_ F.out.b2 3
  have hft4 := bF_ F.out.b2 4
  go_wp2
  go_loopw [7, 8, 9] (fun sv tv iv wr => ∃ i : Nat, i ≤ l.length ∧ iv = .int .i64 i ∧ Aside0 (Rf w wr g2 g3 g4 c rg (tabc (.slice A0 l.length c0) typ host gen apt)) ∧ Aside0 (Kd.R k53 53 wr w.heap.size (fun k_ => True ∧ some k_ ≠ tv.ownBlock) sv ((l.take i).filter (sty c false))) ∧ Aside0 (Kd.R k53 53 wr w.heap.size (fun k_ => True ∧ some k_ ≠ sv.ownBlock) tv ((l.take i).filter (stk c false)))) (fun _ _ iv _ => l.length - (intOf iv).toNat)
  case atStart => exact ⟨0, Nat.zero_le _, rfl, F, ⟨Kd.R_nil _ _ _ _ _⟩, ⟨Kd.R_nil _ _ _ _ _⟩⟩
  case round =>
    clear F hct0 hct1 hct2 hct3 hct4 hcc2 hcc10 hcc11 hft0 hft1 hft2 hft3 hft4 hcr0 hfr0 hcr1 hfr1 hcr2 hfr2 hcr3 hfr3 hcr4 hfr4 hcr5 hfr5 hcr6 hfr6
    obtain ⟨i, hi, rfl, F, RS, RT⟩ := hrel
    by_cases hlt : i < l.length
    · clear hi
      have HI := aS_ (show i ≤ 1000 by have := HN.out; omega)
      have HLT := aS_ hlt
      have p0 : (0 : Int) ≤ (i : Int) := Int.natCast_nonneg i
      have q0 : (i : Int) < (l.length : Int) := by omega
      obtain ⟨ad, ea, hx0, hx1⟩ := at_T53 (Kd.C_below HR.out F.out.hb) (i : Int) p0 q0
      cases ea
      obtain ⟨s, hs⟩ : ∃ s, s = (rd_T53 l i).f0 := ⟨_, rfl⟩
      obtain ⟨ky, hky⟩ : ∃ ky, ky = (rd_T53 l i).f1 := ⟨_, rfl⟩
      have HRD := aS_ (show rd_T53 l i = (⟨s, ky⟩ : S53) by rw [hs, hky])
      rw [← hs] at hx0
      rw [← hky] at hx1
      simp only [Int.toNat_natCast] at hx0 hx1
      have HX0 := aS_ hx0
      have HX1 := aS_ hx1
      have FS := aS_ (And.intro (flt_succ (sty c false) l i hlt) (flt_succ (stk c false) l i hlt))
      have LS := aS_ (And.intro (flt_len (sty c false) l i) (flt_len (stk c false) l i))
      obtain ⟨As, cs, es⟩ := Kd.R_slice RS.out
      obtain ⟨At, ct, et⟩ := Kd.R_slice RT.out
      obtain ⟨xs, hxs⟩ : ∃ xs, xs = (l.take i).filter (sty c false) := ⟨_, rfl⟩
      obtain ⟨ys, hys⟩ : ∃ ys, ys = (l.take i).filter (stk c false) := ⟨_, rfl⟩
      rw [← hxs] at RS es FS LS
      rw [← hys] at RT et FS LS
      subst es
      subst et
      clear hs hky hxs hys hx0 hx1
      have d3 : decide ((i : Int) < (l.length : Int)) = true := decide_eq_true q0
      obtain ⟨hct0, hct1, hct2, hct3, hct4⟩ := cells5 F.out.b2
      obtain ⟨b1, hb1⟩ : ∃ b1, (s.toList == c.f2.toList) = b1 := ⟨_, rfl⟩
      obtain ⟨kb, hkb⟩ : ∃ kb, (ky == c.f10) = kb := ⟨_, rfl⟩
      have HQ := aS_ hb1
      have HKB := aS_ hkb
      cases b1
      · have hne : (s.toList != c.f2.toList) = true := by rw [bne, hb1]; rfl
        cases kb
        · skip
          go_wp2
          have F1 := aS_ (F.out.below (below_drew (Below.refl _ _)))
          clear F
          have F := F1
          clear F1
          have RS1 := aS_ (Kd.R_below RS.out (below_drew (Below.refl _ _)))
          have RT1 := aS_ (Kd.R_below RT.out (below_drew (Below.refl _ _)))
          clear RS RT
          have RS := RS1
          have RT := RT1
          clear RS1 RT1
          refine start_ (n := 23) (S := fun w' => w'.cell? ⟨g2, 0, none⟩ = some (.slice (some ad) l.length c0) ∧ w'.cell? (ad.add (i * 2)) = some (.string s) ∧ w'.cell? ⟨(ad.add (i * 2)).block, (ad.add (i * 2)).off + 1, none⟩ = some (.int .u64 ky) ∧ w'.cell? ⟨g3, 2, none⟩ = some (.string c.f2) ∧ w'.cell? ⟨g3, 10, none⟩ = some (.int .u64 c.f10)) (ds := []) #[false, false, false, false, false, false, false, false, false, false, false, false, false, false, false, false, false, false, false, false, false, false, false] (by kernel_rfl) rfl rfl ⟨bC_ F.out.b2 0 rfl, HX0.out, HX1.out, bC_ F.out.b3 2 rfl, bC_ F.out.b3 10 rfl⟩ (fun hHeld => ?_)
          generalize wr.drew = wd at F RS RT hHeld ⊢
          refine qon_ 0 (some 52) (dB 23 1) ?_
          refine qon_ 2 (some 54) (dB 23 5) ?_
          refine qon_ 6 (some 58) (dB 23 69) ?_
          refine qtk_ 1 (some 53) (dB 23 71) hHeld ?_
          refine qon_ 3 (some 55) (dB 23 79) ?_
          refine qon_ 4 (some 56) (dB 23 95) ?_
          refine qtk_ 5 (some 57) (dB 23 127) hHeld ?_
          refine qtk_ 7 (some 59) (dB 23 255) hHeld ?_
          refine qon_ 8 (some 60) (dB 23 511) ?_
          refine qon_ 9 (some 61) (dB 23 1023) ?_
          refine qon_ 10 (some 62) (dB 23 2047) ?_
          refine qon_ 11 (some 63) (dB 23 4095) ?_
          refine qon_ 12 (some 64) (dB 23 8191) ?_
          refine qon_ 14 (some 66) (dB 23 24575) ?_
          refine qon_ 18 (some 70) (dB 23 286719) ?_
          refine qtk_ 13 (some 65) (dB 23 294911) hHeld ?_
          refine qon_ 15 (some 67) (dB 23 327679) ?_
          refine qon_ 16 (some 68) (dB 23 393215) ?_
          refine qtk_ 17 (some 69) (dB 23 524287) hHeld ?_
          refine qtk_ 19 (some 71) (dB 23 1048575) hHeld ?_
          refine qon_ 20 (some 72) (dB 23 2097151) ?_
          refine qon_ 21 (some 73) (dB 23 4194303) ?_
          refine qon_ 22 (some 74) (dB 23 8388607) ?_
          refine done_ (by kernel_rfl) ?_
          obtain ⟨hw0, hw1, hw2, hw3, hw4⟩ := hHeld
          go_wp2_with (first
            | ((with_reducible refine gate_builtin (b := .append) (xs := #[.tmp 83, .tmp 89]) rfl ?_); at_builtin; refine Kd.R_append k53 (w0 := w) w.heap.size rfl (.tmp 83) (.tmp 89) 22 53 (.agg #[(.string ⟨#[]⟩), (.int .u64 0)]) 24 rfl Tryd.underlying22 info53 rfl (by decide) (by omega) (.slice As xs.length cs) xs (⟨s, ky⟩ : S53) [.string s, .int .u64 ky] (fun k_ => True ∧ some k_ ≠ (Value.slice At ys.length ct).ownBlock) (fun _ => False) rfl rfl ?aP (fun _ hk => hk.elim) ?aF ?aO ?aB ?aS ?aL ?_; (case aP => exact k53_mkM _ _ _ (⟨s, ky⟩ : S53)); (case aB => exact F.out.hb); (case aF => exact fresh_ne RT.out); (case aO => exact RS.out); (case aS => exact below_size F.out.hb); (case aL => have := LS.out; have := HI.out; omega); intro v1 y1 ho hb hg hat; have F1 := aS_ (F.out.grown RS.out hg hb); have RA := aS_ (Kd.R_after RT.out hg hat); have RB := aS_ ho; clear F RS RT hb hg hat ho hct0 hct1 hct2 hct3 hct4; have F := F1; clear F1))
          go_roundw
          case rel =>
            have hst := stk_val c false s ky _ _ HQ.out HKB.out
            refine ⟨i + 1, HLT.out, deed_next i HI.out, F, ⟨?_⟩, ⟨?_⟩⟩
            · rw [FS.out.1, HRD.out, hst.2]
              rw [if_pos (by decide)]
              exact RB.out
            · rw [FS.out.2, HRD.out, hst.1]
              rw [if_neg (by decide), List.append_nil]
              exact RA.out
          case measure => exact deed_less i l.length HI.out HLT.out
        · skip
          go_wp2
          have F1 := aS_ (F.out.below (below_drew (Below.refl _ _)))
          clear F
          have F := F1
          clear F1
          have RS1 := aS_ (Kd.R_below RS.out (below_drew (Below.refl _ _)))
          have RT1 := aS_ (Kd.R_below RT.out (below_drew (Below.refl _ _)))
          clear RS RT
          have RS := RS1
          have RT := RT1
          clear RS1 RT1
          refine start_ (n := 23) (S := fun w' => w'.cell? ⟨g2, 0, none⟩ = some (.slice (some ad) l.length c0) ∧ w'.cell? (ad.add (i * 2)) = some (.string s) ∧ w'.cell? ⟨(ad.add (i * 2)).block, (ad.add (i * 2)).off + 1, none⟩ = some (.int .u64 ky) ∧ w'.cell? ⟨g3, 2, none⟩ = some (.string c.f2) ∧ w'.cell? ⟨g3, 10, none⟩ = some (.int .u64 c.f10)) (ds := []) #[false, false, false, false, false, false, false, false, false, false, false, false, false, false, false, false, false, false, false, false, false, false, false] (by kernel_rfl) rfl rfl ⟨bC_ F.out.b2 0 rfl, HX0.out, HX1.out, bC_ F.out.b3 2 rfl, bC_ F.out.b3 10 rfl⟩ (fun hHeld => ?_)
          generalize wr.drew = wd at F RS RT hHeld ⊢
          refine qon_ 0 (some 52) (dB 23 1) ?_
          refine qon_ 2 (some 54) (dB 23 5) ?_
          refine qon_ 6 (some 58) (dB 23 69) ?_
          refine qtk_ 1 (some 53) (dB 23 71) hHeld ?_
          refine qon_ 3 (some 55) (dB 23 79) ?_
          refine qon_ 4 (some 56) (dB 23 95) ?_
          refine qtk_ 5 (some 57) (dB 23 127) hHeld ?_
          refine qtk_ 7 (some 59) (dB 23 255) hHeld ?_
          refine qon_ 8 (some 60) (dB 23 511) ?_
          refine qon_ 9 (some 61) (dB 23 1023) ?_
          refine qon_ 10 (some 62) (dB 23 2047) ?_
          refine qon_ 11 (some 63) (dB 23 4095) ?_
          refine qon_ 12 (some 64) (dB 23 8191) ?_
          refine qon_ 14 (some 66) (dB 23 24575) ?_
          refine qon_ 18 (some 70) (dB 23 286719) ?_
          refine qtk_ 13 (some 65) (dB 23 294911) hHeld ?_
          refine qon_ 15 (some 67) (dB 23 327679) ?_
          refine qon_ 16 (some 68) (dB 23 393215) ?_
          refine qtk_ 17 (some 69) (dB 23 524287) hHeld ?_
          refine qtk_ 19 (some 71) (dB 23 1048575) hHeld ?_
          refine qon_ 20 (some 72) (dB 23 2097151) ?_
          refine qon_ 21 (some 73) (dB 23 4194303) ?_
          refine qon_ 22 (some 74) (dB 23 8388607) ?_
          refine done_ (by kernel_rfl) ?_
          obtain ⟨hw0, hw1, hw2, hw3, hw4⟩ := hHeld
          go_wp2_with (first
            | ((with_reducible refine gate_builtin (b := .append) (xs := #[.tmp 75, .tmp 81]) rfl ?_); at_builtin; refine Kd.R_append k53 (w0 := w) w.heap.size rfl (.tmp 75) (.tmp 81) 22 53 (.agg #[(.string ⟨#[]⟩), (.int .u64 0)]) 24 rfl Tryd.underlying22 info53 rfl (by decide) (by omega) (.slice At ys.length ct) ys (⟨s, ky⟩ : S53) [.string s, .int .u64 ky] (fun k_ => True ∧ some k_ ≠ (Value.slice As xs.length cs).ownBlock) (fun _ => False) rfl rfl ?aP (fun _ hk => hk.elim) ?aF ?aO ?aB ?aS ?aL ?_; (case aP => exact k53_mkM _ _ _ (⟨s, ky⟩ : S53)); (case aB => exact F.out.hb); (case aF => exact fresh_ne RS.out); (case aO => exact RT.out); (case aS => exact below_size F.out.hb); (case aL => have := LS.out; have := HI.out; omega); intro v1 y1 ho hb hg hat; have F1 := aS_ (F.out.grown RT.out hg hb); have RA := aS_ (Kd.R_after RS.out hg hat); have RB := aS_ ho; clear F RS RT hb hg hat ho hct0 hct1 hct2 hct3 hct4; have F := F1; clear F1))
          go_roundw
          case rel =>
            have hst := stk_val c false s ky _ _ HQ.out HKB.out
            refine ⟨i + 1, HLT.out, deed_next i HI.out, F, ⟨?_⟩, ⟨?_⟩⟩
            · rw [FS.out.1, HRD.out, hst.2]
              rw [if_neg (by decide), List.append_nil]
              exact RA.out
            · rw [FS.out.2, HRD.out, hst.1]
              rw [if_pos (by decide)]
              exact RB.out
          case measure => exact deed_less i l.length HI.out HLT.out
      · have hne : (s.toList != c.f2.toList) = false := by rw [bne, hb1]; rfl
        cases kb
        all_goals
          go_wp2
          have F1 := aS_ (F.out.below (below_drew (Below.refl _ _)))
          clear F
          have F := F1
          clear F1
          have RS1 := aS_ (Kd.R_below RS.out (below_drew (Below.refl _ _)))
          have RT1 := aS_ (Kd.R_below RT.out (below_drew (Below.refl _ _)))
          clear RS RT
          have RS := RS1
          have RT := RT1
          clear RS1 RT1
          refine start_ (n := 23) (S := fun w' => w'.cell? ⟨g2, 0, none⟩ = some (.slice (some ad) l.length c0) ∧ w'.cell? (ad.add (i * 2)) = some (.string s) ∧ w'.cell? ⟨(ad.add (i * 2)).block, (ad.add (i * 2)).off + 1, none⟩ = some (.int .u64 ky) ∧ w'.cell? ⟨g3, 2, none⟩ = some (.string c.f2) ∧ w'.cell? ⟨g3, 10, none⟩ = some (.int .u64 c.f10)) (ds := []) #[false, false, false, false, false, false, false, false, false, false, false, false, false, false, false, false, false, false, false, false, false, false, false] (by kernel_rfl) rfl rfl ⟨bC_ F.out.b2 0 rfl, HX0.out, HX1.out, bC_ F.out.b3 2 rfl, bC_ F.out.b3 10 rfl⟩ (fun hHeld => ?_)
          generalize wr.drew = wd at F RS RT hHeld ⊢
          refine qon_ 0 (some 52) (dB 23 1) ?_
          refine qon_ 2 (some 54) (dB 23 5) ?_
          refine qon_ 6 (some 58) (dB 23 69) ?_
          refine qtk_ 1 (some 53) (dB 23 71) hHeld ?_
          refine qon_ 3 (some 55) (dB 23 79) ?_
          refine qon_ 4 (some 56) (dB 23 95) ?_
          refine qtk_ 5 (some 57) (dB 23 127) hHeld ?_
          refine qtk_ 7 (some 59) (dB 23 255) hHeld ?_
          refine qon_ 8 (some 60) (dB 23 511) ?_
          refine qon_ 9 (some 61) (dB 23 1023) ?_
          refine qof_ 10 (some 62) (dB 23 2047) ?_
          refine qof_ 11 (some 63) (dB 23 4095) ?_
          refine qof_ 12 (some 64) (dB 23 8191) ?_
          refine qof_ 13 (some 65) (dB 23 16383) ?_
          refine qof_ 14 (some 66) (dB 23 32767) ?_
          refine qof_ 15 (some 67) (dB 23 65535) ?_
          refine qof_ 16 (some 68) (dB 23 131071) ?_
          refine qof_ 17 (some 69) (dB 23 262143) ?_
          refine qof_ 18 (some 70) (dB 23 524287) ?_
          refine qof_ 19 (some 71) (dB 23 1048575) ?_
          refine qof_ 20 (some 72) (dB 23 2097151) ?_
          refine qof_ 21 (some 73) (dB 23 4194303) ?_
          refine qon_ 22 (some 74) (dB 23 8388607) ?_
          refine done_ (by kernel_rfl) ?_
          obtain ⟨hw0, hw1, hw2, hw3, hw4⟩ := hHeld
          go_wp2_with (first
            | ((with_reducible refine gate_builtin (b := .append) (xs := #[.tmp 83, .tmp 89]) rfl ?_); at_builtin; refine Kd.R_append k53 (w0 := w) w.heap.size rfl (.tmp 83) (.tmp 89) 22 53 (.agg #[(.string ⟨#[]⟩), (.int .u64 0)]) 24 rfl Tryd.underlying22 info53 rfl (by decide) (by omega) (.slice As xs.length cs) xs (⟨s, ky⟩ : S53) [.string s, .int .u64 ky] (fun k_ => True ∧ some k_ ≠ (Value.slice At ys.length ct).ownBlock) (fun _ => False) rfl rfl ?aP (fun _ hk => hk.elim) ?aF ?aO ?aB ?aS ?aL ?_; (case aP => exact k53_mkM _ _ _ (⟨s, ky⟩ : S53)); (case aB => exact F.out.hb); (case aF => exact fresh_ne RT.out); (case aO => exact RS.out); (case aS => exact below_size F.out.hb); (case aL => have := LS.out; have := HI.out; omega); intro v1 y1 ho hb hg hat; have F1 := aS_ (F.out.grown RS.out hg hb); have RA := aS_ (Kd.R_after RT.out hg hat); have RB := aS_ ho; clear F RS RT hb hg hat ho hct0 hct1 hct2 hct3 hct4; have F := F1; clear F1))
          go_roundw
          case rel =>
            have hst := stk_val c false s ky _ _ HQ.out HKB.out
            refine ⟨i + 1, HLT.out, deed_next i HI.out, F, ⟨?_⟩, ⟨?_⟩⟩
            · rw [FS.out.1, HRD.out, hst.2]
              rw [if_pos (by decide)]
              exact RB.out
            · rw [FS.out.2, HRD.out, hst.1]
              rw [if_neg (by decide), List.append_nil]
              exact RA.out
          case measure => exact deed_less i l.length HI.out HLT.out
    · have hil : i = l.length := by omega
      subst hil
      rw [List.take_length, ← HXS.out] at RS
      rw [List.take_length, ← HYS.out] at RT
      have d3 : decide ((l.length : Int) < (l.length : Int)) = false := decide_eq_false (by omega)
      obtain ⟨As, cs, es⟩ := Kd.R_slice RS.out
      obtain ⟨At, ct, et⟩ := Kd.R_slice RT.out
      subst es
      subst et
      obtain ⟨hct0, hct1, hct2, hct3, hct4⟩ := cells5 F.out.b2
      obtain ⟨-, -, hcc2, -, -, -, -, -, -, -, hcc10, hcc11, -, -⟩ := cells14 F.out.b3
      obtain ⟨hcr0, hcr1, hcr2, hcr3, hcr4, hcr5, hcr6⟩ := cells7 F.out.b4
      have hfr0 := bF_ F.out.b4 0
      have hfr1 := bF_ F.out.b4 1
      have hfr2 := bF_ F.out.b4 2
      have hfr3 := bF_ F.out.b4 3
      have hfr4 := bF_ F.out.b4 4
      have hfr5 := bF_ F.out.b4 5
      have hfr6 := bF_ F.out.b4 6
      have hft0 := bF_ F.out.b2 0
      have hft1 := bF_ F.out.b2 1
      have hft2 := bF_ F.out.b2 2
      have hft3 := bF_ F.out.b2 3
      have hft4 := bF_ F.out.b2 4
      have RS1 := aS_ (ok_any RS.out)
      have RT1 := aS_ (ok_any RT.out)
      clear RS RT
      have RS := RS1
      have RT := RT1
      clear RS1 RT1
      cases em
      · go_wp2
        refine Hand.at_world (fun w' => Aside0 (Rf w w' g2 g3 g4 c rg (tabc (.slice As xs.length cs) typ host ((gen + 1) % 4294967296) apt)) ∧ Aside0 (Kd.R k53 53 w' w.heap.size (fun _ => True) (.slice As xs.length cs) xs) ∧ Aside0 (Kd.R k53 53 w' w.heap.size (fun _ => True) (.slice At ys.length ct) ys)) ⟨⟨(F.out.put 0 _ rfl).put 3 _ rfl⟩, ⟨row_two F.out RS.out (by decide) 0 3 _ _⟩, ⟨row_two F.out RT.out (by decide) 0 3 _ _⟩⟩ ?_
        rintro w18 ⟨F1, RS1, RT1⟩
        clear F RS RT hct0 hct1 hct2 hct3 hct4 hcc2 hcc10 hcc11 hft0 hft1 hft2 hft3 hft4 hcr0 hfr0 hcr1 hfr1 hcr2 hfr2 hcr3 hfr3 hcr4 hfr4 hcr5 hfr5 hcr6 hfr6
        have F := F1
        have RS := RS1
        have RT := RT1
        clear F1 RS1 RT1
        have F1 := aS_ (F.out.below (below_drew (Below.refl _ _)))
        clear F
        have F := F1
        clear F1
        have RS1 := aS_ (Kd.R_below RS.out (below_drew (Below.refl _ _)))
        have RT1 := aS_ (Kd.R_below RT.out (below_drew (Below.refl _ _)))
        clear RS RT
        have RS := RS1
        have RT := RT1
        clear RS1 RT1
        refine start_ (n := 5) (S := fun w' => w'.cell? ⟨g2, 0, none⟩ = some (.slice As xs.length cs) ∧ w'.cell? ⟨g2, 1, none⟩ = some (.int .i64 typ) ∧ w'.cell? ⟨g2, 2, none⟩ = some (.string host) ∧ w'.cell? ⟨g2, 3, none⟩ = some (.int .u32 ((gen + 1) % 4294967296)) ∧ w'.cell? ⟨g2, 4, none⟩ = some (.bool apt)) (ds := [4]) #[false, false, false, false, false] (by kernel_rfl) rfl rfl ⟨bC_ F.out.b2 0 rfl, bC_ F.out.b2 1 rfl, bC_ F.out.b2 2 rfl, bC_ F.out.b2 3 rfl, bC_ F.out.b2 4 rfl⟩ (fun hHeld => ?_)
        generalize w18.drew = w19 at F RS RT hHeld ⊢
        refine qon_ 1 (some 114) (dB 5 2) ?_
        refine qtk_ 0 (some 113) (dB 5 3) hHeld ?_
        refine one_ (i := 2) (N := some 115) (dB 5 7) rfl rfl (by kernel_rfl) (by decide) (fun K hK => ?_)
        refine goes_ Tryd.func41 (by kernel_rfl) rfl #[.slice At ys.length ct, .string (⟨#[]⟩ : ByteArray), .int .i64 2] (by rfl) rfl rfl (by simp only [List.map_toArray, List.map_cons, List.map_nil]; rfl) ?_
        with_reducible refine (headgateref11_events.calls k At ct ys (⟨#[]⟩ : ByteArray) 2 evs _ (Kd.R_reads' RT.out).2.2 (Kd.R_reads' RT.out).2.1 HEV.out).mono ?_
        rintro e_ w20 ⟨v5, rfl, hv, hb⟩
        have RV := aS_ (R_re46 hv (below_size F.out.hb) (fun _ _ _ => trivial) (ok' := fun _ => True))
        obtain ⟨Av, cv, ev_⟩ := Kd.R_slice hv
        subst ev_
        clear hv
        have F1 := aS_ (F.out.below hb)
        have RS1 := aS_ (Kd.R_below RS.out hb)
        have RT1 := aS_ (Kd.R_below RT.out hb)
        clear F RS RT hb
        have F := F1
        have RS := RS1
        have RT := RT1
        clear F1 RS1 RT1
        refine ⟨_, rfl, ?_⟩
        refine hK.out _ _ ⟨bC_ F.out.b2 0 rfl, bC_ F.out.b2 1 rfl, bC_ F.out.b2 2 rfl, bC_ F.out.b2 3 rfl, bC_ F.out.b2 4 rfl⟩ (fun hHeld => ?_)
        clear hK K
        refine norm_ (a' := ?_) ?_ ?_
        rotate_left
        ·show Act.put _ (some 115) _ = _
         simp only [Act.put, la_, lb_, lc_, i64_w, i32_w]
         rfl
        refine qon_ 3 (some 116) (dB 5 15) ?_
        refine last_ (i := 4) (N := none) (dB 5 31) rfl rfl (by kernel_rfl) (by decide) (fun K hK => ?_)
        obtain ⟨hcr0, hcr1, hcr2, hcr3, hcr4, hcr5, hcr6⟩ := cells7 F.out.b4
        have hfr0 := bF_ F.out.b4 0
        have hfr1 := bF_ F.out.b4 1
        have hfr2 := bF_ F.out.b4 2
        have hfr3 := bF_ F.out.b4 3
        have hfr4 := bF_ F.out.b4 4
        have hfr5 := bF_ F.out.b4 5
        have hfr6 := bF_ F.out.b4 6
        refine skip_ (w1 := ?_) (by rfl) rfl ?_ ?_
        rotate_left
        ·go_simp
         rfl
        refine hK.out _ _ ?_
        clear hK K
        refine done_ (by kernel_rfl) ?_
        go_wp2
        (try simp only [Exit.inBlock, Exit.then])
        refine ret_out rfl rfl rfl (F.out.out _ _ _ _ _ _ _).1 hu40 rfl rfl ?_
        exact Or.inr ⟨hem, _, _, rfl, row_out RS.out F.out.b4 (by decide) _ _ _ _ _ _ _, row_out RV.out F.out.b4 (by decide) _ _ _ _ _ _ _, (F.out.out _ _ _ _ _ _ _).2⟩
      · go_wp2
        (try simp only [Exit.inBlock, Exit.then])
        refine ret_out rfl rfl rfl (F.out.out _ _ _ _ _ _ _).1 hu40 rfl rfl ?_
        exact Or.inl ⟨hem, rfl, (F.out.out _ _ _ _ _ _ _).2⟩
theorem rf_pre_stayn (k : Nat) (A0 : Option Addr) (c0 : Nat) (l : List S53) (typ : Int) (host : ByteArray) (gen : Int) (apt : Bool) (c : S31) (rg : Value) (w : World) (hr : Kd.C k53 w A0 l.length l) (hc : l.length ≤ c0) (hn : l.length ≤ 1000) (b4 : Bool) (hb4 : decide (4 < typ) = b4) (hz : (c.f10 == 0) = false) (hal : headgateref11_alone.f typ = some false) (evs : List S46) (hev : headgateref11_events.f k (l.filter (stk c false)) (⟨#[]⟩ : ByteArray) 2 = some evs) :
    Calls Tryd.prog 42 #[.agg (tabc (.slice A0 l.length c0) typ host gen apt), .agg (cmdc c rg)] w fun e w' => ((((l.filter (stk c false)).length : Int) == 0) = true ∧ e = .returned (.agg (outd (.slice A0 l.length c0) typ host gen apt (.slice none 0 0) 2)) ∧ Below w.heap.size w w') ∨ ((((l.filter (stk c false)).length : Int) == 0) = false ∧ (∃ v0 v5, e = .returned (.agg (outd v0 typ host ((gen + 1) % 4294967296) apt v5 1)) ∧ Kd.R k53 53 w' w.heap.size (fun _ => True) v0 (l.filter (sty c false)) ∧ Kd.R k46 46 w' w.heap.size (fun _ => True) v5 evs ∧ Below w.heap.size w w')) := by
  have hu27 := Tryd.underlying27
  have hu24 := Tryd.underlying24
  have hu31 := Tryd.underlying31
  have hu40 := Tryd.underlying40
  have hu53 := Tryd.underlying53
  have HR := aS_ hr
  have HC := aS_ hc
  have HB := aS_ (Below.refl w.heap.size w)
  clear hr hc
  unfold tabc cmdc
  have HN := aS_ hn
  clear hn
  obtain ⟨xs, hxs⟩ : ∃ xs, xs = l.filter (sty c false) := ⟨_, rfl⟩
  obtain ⟨ys, hys⟩ : ∃ ys, ys = l.filter (stk c false) := ⟨_, rfl⟩
  rw [← hxs, ← hys]
  rw [← hys] at hev
  have HXS := aS_ hxs
  have HYS := aS_ hys
  clear hxs hys
  obtain ⟨em, hem⟩ : ∃ em, ((ys.length : Int) == 0) = em := ⟨_, rfl⟩
  have HEV := aS_ hev
  clear hev
  have HAL := aS_ hal
  clear hal
  cases b4
  all_goals
    go_enter Tryd.func42, Tryd.ntmps42
    go_wp2_with (first
      | ((with_reducible refine gate_dst (N := 2) rfl ?_); refine bX_ (N := 2) (cs := tabc (.slice A0 l.length c0) typ host gen apt) (t := 27) ?hr ?_; (case hr => first | (go_simp; done) | (go_simp; rfl)); intro g2 hgg2 w2 hxg2 hyg2; have X2 := aS_ hxg2; have Y2 := aS_ hyg2; have Z2 := aS_ hgg2; clear hxg2 hyg2 hgg2)
      | ((with_reducible refine gate_dst (N := 3) rfl ?_); refine bX_ (N := 3) (cs := cmdc c rg) (t := 31) ?hr ?_; (case hr => first | (go_simp; done) | (go_simp; rfl)); intro g3 hgg3 w3 hxg3 hyg3; have X3 := aS_ hxg3; have Y3 := aS_ hyg3; have Z3 := aS_ (show g2 < g3 by rw [hgg3]; exact blk_lt X2.out); clear hxg3 hyg3 hgg3)
      | ((with_reducible refine gate_dst (N := 4) rfl ?_); refine bX_ (N := 4) (cs := outc) (t := 40) ?hr ?_; (case hr => first | (go_simp; done) | (go_simp; rfl)); intro g4 hgg4 w4 hxg4 hyg4; have hlt3 := blk_lt (blk_below X2.out Y3.out); have hlt4 := blk_lt X3.out; have hz2 := below_size (below_step HB.out (below_step Y2.out Y3.out)); have F := aS_ (Rf.mk (w0 := w) (by have := Z2.out; have := below_size HB.out; omega) (by omega) (by omega) (by have := Z3.out; omega) (by omega) (blk_below (blk_below X2.out Y3.out) hyg4) (blk_below X3.out hyg4) hxg4 (below_step HB.out (below_step Y2.out (below_step Y3.out hyg4)))); have n42 := F.out.n42; have n24 := F.out.n42.symm; clear hlt3 hlt4 hz2 X2 X3 Y2 Y3 Z2 Z3 hxg4 hyg4 hgg4; obtain ⟨hct0, hct1, hct2, hct3, hct4⟩ := cells5 F.out.b2; obtain ⟨-, -, hcc2, -, -, -, -, -, -, -, hcc10, hcc11, -, -⟩ := cells14 F.out.b3; obtain ⟨hcr0, hcr1, hcr2, hcr3, hcr4, hcr5, hcr6⟩ := cells7 F.out.b4; have hfr0 := bF_ F.out.b4 0; have hfr1 := bF_ F.out.b4 1; have hfr2 := bF_ F.out.b4 2; have hfr3 := bF_ F.out.b4 3; have hfr4 := bF_ F.out.b4 4; have hfr5 := bF_ F.out.b4 5; have hfr6 := bF_ F.out.b4 6))
    clear hct0 hct1 hct2 hct3 hct4 hcc2 hcc10 hcc11 hcr0 hfr0 hcr1 hfr1 hcr2 hfr2 hcr3 hfr3 hcr4 hfr4 hcr5 hfr5 hcr6 hfr6
    have F1 := aS_ (F.out.below (below_drew (Below.refl _ _)))
    clear F
    have F := F1
    clear F1
    refine start_ (n := 18) (S := fun w' => w'.cell? ⟨g2, 0, none⟩ = some (.slice A0 l.length c0) ∧ w'.cell? ⟨g2, 1, none⟩ = some (.int .i64 typ) ∧ w'.cell? ⟨g2, 2, none⟩ = some (.string host) ∧ w'.cell? ⟨g2, 3, none⟩ = some (.int .u32 gen) ∧ w'.cell? ⟨g2, 4, none⟩ = some (.bool apt) ∧ w'.cell? ⟨g3, 10, none⟩ = some (.int .u64 c.f10)) (ds := []) #[false, false, false, false, false, false, false, false, false, false, false, false, false, false, false, false, false, false] (by kernel_rfl) rfl rfl ⟨bC_ F.out.b2 0 rfl, bC_ F.out.b2 1 rfl, bC_ F.out.b2 2 rfl, bC_ F.out.b2 3 rfl, bC_ F.out.b2 4 rfl, bC_ F.out.b3 10 rfl⟩ (fun hHeld => ?_)
    generalize w4.drew = w5 at F hHeld ⊢
    refine qon_ 0 (some 19) (dB 18 1) ?_
    refine qon_ 1 (some 20) (dB 18 3) ?_
    refine qon_ 2 (some 21) (dB 18 7) ?_
    refine qon_ 3 (some 22) (dB 18 15) ?_
    refine qtk_ 4 (some 23) (dB 18 31) hHeld ?_
    refine one_ (i := 5) (N := some 24) (dB 18 63) rfl rfl (by kernel_rfl) (by decide) (fun K hK => ?_)
    refine goes_ Tryd.func43 (by kernel_rfl) rfl #[.int .i64 typ] (by rfl) rfl rfl (by simp only [List.map_toArray, List.map_cons, List.map_nil]; rfl) ?_
    with_reducible refine (headgateref11_alone.calls typ false _ HAL.out).mono ?_
    rintro e_ w6 ⟨rfl, hd⟩
    have hb := hd.below
    clear hd
    have F1 := aS_ (F.out.below hb)
    clear F hb
    have F := F1
    clear F1
    refine ⟨_, rfl, ?_⟩
    refine hK.out _ _ ⟨bC_ F.out.b2 0 rfl, bC_ F.out.b2 1 rfl, bC_ F.out.b2 2 rfl, bC_ F.out.b2 3 rfl, bC_ F.out.b2 4 rfl, bC_ F.out.b3 10 rfl⟩ (fun hHeld => ?_)
    clear hK K
    refine norm_ (a' := ?_) ?_ ?_
    rotate_left
    ·show Act.put _ (some 24) _ = _
     simp only [Act.put, la_, lb_, lc_, i64_w, i32_w]
     rfl
    refine qon_ 6 (some 25) (dB 18 127) ?_
    refine qof_ 7 (some 26) (dB 18 255) ?_
    refine qof_ 8 (some 27) (dB 18 511) ?_
    refine qof_ 9 (some 28) (dB 18 1023) ?_
    refine qof_ 10 (some 29) (dB 18 2047) ?_
    refine qof_ 11 (some 30) (dB 18 4095) ?_
    refine qof_ 12 (some 31) (dB 18 8191) ?_
    refine qof_ 13 (some 32) (dB 18 16383) ?_
    refine qof_ 14 (some 33) (dB 18 32767) ?_
    refine qon_ 15 (some 34) (dB 18 65535) ?_
    refine qon_ 16 (some 35) (dB 18 131071) ?_
    refine qon_ 17 (some 6) (dB 18 262143) ?_
    refine done_ (by kernel_rfl) ?_
    (first | refine deed_then (fun w' => Aside0 (Rf w w' g2 g3 g4 c rg (tabc (.slice A0 l.length c0) typ host gen apt))) F ?_ | refine deed_exit (fun w' => Aside0 (Rf w w' g2 g3 g4 c rg (tabc (.slice A0 l.length c0) typ host gen apt))) F ?_)
    intro wv FV
    clear F
    have F := FV
    clear FV
    obtain ⟨hct0, hct1, hct2, hct3, hct4⟩ := cells5 F.out.b2
    obtain ⟨-, -, hcc2, -, -, -, -, -, -, -, hcc10, hcc11, -, -⟩ := cells14 F.out.b3
    obtain ⟨hcr0, hcr1, hcr2, hcr3, hcr4, hcr5, hcr6⟩ := cells7 F.out.b4
    have hfr0 := bF_ F.out.b4 0
    have hfr1 := bF_ F.out.b4 1
    have hfr2 := bF_ F.out.b4 2
    have hfr3 := bF_ F.out.b4 3
    have hfr4 := bF_ F.out.b4 4
    have hfr5 := bF_ F.out.b4 5
    have hfr6 := bF_ F.out.b4 6
    have hft0 := bF_ F.out.b2 0
    have hft1 := bF_ F.out.b2 1
    have hft2 := bF_ F.out.b2 2
    have hft3 := bF_ F.out.b2 3
    have hft4 := bF_ F.out.b2 4
    go_wp2
    go_loopw [7, 8, 9] (fun sv tv iv wr => ∃ i : Nat, i ≤ l.length ∧ iv = .int .i64 i ∧ Aside0 (Rf w wr g2 g3 g4 c rg (tabc (.slice A0 l.length c0) typ host gen apt)) ∧ Aside0 (Kd.R k53 53 wr w.heap.size (fun k_ => True ∧ some k_ ≠ tv.ownBlock) sv ((l.take i).filter (sty c false))) ∧ Aside0 (Kd.R k53 53 wr w.heap.size (fun k_ => True ∧ some k_ ≠ sv.ownBlock) tv ((l.take i).filter (stk c false)))) (fun _ _ iv _ => l.length - (intOf iv).toNat)
    case atStart => exact ⟨0, Nat.zero_le _, rfl, F, ⟨Kd.R_nil _ _ _ _ _⟩, ⟨Kd.R_nil _ _ _ _ _⟩⟩
    case round =>
      clear F hct0 hct1 hct2 hct3 hct4 hcc2 hcc10 hcc11 hft0 hft1 hft2 hft3 hft4 hcr0 hfr0 hcr1 hfr1 hcr2 hfr2 hcr3 hfr3 hcr4 hfr4 hcr5 hfr5 hcr6 hfr6
      obtain ⟨i, hi, rfl, F, RS, RT⟩ := hrel
      by_cases hlt : i < l.length
      · clear hi
        have HI := aS_ (show i ≤ 1000 by have := HN.out; omega)
        have HLT := aS_ hlt
        have p0 : (0 : Int) ≤ (i : Int) := Int.natCast_nonneg i
        have q0 : (i : Int) < (l.length : Int) := by omega
        obtain ⟨ad, ea, hx0, hx1⟩ := at_T53 (Kd.C_below HR.out F.out.hb) (i : Int) p0 q0
        cases ea
        obtain ⟨s, hs⟩ : ∃ s, s = (rd_T53 l i).f0 := ⟨_, rfl⟩
        obtain ⟨ky, hky⟩ : ∃ ky, ky = (rd_T53 l i).f1 := ⟨_, rfl⟩
        have HRD := aS_ (show rd_T53 l i = (⟨s, ky⟩ : S53) by rw [hs, hky])
        rw [← hs] at hx0
        rw [← hky] at hx1
        simp only [Int.toNat_natCast] at hx0 hx1
        have HX0 := aS_ hx0
        have HX1 := aS_ hx1
        have FS := aS_ (And.intro (flt_succ (sty c false) l i hlt) (flt_succ (stk c false) l i hlt))
        have LS := aS_ (And.intro (flt_len (sty c false) l i) (flt_len (stk c false) l i))
        obtain ⟨As, cs, es⟩ := Kd.R_slice RS.out
        obtain ⟨At, ct, et⟩ := Kd.R_slice RT.out
        obtain ⟨xs, hxs⟩ : ∃ xs, xs = (l.take i).filter (sty c false) := ⟨_, rfl⟩
        obtain ⟨ys, hys⟩ : ∃ ys, ys = (l.take i).filter (stk c false) := ⟨_, rfl⟩
        rw [← hxs] at RS es FS LS
        rw [← hys] at RT et FS LS
        subst es
        subst et
        clear hs hky hxs hys hx0 hx1
        have d3 : decide ((i : Int) < (l.length : Int)) = true := decide_eq_true q0
        obtain ⟨hct0, hct1, hct2, hct3, hct4⟩ := cells5 F.out.b2
        obtain ⟨b1, hb1⟩ : ∃ b1, (s.toList == c.f2.toList) = b1 := ⟨_, rfl⟩
        obtain ⟨kb, hkb⟩ : ∃ kb, (ky == c.f10) = kb := ⟨_, rfl⟩
        have HQ := aS_ hb1
        have HKB := aS_ hkb
        cases b1
        · have hne : (s.toList != c.f2.toList) = true := by rw [bne, hb1]; rfl
          cases kb
          · skip
            go_wp2
            have F1 := aS_ (F.out.below (below_drew (Below.refl _ _)))
            clear F
            have F := F1
            clear F1
            have RS1 := aS_ (Kd.R_below RS.out (below_drew (Below.refl _ _)))
            have RT1 := aS_ (Kd.R_below RT.out (below_drew (Below.refl _ _)))
            clear RS RT
            have RS := RS1
            have RT := RT1
            clear RS1 RT1
            refine start_ (n := 23) (S := fun w' => w'.cell? ⟨g2, 0, none⟩ = some (.slice (some ad) l.length c0) ∧ w'.cell? (ad.add (i * 2)) = some (.string s) ∧ w'.cell? ⟨(ad.add (i * 2)).block, (ad.add (i * 2)).off + 1, none⟩ = some (.int .u64 ky) ∧ w'.cell? ⟨g3, 2, none⟩ = some (.string c.f2) ∧ w'.cell? ⟨g3, 10, none⟩ = some (.int .u64 c.f10)) (ds := []) #[false, false, false, false, false, false, false, false, false, false, false, false, false, false, false, false, false, false, false, false, false, false, false] (by kernel_rfl) rfl rfl ⟨bC_ F.out.b2 0 rfl, HX0.out, HX1.out, bC_ F.out.b3 2 rfl, bC_ F.out.b3 10 rfl⟩ (fun hHeld => ?_)
            generalize wr.drew = wd at F RS RT hHeld ⊢
            refine qon_ 0 (some 52) (dB 23 1) ?_
            refine qon_ 2 (some 54) (dB 23 5) ?_
            refine qon_ 6 (some 58) (dB 23 69) ?_
            refine qtk_ 1 (some 53) (dB 23 71) hHeld ?_
            refine qon_ 3 (some 55) (dB 23 79) ?_
            refine qon_ 4 (some 56) (dB 23 95) ?_
            refine qtk_ 5 (some 57) (dB 23 127) hHeld ?_
            refine qtk_ 7 (some 59) (dB 23 255) hHeld ?_
            refine qon_ 8 (some 60) (dB 23 511) ?_
            refine qon_ 9 (some 61) (dB 23 1023) ?_
            refine qon_ 10 (some 62) (dB 23 2047) ?_
            refine qon_ 11 (some 63) (dB 23 4095) ?_
            refine qon_ 12 (some 64) (dB 23 8191) ?_
            refine qon_ 14 (some 66) (dB 23 24575) ?_
            refine qon_ 18 (some 70) (dB 23 286719) ?_
            refine qtk_ 13 (some 65) (dB 23 294911) hHeld ?_
            refine qon_ 15 (some 67) (dB 23 327679) ?_
            refine qon_ 16 (some 68) (dB 23 393215) ?_
            refine qtk_ 17 (some 69) (dB 23 524287) hHeld ?_
            refine qtk_ 19 (some 71) (dB 23 1048575) hHeld ?_
            refine qon_ 20 (some 72) (dB 23 2097151) ?_
            refine qon_ 21 (some 73) (dB 23 4194303) ?_
            refine qon_ 22 (some 74) (dB 23 8388607) ?_
            refine done_ (by kernel_rfl) ?_
            obtain ⟨hw0, hw1, hw2, hw3, hw4⟩ := hHeld
            go_wp2_with (first
              | ((with_reducible refine gate_builtin (b := .append) (xs := #[.tmp 83, .tmp 89]) rfl ?_); at_builtin; refine Kd.R_append k53 (w0 := w) w.heap.size rfl (.tmp 83) (.tmp 89) 22 53 (.agg #[(.string ⟨#[]⟩), (.int .u64 0)]) 24 rfl Tryd.underlying22 info53 rfl (by decide) (by omega) (.slice As xs.length cs) xs (⟨s, ky⟩ : S53) [.string s, .int .u64 ky] (fun k_ => True ∧ some k_ ≠ (Value.slice At ys.length ct).ownBlock) (fun _ => False) rfl rfl ?aP (fun _ hk => hk.elim) ?aF ?aO ?aB ?aS ?aL ?_; (case aP => exact k53_mkM _ _ _ (⟨s, ky⟩ : S53)); (case aB => exact F.out.hb); (case aF => exact fresh_ne RT.out); (case aO => exact RS.out); (case aS => exact below_size F.out.hb); (case aL => have := LS.out; have := HI.out; omega); intro v1 y1 ho hb hg hat; have F1 := aS_ (F.out.grown RS.out hg hb); have RA := aS_ (Kd.R_after RT.out hg hat); have RB := aS_ ho; clear F RS RT hb hg hat ho hct0 hct1 hct2 hct3 hct4; have F := F1; clear F1))
            go_roundw
            case rel =>
              have hst := stk_val c false s ky _ _ HQ.out HKB.out
              refine ⟨i + 1, HLT.out, deed_next i HI.out, F, ⟨?_⟩, ⟨?_⟩⟩
              · rw [FS.out.1, HRD.out, hst.2]
                rw [if_pos (by decide)]
                exact RB.out
              · rw [FS.out.2, HRD.out, hst.1]
                rw [if_neg (by decide), List.append_nil]
                exact RA.out
            case measure => exact deed_less i l.length HI.out HLT.out
          · skip
            go_wp2
            have F1 := aS_ (F.out.below (below_drew (Below.refl _ _)))
            clear F
            have F := F1
            clear F1
            have RS1 := aS_ (Kd.R_below RS.out (below_drew (Below.refl _ _)))
            have RT1 := aS_ (Kd.R_below RT.out (below_drew (Below.refl _ _)))
            clear RS RT
            have RS := RS1
            have RT := RT1
            clear RS1 RT1
            refine start_ (n := 23) (S := fun w' => w'.cell? ⟨g2, 0, none⟩ = some (.slice (some ad) l.length c0) ∧ w'.cell? (ad.add (i * 2)) = some (.string s) ∧ w'.cell? ⟨(ad.add (i * 2)).block, (ad.add (i * 2)).off + 1, none⟩ = some (.int .u64 ky) ∧ w'.cell? ⟨g3, 2, none⟩ = some (.string c.f2) ∧ w'.cell? ⟨g3, 10, none⟩ = some (.int .u64 c.f10)) (ds := []) #[false, false, false, false, false, false, false, false, false, false, false, false, false, false, false, false, false, false, false, false, false, false, false] (by kernel_rfl) rfl rfl ⟨bC_ F.out.b2 0 rfl, HX0.out, HX1.out, bC_ F.out.b3 2 rfl, bC_ F.out.b3 10 rfl⟩ (fun hHeld => ?_)
            generalize wr.drew = wd at F RS RT hHeld ⊢
            refine qon_ 0 (some 52) (dB 23 1) ?_
            refine qon_ 2 (some 54) (dB 23 5) ?_
            refine qon_ 6 (some 58) (dB 23 69) ?_
            refine qtk_ 1 (some 53) (dB 23 71) hHeld ?_
            refine qon_ 3 (some 55) (dB 23 79) ?_
            refine qon_ 4 (some 56) (dB 23 95) ?_
            refine qtk_ 5 (some 57) (dB 23 127) hHeld ?_
            refine qtk_ 7 (some 59) (dB 23 255) hHeld ?_
            refine qon_ 8 (some 60) (dB 23 511) ?_
            refine qon_ 9 (some 61) (dB 23 1023) ?_
            refine qon_ 10 (some 62) (dB 23 2047) ?_
            refine qon_ 11 (some 63) (dB 23 4095) ?_
            refine qon_ 12 (some 64) (dB 23 8191) ?_
            refine qon_ 14 (some 66) (dB 23 24575) ?_
            refine qon_ 18 (some 70) (dB 23 286719) ?_
            refine qtk_ 13 (some 65) (dB 23 294911) hHeld ?_
            refine qon_ 15 (some 67) (dB 23 327679) ?_
            refine qon_ 16 (some 68) (dB 23 393215) ?_
            refine qtk_ 17 (some 69) (dB 23 524287) hHeld ?_
            refine qtk_ 19 (some 71) (dB 23 1048575) hHeld ?_
            refine qon_ 20 (some 72) (dB 23 2097151) ?_
            refine qon_ 21 (some 73) (dB 23 4194303) ?_
            refine qon_ 22 (some 74) (dB 23 8388607) ?_
            refine done_ (by kernel_rfl) ?_
            obtain ⟨hw0, hw1, hw2, hw3, hw4⟩ := hHeld
            go_wp2_with (first
              | ((with_reducible refine gate_builtin (b := .append) (xs := #[.tmp 75, .tmp 81]) rfl ?_); at_builtin; refine Kd.R_append k53 (w0 := w) w.heap.size rfl (.tmp 75) (.tmp 81) 22 53 (.agg #[(.string ⟨#[]⟩), (.int .u64 0)]) 24 rfl Tryd.underlying22 info53 rfl (by decide) (by omega) (.slice At ys.length ct) ys (⟨s, ky⟩ : S53) [.string s, .int .u64 ky] (fun k_ => True ∧ some k_ ≠ (Value.slice As xs.length cs).ownBlock) (fun _ => False) rfl rfl ?aP (fun _ hk => hk.elim) ?aF ?aO ?aB ?aS ?aL ?_; (case aP => exact k53_mkM _ _ _ (⟨s, ky⟩ : S53)); (case aB => exact F.out.hb); (case aF => exact fresh_ne RS.out); (case aO => exact RT.out); (case aS => exact below_size F.out.hb); (case aL => have := LS.out; have := HI.out; omega); intro v1 y1 ho hb hg hat; have F1 := aS_ (F.out.grown RT.out hg hb); have RA := aS_ (Kd.R_after RS.out hg hat); have RB := aS_ ho; clear F RS RT hb hg hat ho hct0 hct1 hct2 hct3 hct4; have F := F1; clear F1))
            go_roundw
            case rel =>
              have hst := stk_val c false s ky _ _ HQ.out HKB.out
              refine ⟨i + 1, HLT.out, deed_next i HI.out, F, ⟨?_⟩, ⟨?_⟩⟩
              · rw [FS.out.1, HRD.out, hst.2]
                rw [if_neg (by decide), List.append_nil]
                exact RA.out
              · rw [FS.out.2, HRD.out, hst.1]
                rw [if_pos (by decide)]
                exact RB.out
            case measure => exact deed_less i l.length HI.out HLT.out
        · have hne : (s.toList != c.f2.toList) = false := by rw [bne, hb1]; rfl
          cases kb
          all_goals
            go_wp2
            have F1 := aS_ (F.out.below (below_drew (Below.refl _ _)))
            clear F
            have F := F1
            clear F1
            have RS1 := aS_ (Kd.R_below RS.out (below_drew (Below.refl _ _)))
            have RT1 := aS_ (Kd.R_below RT.out (below_drew (Below.refl _ _)))
            clear RS RT
            have RS := RS1
            have RT := RT1
            clear RS1 RT1
            refine start_ (n := 23) (S := fun w' => w'.cell? ⟨g2, 0, none⟩ = some (.slice (some ad) l.length c0) ∧ w'.cell? (ad.add (i * 2)) = some (.string s) ∧ w'.cell? ⟨(ad.add (i * 2)).block, (ad.add (i * 2)).off + 1, none⟩ = some (.int .u64 ky) ∧ w'.cell? ⟨g3, 2, none⟩ = some (.string c.f2) ∧ w'.cell? ⟨g3, 10, none⟩ = some (.int .u64 c.f10)) (ds := []) #[false, false, false, false, false, false, false, false, false, false, false, false, false, false, false, false, false, false, false, false, false, false, false] (by kernel_rfl) rfl rfl ⟨bC_ F.out.b2 0 rfl, HX0.out, HX1.out, bC_ F.out.b3 2 rfl, bC_ F.out.b3 10 rfl⟩ (fun hHeld => ?_)
            generalize wr.drew = wd at F RS RT hHeld ⊢
            refine qon_ 0 (some 52) (dB 23 1) ?_
            refine qon_ 2 (some 54) (dB 23 5) ?_
            refine qon_ 6 (some 58) (dB 23 69) ?_
            refine qtk_ 1 (some 53) (dB 23 71) hHeld ?_
            refine qon_ 3 (some 55) (dB 23 79) ?_
            refine qon_ 4 (some 56) (dB 23 95) ?_
            refine qtk_ 5 (some 57) (dB 23 127) hHeld ?_
            refine qtk_ 7 (some 59) (dB 23 255) hHeld ?_
            refine qon_ 8 (some 60) (dB 23 511) ?_
            refine qon_ 9 (some 61) (dB 23 1023) ?_
            refine qof_ 10 (some 62) (dB 23 2047) ?_
            refine qof_ 11 (some 63) (dB 23 4095) ?_
            refine qof_ 12 (some 64) (dB 23 8191) ?_
            refine qof_ 13 (some 65) (dB 23 16383) ?_
            refine qof_ 14 (some 66) (dB 23 32767) ?_
            refine qof_ 15 (some 67) (dB 23 65535) ?_
            refine qof_ 16 (some 68) (dB 23 131071) ?_
            refine qof_ 17 (some 69) (dB 23 262143) ?_
            refine qof_ 18 (some 70) (dB 23 524287) ?_
            refine qof_ 19 (some 71) (dB 23 1048575) ?_
            refine qof_ 20 (some 72) (dB 23 2097151) ?_
            refine qof_ 21 (some 73) (dB 23 4194303) ?_
            refine qon_ 22 (some 74) (dB 23 8388607) ?_
            refine done_ (by kernel_rfl) ?_
            obtain ⟨hw0, hw1, hw2, hw3, hw4⟩ := hHeld
            go_wp2_with (first
              | ((with_reducible refine gate_builtin (b := .append) (xs := #[.tmp 83, .tmp 89]) rfl ?_); at_builtin; refine Kd.R_append k53 (w0 := w) w.heap.size rfl (.tmp 83) (.tmp 89) 22 53 (.agg #[(.string ⟨#[]⟩), (.int .u64 0)]) 24 rfl Tryd.underlying22 info53 rfl (by decide) (by omega) (.slice As xs.length cs) xs (⟨s, ky⟩ : S53) [.string s, .int .u64 ky] (fun k_ => True ∧ some k_ ≠ (Value.slice At ys.length ct).ownBlock) (fun _ => False) rfl rfl ?aP (fun _ hk => hk.elim) ?aF ?aO ?aB ?aS ?aL ?_; (case aP => exact k53_mkM _ _ _ (⟨s, ky⟩ : S53)); (case aB => exact F.out.hb); (case aF => exact fresh_ne RT.out); (case aO => exact RS.out); (case aS => exact below_size F.out.hb); (case aL => have := LS.out; have := HI.out; omega); intro v1 y1 ho hb hg hat; have F1 := aS_ (F.out.grown RS.out hg hb); have RA := aS_ (Kd.R_after RT.out hg hat); have RB := aS_ ho; clear F RS RT hb hg hat ho hct0 hct1 hct2 hct3 hct4; have F := F1; clear F1))
            go_roundw
            case rel =>
              have hst := stk_val c false s ky _ _ HQ.out HKB.out
              refine ⟨i + 1, HLT.out, deed_next i HI.out, F, ⟨?_⟩, ⟨?_⟩⟩
              · rw [FS.out.1, HRD.out, hst.2]
                rw [if_pos (by decide)]
                exact RB.out
              · rw [FS.out.2, HRD.out, hst.1]
                rw [if_neg (by decide), List.append_nil]
                exact RA.out
            case measure => exact deed_less i l.length HI.out HLT.out
      · have hil : i = l.length := by omega
        subst hil
        rw [List.take_length, ← HXS.out] at RS
        rw [List.take_length, ← HYS.out] at RT
        have d3 : decide ((l.length : Int) < (l.length : Int)) = false := decide_eq_false (by omega)
        obtain ⟨As, cs, es⟩ := Kd.R_slice RS.out
        obtain ⟨At, ct, et⟩ := Kd.R_slice RT.out
        subst es
        subst et
        obtain ⟨hct0, hct1, hct2, hct3, hct4⟩ := cells5 F.out.b2
        obtain ⟨-, -, hcc2, -, -, -, -, -, -, -, hcc10, hcc11, -, -⟩ := cells14 F.out.b3
        obtain ⟨hcr0, hcr1, hcr2, hcr3, hcr4, hcr5, hcr6⟩ := cells7 F.out.b4
        have hfr0 := bF_ F.out.b4 0
        have hfr1 := bF_ F.out.b4 1
        have hfr2 := bF_ F.out.b4 2
        have hfr3 := bF_ F.out.b4 3
        have hfr4 := bF_ F.out.b4 4
        have hfr5 := bF_ F.out.b4 5
        have hfr6 := bF_ F.out.b4 6
        have hft0 := bF_ F.out.b2 0
        have hft1 := bF_ F.out.b2 1
        have hft2 := bF_ F.out.b2 2
        have hft3 := bF_ F.out.b2 3
        have hft4 := bF_ F.out.b2 4
        have RS1 := aS_ (ok_any RS.out)
        have RT1 := aS_ (ok_any RT.out)
        clear RS RT
        have RS := RS1
        have RT := RT1
        clear RS1 RT1
        cases em
        · go_wp2
          refine Hand.at_world (fun w' => Aside0 (Rf w w' g2 g3 g4 c rg (tabc (.slice As xs.length cs) typ host ((gen + 1) % 4294967296) apt)) ∧ Aside0 (Kd.R k53 53 w' w.heap.size (fun _ => True) (.slice As xs.length cs) xs) ∧ Aside0 (Kd.R k53 53 w' w.heap.size (fun _ => True) (.slice At ys.length ct) ys)) ⟨⟨(F.out.put 0 _ rfl).put 3 _ rfl⟩, ⟨row_two F.out RS.out (by decide) 0 3 _ _⟩, ⟨row_two F.out RT.out (by decide) 0 3 _ _⟩⟩ ?_
          rintro w18 ⟨F1, RS1, RT1⟩
          clear F RS RT hct0 hct1 hct2 hct3 hct4 hcc2 hcc10 hcc11 hft0 hft1 hft2 hft3 hft4 hcr0 hfr0 hcr1 hfr1 hcr2 hfr2 hcr3 hfr3 hcr4 hfr4 hcr5 hfr5 hcr6 hfr6
          have F := F1
          have RS := RS1
          have RT := RT1
          clear F1 RS1 RT1
          have F1 := aS_ (F.out.below (below_drew (Below.refl _ _)))
          clear F
          have F := F1
          clear F1
          have RS1 := aS_ (Kd.R_below RS.out (below_drew (Below.refl _ _)))
          have RT1 := aS_ (Kd.R_below RT.out (below_drew (Below.refl _ _)))
          clear RS RT
          have RS := RS1
          have RT := RT1
          clear RS1 RT1
          refine start_ (n := 5) (S := fun w' => w'.cell? ⟨g2, 0, none⟩ = some (.slice As xs.length cs) ∧ w'.cell? ⟨g2, 1, none⟩ = some (.int .i64 typ) ∧ w'.cell? ⟨g2, 2, none⟩ = some (.string host) ∧ w'.cell? ⟨g2, 3, none⟩ = some (.int .u32 ((gen + 1) % 4294967296)) ∧ w'.cell? ⟨g2, 4, none⟩ = some (.bool apt)) (ds := [4]) #[false, false, false, false, false] (by kernel_rfl) rfl rfl ⟨bC_ F.out.b2 0 rfl, bC_ F.out.b2 1 rfl, bC_ F.out.b2 2 rfl, bC_ F.out.b2 3 rfl, bC_ F.out.b2 4 rfl⟩ (fun hHeld => ?_)
          generalize w18.drew = w19 at F RS RT hHeld ⊢
          refine qon_ 1 (some 114) (dB 5 2) ?_
          refine qtk_ 0 (some 113) (dB 5 3) hHeld ?_
          refine one_ (i := 2) (N := some 115) (dB 5 7) rfl rfl (by kernel_rfl) (by decide) (fun K hK => ?_)
          refine goes_ Tryd.func41 (by kernel_rfl) rfl #[.slice At ys.length ct, .string (⟨#[]⟩ : ByteArray), .int .i64 2] (by rfl) rfl rfl (by simp only [List.map_toArray, List.map_cons, List.map_nil]; rfl) ?_
          with_reducible refine (headgateref11_events.calls k At ct ys (⟨#[]⟩ : ByteArray) 2 evs _ (Kd.R_reads' RT.out).2.2 (Kd.R_reads' RT.out).2.1 HEV.out).mono ?_
          rintro e_ w20 ⟨v5, rfl, hv, hb⟩
          have RV := aS_ (R_re46 hv (below_size F.out.hb) (fun _ _ _ => trivial) (ok' := fun _ => True))
          obtain ⟨Av, cv, ev_⟩ := Kd.R_slice hv
          subst ev_
          clear hv
          have F1 := aS_ (F.out.below hb)
          have RS1 := aS_ (Kd.R_below RS.out hb)
          have RT1 := aS_ (Kd.R_below RT.out hb)
          clear F RS RT hb
          have F := F1
          have RS := RS1
          have RT := RT1
          clear F1 RS1 RT1
          refine ⟨_, rfl, ?_⟩
          refine hK.out _ _ ⟨bC_ F.out.b2 0 rfl, bC_ F.out.b2 1 rfl, bC_ F.out.b2 2 rfl, bC_ F.out.b2 3 rfl, bC_ F.out.b2 4 rfl⟩ (fun hHeld => ?_)
          clear hK K
          refine norm_ (a' := ?_) ?_ ?_
          rotate_left
          ·show Act.put _ (some 115) _ = _
           simp only [Act.put, la_, lb_, lc_, i64_w, i32_w]
           rfl
          refine qon_ 3 (some 116) (dB 5 15) ?_
          refine last_ (i := 4) (N := none) (dB 5 31) rfl rfl (by kernel_rfl) (by decide) (fun K hK => ?_)
          obtain ⟨hcr0, hcr1, hcr2, hcr3, hcr4, hcr5, hcr6⟩ := cells7 F.out.b4
          have hfr0 := bF_ F.out.b4 0
          have hfr1 := bF_ F.out.b4 1
          have hfr2 := bF_ F.out.b4 2
          have hfr3 := bF_ F.out.b4 3
          have hfr4 := bF_ F.out.b4 4
          have hfr5 := bF_ F.out.b4 5
          have hfr6 := bF_ F.out.b4 6
          refine skip_ (w1 := ?_) (by rfl) rfl ?_ ?_
          rotate_left
          ·go_simp
           rfl
          refine hK.out _ _ ?_
          clear hK K
          refine done_ (by kernel_rfl) ?_
          go_wp2
          (try simp only [Exit.inBlock, Exit.then])
          refine ret_out rfl rfl rfl (F.out.out _ _ _ _ _ _ _).1 hu40 rfl rfl ?_
          exact Or.inr ⟨hem, _, _, rfl, row_out RS.out F.out.b4 (by decide) _ _ _ _ _ _ _, row_out RV.out F.out.b4 (by decide) _ _ _ _ _ _ _, (F.out.out _ _ _ _ _ _ _).2⟩
        · go_wp2
          (try simp only [Exit.inBlock, Exit.then])
          refine ret_out rfl rfl rfl (F.out.out _ _ _ _ _ _ _).1 hu40 rfl rfl ?_
          exact Or.inl ⟨hem, rfl, (F.out.out _ _ _ _ _ _ _).2⟩
theorem rf_pre_wrongk (k : Nat) (A0 : Option Addr) (c0 : Nat) (l : List S53) (typ : Int) (host : ByteArray) (gen : Int) (apt : Bool) (c : S31) (rg : Value) (w : World) (hr : Kd.C k53 w A0 l.length l) (hc : l.length ≤ c0) (hb4 : decide (4 < typ) = false) (hz : (c.f10 == 0) = true) (hal : headgateref11_alone.f typ = some true) (kh : Int) (hkh : headgateref11_Key.f k l typ host gen apt host = some kh) (hq : (kh == c.f10) = false)  :
    Calls Tryd.prog 42 #[.agg (tabc (.slice A0 l.length c0) typ host gen apt), .agg (cmdc c rg)] w fun e w' => e = .returned (.agg (outd (.slice A0 l.length c0) typ host gen apt (.slice none 0 0) 5)) ∧ Below w.heap.size w w' := by
  have hu27 := Tryd.underlying27
  have hu24 := Tryd.underlying24
  have hu31 := Tryd.underlying31
  have hu40 := Tryd.underlying40
  have hu53 := Tryd.underlying53
  have HR := aS_ hr
  have HC := aS_ hc
  have HB := aS_ (Below.refl w.heap.size w)
  clear hr hc
  unfold tabc cmdc
  have HAL := aS_ hal
  clear hal
  have HKH := aS_ hkh
  clear hkh
  go_enter Tryd.func42, Tryd.ntmps42
  go_wp2_with (first
    | ((with_reducible refine gate_dst (N := 2) rfl ?_); refine bX_ (N := 2) (cs := tabc (.slice A0 l.length c0) typ host gen apt) (t := 27) ?hr ?_; (case hr => first | (go_simp; done) | (go_simp; rfl)); intro g2 hgg2 w2 hxg2 hyg2; have X2 := aS_ hxg2; have Y2 := aS_ hyg2; have Z2 := aS_ hgg2; clear hxg2 hyg2 hgg2)
    | ((with_reducible refine gate_dst (N := 3) rfl ?_); refine bX_ (N := 3) (cs := cmdc c rg) (t := 31) ?hr ?_; (case hr => first | (go_simp; done) | (go_simp; rfl)); intro g3 hgg3 w3 hxg3 hyg3; have X3 := aS_ hxg3; have Y3 := aS_ hyg3; have Z3 := aS_ (show g2 < g3 by rw [hgg3]; exact blk_lt X2.out); clear hxg3 hyg3 hgg3)
    | ((with_reducible refine gate_dst (N := 4) rfl ?_); refine bX_ (N := 4) (cs := outc) (t := 40) ?hr ?_; (case hr => first | (go_simp; done) | (go_simp; rfl)); intro g4 hgg4 w4 hxg4 hyg4; have hlt3 := blk_lt (blk_below X2.out Y3.out); have hlt4 := blk_lt X3.out; have hz2 := below_size (below_step HB.out (below_step Y2.out Y3.out)); have F := aS_ (Rf.mk (w0 := w) (by have := Z2.out; have := below_size HB.out; omega) (by omega) (by omega) (by have := Z3.out; omega) (by omega) (blk_below (blk_below X2.out Y3.out) hyg4) (blk_below X3.out hyg4) hxg4 (below_step HB.out (below_step Y2.out (below_step Y3.out hyg4)))); have n42 := F.out.n42; have n24 := F.out.n42.symm; clear hlt3 hlt4 hz2 X2 X3 Y2 Y3 Z2 Z3 hxg4 hyg4 hgg4; obtain ⟨hct0, hct1, hct2, hct3, hct4⟩ := cells5 F.out.b2; obtain ⟨-, -, hcc2, -, -, -, -, -, -, -, hcc10, hcc11, -, -⟩ := cells14 F.out.b3; obtain ⟨hcr0, hcr1, hcr2, hcr3, hcr4, hcr5, hcr6⟩ := cells7 F.out.b4; have hfr0 := bF_ F.out.b4 0; have hfr1 := bF_ F.out.b4 1; have hfr2 := bF_ F.out.b4 2; have hfr3 := bF_ F.out.b4 3; have hfr4 := bF_ F.out.b4 4; have hfr5 := bF_ F.out.b4 5; have hfr6 := bF_ F.out.b4 6))
  clear hct0 hct1 hct2 hct3 hct4 hcc2 hcc10 hcc11 hcr0 hfr0 hcr1 hfr1 hcr2 hfr2 hcr3 hfr3 hcr4 hfr4 hcr5 hfr5 hcr6 hfr6
  have F1 := aS_ (F.out.below (below_drew (Below.refl _ _)))
  clear F
  have F := F1
  clear F1
  refine start_ (n := 18) (S := fun w' => w'.cell? ⟨g2, 0, none⟩ = some (.slice A0 l.length c0) ∧ w'.cell? ⟨g2, 1, none⟩ = some (.int .i64 typ) ∧ w'.cell? ⟨g2, 2, none⟩ = some (.string host) ∧ w'.cell? ⟨g2, 3, none⟩ = some (.int .u32 gen) ∧ w'.cell? ⟨g2, 4, none⟩ = some (.bool apt) ∧ w'.cell? ⟨g3, 10, none⟩ = some (.int .u64 c.f10)) (ds := []) #[false, false, false, false, false, false, false, false, false, false, false, false, false, false, false, false, false, false] (by kernel_rfl) rfl rfl ⟨bC_ F.out.b2 0 rfl, bC_ F.out.b2 1 rfl, bC_ F.out.b2 2 rfl, bC_ F.out.b2 3 rfl, bC_ F.out.b2 4 rfl, bC_ F.out.b3 10 rfl⟩ (fun hHeld => ?_)
  generalize w4.drew = w5 at F hHeld ⊢
  refine qon_ 0 (some 19) (dB 18 1) ?_
  refine qon_ 1 (some 20) (dB 18 3) ?_
  refine qon_ 2 (some 21) (dB 18 7) ?_
  refine qon_ 3 (some 22) (dB 18 15) ?_
  refine qtk_ 4 (some 23) (dB 18 31) hHeld ?_
  refine one_ (i := 5) (N := some 24) (dB 18 63) rfl rfl (by kernel_rfl) (by decide) (fun K hK => ?_)
  refine goes_ Tryd.func43 (by kernel_rfl) rfl #[.int .i64 typ] (by rfl) rfl rfl (by simp only [List.map_toArray, List.map_cons, List.map_nil]; rfl) ?_
  with_reducible refine (headgateref11_alone.calls typ true _ HAL.out).mono ?_
  rintro e_ w6 ⟨rfl, hd⟩
  have hb := hd.below
  clear hd
  have F1 := aS_ (F.out.below hb)
  clear F hb
  have F := F1
  clear F1
  refine ⟨_, rfl, ?_⟩
  refine hK.out _ _ ⟨bC_ F.out.b2 0 rfl, bC_ F.out.b2 1 rfl, bC_ F.out.b2 2 rfl, bC_ F.out.b2 3 rfl, bC_ F.out.b2 4 rfl, bC_ F.out.b3 10 rfl⟩ (fun hHeld => ?_)
  clear hK K
  refine norm_ (a' := ?_) ?_ ?_
  rotate_left
  ·show Act.put _ (some 24) _ = _
   simp only [Act.put, la_, lb_, lc_, i64_w, i32_w]
   rfl
  refine qon_ 6 (some 25) (dB 18 127) ?_
  refine qon_ 8 (some 27) (dB 18 383) ?_
  refine qon_ 9 (some 28) (dB 18 895) ?_
  refine qon_ 12 (some 31) (dB 18 4991) ?_
  refine qtk_ 7 (some 26) (dB 18 5119) hHeld ?_
  refine qtk_ 10 (some 29) (dB 18 6143) hHeld ?_
  refine qtk_ 13 (some 32) (dB 18 14335) hHeld ?_
  refine one_ (i := 11) (N := some 30) (dB 18 16383) rfl rfl (by kernel_rfl) (by decide) (fun K hK => ?_)
  refine goes_ Tryd.func19 (by kernel_rfl) rfl #[.agg #[.slice A0 l.length c0, .int .i64 typ, .string host, .int .u32 gen, .bool apt], .string host] (by rfl) rfl rfl (by simp only [List.map_toArray, List.map_cons, List.map_nil]; rfl) ?_
  with_reducible refine (headgateref11_Key.calls k A0 c0 l typ host gen apt host kh _ (Kd.C_below HR.out F.out.hb) HC.out HKH.out).mono ?_
  rintro e_ w7 ⟨rfl, hb⟩
  have F1 := aS_ (F.out.below hb)
  clear F hb
  have F := F1
  clear F1
  refine ⟨_, rfl, ?_⟩
  refine hK.out _ _ ⟨bC_ F.out.b2 0 rfl, bC_ F.out.b2 1 rfl, bC_ F.out.b2 2 rfl, bC_ F.out.b2 3 rfl, bC_ F.out.b2 4 rfl, bC_ F.out.b3 10 rfl⟩ (fun hHeld => ?_)
  clear hK K
  refine norm_ (a' := ?_) ?_ ?_
  rotate_left
  ·show Act.put _ (some 30) _ = _
   simp only [Act.put, la_, lb_, lc_, i64_w, i32_w]
   rfl
  refine qon_ 14 (some 33) (dB 18 32767) ?_
  refine qon_ 15 (some 34) (dB 18 65535) ?_
  refine qon_ 16 (some 35) (dB 18 131071) ?_
  refine qon_ 17 (some 6) (dB 18 262143) ?_
  refine done_ (by kernel_rfl) ?_
  (first | refine deed_then (fun w' => Aside0 (Rf w w' g2 g3 g4 c rg (tabc (.slice A0 l.length c0) typ host gen apt))) F ?_ | refine deed_exit (fun w' => Aside0 (Rf w w' g2 g3 g4 c rg (tabc (.slice A0 l.length c0) typ host gen apt))) F ?_)
  intro wv FV
  clear F
  have F := FV
  clear FV
  obtain ⟨hct0, hct1, hct2, hct3, hct4⟩ := cells5 F.out.b2
  obtain ⟨-, -, hcc2, -, -, -, -, -, -, -, hcc10, hcc11, -, -⟩ := cells14 F.out.b3
  obtain ⟨hcr0, hcr1, hcr2, hcr3, hcr4, hcr5, hcr6⟩ := cells7 F.out.b4
  have hfr0 := bF_ F.out.b4 0
  have hfr1 := bF_ F.out.b4 1
  have hfr2 := bF_ F.out.b4 2
  have hfr3 := bF_ F.out.b4 3
  have hfr4 := bF_ F.out.b4 4
  have hfr5 := bF_ F.out.b4 5
  have hfr6 := bF_ F.out.b4 6
  have hft0 := bF_ F.out.b2 0
  have hft1 := bF_ F.out.b2 1
  have hft2 := bF_ F.out.b2 2
  have hft3 := bF_ F.out.b2 3
  have hft4 := bF_ F.out.b2 4
  go_wp2
  (try simp only [Exit.inBlock, Exit.then])
  refine ret_out rfl rfl rfl (F.out.out _ _ _ _ _ _ _).1 hu40 rfl rfl ?_
  exact ⟨rfl, (F.out.out _ _ _ _ _ _ _).2⟩
theorem rf_pre_wrongn (k : Nat) (A0 : Option Addr) (c0 : Nat) (l : List S53) (typ : Int) (host : ByteArray) (gen : Int) (apt : Bool) (c : S31) (rg : Value) (w : World) (hr : Kd.C k53 w A0 l.length l) (hc : l.length ≤ c0) (hb4 : decide (4 < typ) = false) (hz : (c.f10 == 0) = true) (hal : headgateref11_alone.f typ = some false)  :
    Calls Tryd.prog 42 #[.agg (tabc (.slice A0 l.length c0) typ host gen apt), .agg (cmdc c rg)] w fun e w' => e = .returned (.agg (outd (.slice A0 l.length c0) typ host gen apt (.slice none 0 0) 5)) ∧ Below w.heap.size w w' := by
  have hu27 := Tryd.underlying27
  have hu24 := Tryd.underlying24
  have hu31 := Tryd.underlying31
  have hu40 := Tryd.underlying40
  have hu53 := Tryd.underlying53
  have HR := aS_ hr
  have HC := aS_ hc
  have HB := aS_ (Below.refl w.heap.size w)
  clear hr hc
  unfold tabc cmdc
  have HAL := aS_ hal
  clear hal
  go_enter Tryd.func42, Tryd.ntmps42
  go_wp2_with (first
    | ((with_reducible refine gate_dst (N := 2) rfl ?_); refine bX_ (N := 2) (cs := tabc (.slice A0 l.length c0) typ host gen apt) (t := 27) ?hr ?_; (case hr => first | (go_simp; done) | (go_simp; rfl)); intro g2 hgg2 w2 hxg2 hyg2; have X2 := aS_ hxg2; have Y2 := aS_ hyg2; have Z2 := aS_ hgg2; clear hxg2 hyg2 hgg2)
    | ((with_reducible refine gate_dst (N := 3) rfl ?_); refine bX_ (N := 3) (cs := cmdc c rg) (t := 31) ?hr ?_; (case hr => first | (go_simp; done) | (go_simp; rfl)); intro g3 hgg3 w3 hxg3 hyg3; have X3 := aS_ hxg3; have Y3 := aS_ hyg3; have Z3 := aS_ (show g2 < g3 by rw [hgg3]; exact blk_lt X2.out); clear hxg3 hyg3 hgg3)
    | ((with_reducible refine gate_dst (N := 4) rfl ?_); refine bX_ (N := 4) (cs := outc) (t := 40) ?hr ?_; (case hr => first | (go_simp; done) | (go_simp; rfl)); intro g4 hgg4 w4 hxg4 hyg4; have hlt3 := blk_lt (blk_below X2.out Y3.out); have hlt4 := blk_lt X3.out; have hz2 := below_size (below_step HB.out (below_step Y2.out Y3.out)); have F := aS_ (Rf.mk (w0 := w) (by have := Z2.out; have := below_size HB.out; omega) (by omega) (by omega) (by have := Z3.out; omega) (by omega) (blk_below (blk_below X2.out Y3.out) hyg4) (blk_below X3.out hyg4) hxg4 (below_step HB.out (below_step Y2.out (below_step Y3.out hyg4)))); have n42 := F.out.n42; have n24 := F.out.n42.symm; clear hlt3 hlt4 hz2 X2 X3 Y2 Y3 Z2 Z3 hxg4 hyg4 hgg4; obtain ⟨hct0, hct1, hct2, hct3, hct4⟩ := cells5 F.out.b2; obtain ⟨-, -, hcc2, -, -, -, -, -, -, -, hcc10, hcc11, -, -⟩ := cells14 F.out.b3; obtain ⟨hcr0, hcr1, hcr2, hcr3, hcr4, hcr5, hcr6⟩ := cells7 F.out.b4; have hfr0 := bF_ F.out.b4 0; have hfr1 := bF_ F.out.b4 1; have hfr2 := bF_ F.out.b4 2; have hfr3 := bF_ F.out.b4 3; have hfr4 := bF_ F.out.b4 4; have hfr5 := bF_ F.out.b4 5; have hfr6 := bF_ F.out.b4 6))
  clear hct0 hct1 hct2 hct3 hct4 hcc2 hcc10 hcc11 hcr0 hfr0 hcr1 hfr1 hcr2 hfr2 hcr3 hfr3 hcr4 hfr4 hcr5 hfr5 hcr6 hfr6
  have F1 := aS_ (F.out.below (below_drew (Below.refl _ _)))
  clear F
  have F := F1
  clear F1
  refine start_ (n := 18) (S := fun w' => w'.cell? ⟨g2, 0, none⟩ = some (.slice A0 l.length c0) ∧ w'.cell? ⟨g2, 1, none⟩ = some (.int .i64 typ) ∧ w'.cell? ⟨g2, 2, none⟩ = some (.string host) ∧ w'.cell? ⟨g2, 3, none⟩ = some (.int .u32 gen) ∧ w'.cell? ⟨g2, 4, none⟩ = some (.bool apt) ∧ w'.cell? ⟨g3, 10, none⟩ = some (.int .u64 c.f10)) (ds := []) #[false, false, false, false, false, false, false, false, false, false, false, false, false, false, false, false, false, false] (by kernel_rfl) rfl rfl ⟨bC_ F.out.b2 0 rfl, bC_ F.out.b2 1 rfl, bC_ F.out.b2 2 rfl, bC_ F.out.b2 3 rfl, bC_ F.out.b2 4 rfl, bC_ F.out.b3 10 rfl⟩ (fun hHeld => ?_)
  generalize w4.drew = w5 at F hHeld ⊢
  refine qon_ 0 (some 19) (dB 18 1) ?_
  refine qon_ 1 (some 20) (dB 18 3) ?_
  refine qon_ 2 (some 21) (dB 18 7) ?_
  refine qon_ 3 (some 22) (dB 18 15) ?_
  refine qtk_ 4 (some 23) (dB 18 31) hHeld ?_
  refine one_ (i := 5) (N := some 24) (dB 18 63) rfl rfl (by kernel_rfl) (by decide) (fun K hK => ?_)
  refine goes_ Tryd.func43 (by kernel_rfl) rfl #[.int .i64 typ] (by rfl) rfl rfl (by simp only [List.map_toArray, List.map_cons, List.map_nil]; rfl) ?_
  with_reducible refine (headgateref11_alone.calls typ false _ HAL.out).mono ?_
  rintro e_ w6 ⟨rfl, hd⟩
  have hb := hd.below
  clear hd
  have F1 := aS_ (F.out.below hb)
  clear F hb
  have F := F1
  clear F1
  refine ⟨_, rfl, ?_⟩
  refine hK.out _ _ ⟨bC_ F.out.b2 0 rfl, bC_ F.out.b2 1 rfl, bC_ F.out.b2 2 rfl, bC_ F.out.b2 3 rfl, bC_ F.out.b2 4 rfl, bC_ F.out.b3 10 rfl⟩ (fun hHeld => ?_)
  clear hK K
  refine norm_ (a' := ?_) ?_ ?_
  rotate_left
  ·show Act.put _ (some 24) _ = _
   simp only [Act.put, la_, lb_, lc_, i64_w, i32_w]
   rfl
  refine qon_ 6 (some 25) (dB 18 127) ?_
  refine qof_ 7 (some 26) (dB 18 255) ?_
  refine qof_ 8 (some 27) (dB 18 511) ?_
  refine qof_ 9 (some 28) (dB 18 1023) ?_
  refine qof_ 10 (some 29) (dB 18 2047) ?_
  refine qof_ 11 (some 30) (dB 18 4095) ?_
  refine qof_ 12 (some 31) (dB 18 8191) ?_
  refine qof_ 13 (some 32) (dB 18 16383) ?_
  refine qof_ 14 (some 33) (dB 18 32767) ?_
  refine qon_ 15 (some 34) (dB 18 65535) ?_
  refine qon_ 16 (some 35) (dB 18 131071) ?_
  refine qon_ 17 (some 6) (dB 18 262143) ?_
  refine done_ (by kernel_rfl) ?_
  (first | refine deed_then (fun w' => Aside0 (Rf w w' g2 g3 g4 c rg (tabc (.slice A0 l.length c0) typ host gen apt))) F ?_ | refine deed_exit (fun w' => Aside0 (Rf w w' g2 g3 g4 c rg (tabc (.slice A0 l.length c0) typ host gen apt))) F ?_)
  intro wv FV
  clear F
  have F := FV
  clear FV
  obtain ⟨hct0, hct1, hct2, hct3, hct4⟩ := cells5 F.out.b2
  obtain ⟨-, -, hcc2, -, -, -, -, -, -, -, hcc10, hcc11, -, -⟩ := cells14 F.out.b3
  obtain ⟨hcr0, hcr1, hcr2, hcr3, hcr4, hcr5, hcr6⟩ := cells7 F.out.b4
  have hfr0 := bF_ F.out.b4 0
  have hfr1 := bF_ F.out.b4 1
  have hfr2 := bF_ F.out.b4 2
  have hfr3 := bF_ F.out.b4 3
  have hfr4 := bF_ F.out.b4 4
  have hfr5 := bF_ F.out.b4 5
  have hfr6 := bF_ F.out.b4 6
  have hft0 := bF_ F.out.b2 0
  have hft1 := bF_ F.out.b2 1
  have hft2 := bF_ F.out.b2 2
  have hft3 := bF_ F.out.b2 3
  have hft4 := bF_ F.out.b2 4
  go_wp2
  (try simp only [Exit.inBlock, Exit.then])
  refine ret_out rfl rfl rfl (F.out.out _ _ _ _ _ _ _).1 hu40 rfl rfl ?_
  exact ⟨rfl, (F.out.out _ _ _ _ _ _ _).2⟩
end Go.Proofs.YtjogkfcjlljjcaaDoor.P
