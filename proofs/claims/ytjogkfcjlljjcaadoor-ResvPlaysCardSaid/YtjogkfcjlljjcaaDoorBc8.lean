-- joined by this session's wip/tools/pack.py: words of the kit's print, cut to what the claim names; functions printed by a patched copy of the printer; walks and lemmas of this session; Lean checks it
import Derived.Test.YtjogkfcjlljjcaaDoorBc7
import Derived.Maps.Own
import Derived.Maps.OwnOps
import Derived.Maps.OwnSet
import Derived.Maps.Views
import Derived.Carry
import Derived.Lib.SliceRun
import Derived.Deep.QuietTactic
import Derived.BigQuiet
import Derived.OwnWalk
import Derived.ProofKit
import Derived.ChangeArms
import Derived.DataReads
import Derived.Lib.LaidTab
set_option maxHeartbeats 40000000
set_option maxRecDepth 100000
namespace Go.Proofs.YtjogkfcjlljjcaaDoor.P
open Go.RowKit Go.Proofs.YtjogkfcjlljjcaaDoorW.PrintWords Go.Proofs.YtjogkfcjlljjcaaDoorW.PrintLast Go.Proofs.YtjogkfcjlljjcaaDoorW.PrintMore
attribute [local go_sem] max2_int min2_int max_two min_two max_three min_three max_four min_four   -- for this text's walks alone
set_option linter.unusedVariables false
set_option linter.unusedSimpArgs false
set_option linter.unnecessarySimpa false
theorem Kt.trans {w w1 w2 : World} (h : Kt w w1) (h2 : Kt w1 w2) : Kt w w2 := fun b t cs ht hb => h2 b t cs ht (h b t cs ht hb)
def tq0 : Array Value := #[.slice none 0 0, .int .i64 0, .string (⟨#[]⟩ : ByteArray), .int .u32 0, .bool false, .slice none 0 0, .int .i64 1]
structure Rw (w0 wb w : World) (g2 g3 g4 g6 : Nat) (c : S31) (rg : Value) (tc tq : Array Value) (v0 : Value) (l : List S53) (v5 : Value) (ev : List S46) : Prop where
  f : Rf w0 w g2 g3 g4 c rg tc
  z2 : wb.heap.size ≤ g2
  z4 : wb.heap.size ≤ g4
  z6 : wb.heap.size ≤ g6
  o6 : w0.heap.size ≤ g6
  n62 : g6 ≠ g2
  n63 : g6 ≠ g3
  n64 : g6 ≠ g4
  b6 : w.heap[g6]? = some (.cells tq 40 (0, 0))
  r0 : Kd.R k53 53 w w0.heap.size (fun _ => True) v0 l
  r5 : Kd.R k46 46 w w0.heap.size (fun _ => True) v5 ev
  kt : Kt wb w
theorem Kt.put {wb w : World} (h : Kt wb w) {g : Nat} (hg : wb.heap.size ≤ g) (j : Nat) (v : Value) : Kt wb (w.setCell ⟨g, j, none⟩ v) := fun b t cs ht hb => blk_far (h b t cs ht hb) (p := ⟨g, j, none⟩) (fun e => by have h1 := blk_lt hb; have h2 : b = g := e; omega) v
theorem Rw.start {w0 wb w5 w6 : World} {g2 g3 g4 g6 : Nat} {c : S31} {rg : Value} {tc tq : Array Value} {v0 : Value} {l : List S53} (F : Rf wb w5 g2 g3 g4 c rg tc) (hb0 : Below w0.heap.size w0 wb) (hx : w6.heap[g6]? = some (.cells tq 40 (0, 0))) (hy : Below w5.heap.size w5 w6) (hg : g6 = w5.heap.size) (hr : Kd.R k53 53 wb w0.heap.size (fun _ => True) v0 l) : Rw w0 wb w6 g2 g3 g4 g6 c rg tc tq v0 l (.slice none 0 0) [] := by
  have h1 := blk_lt F.b2;have h2 := blk_lt F.b3;have h3 := blk_lt F.b4;have h4 := below_size F.hb;have h5 := below_size hb0;have hb := below_step F.hb hy;exact ⟨⟨Nat.le_trans h5 F.o2, Nat.le_trans h5 F.o4, F.n42, F.n32, F.n43, blk_below F.b2 hy, blk_below F.b3 hy, blk_below F.b4 hy, below_step hb0 hb⟩, F.o2, F.o4, by omega, by omega, by omega, by omega, by omega, hx, Kd.R_below hr hb, Kd.R_nil _ _ _ _ _, Kt.of_below hb⟩
theorem Rw.below {w0 wb w w1 : World} {g2 g3 g4 g6 : Nat} {c : S31} {rg : Value} {tc tq : Array Value} {v0 : Value} {l : List S53} {v5 : Value} {ev : List S46} (h : Rw w0 wb w g2 g3 g4 g6 c rg tc tq v0 l v5 ev) (hb : Below w.heap.size w w1) : Rw w0 wb w1 g2 g3 g4 g6 c rg tc tq v0 l v5 ev :=
  ⟨h.f.below hb, h.z2, h.z4, h.z6, h.o6, h.n62, h.n63, h.n64, blk_below h.b6 hb, Kd.R_below h.r0 hb, Kd.R_below h.r5 hb, h.kt.trans (Kt.of_below hb)⟩
theorem Rw.row {w0 wb w : World} {g2 g3 g4 g6 : Nat} {c : S31} {rg : Value} {tc tq : Array Value} {v0 : Value} {l : List S53} {v5 : Value} {ev : List S46} (h : Rw w0 wb w g2 g3 g4 g6 c rg tc tq v0 l v5 ev) {v0' : Value} {l' : List S53} {b : Nat} (hr : Kd.R k53 53 w b (fun _ => True) v0' l') (hb : w0.heap.size ≤ b) : Rw w0 wb w g2 g3 g4 g6 c rg tc tq v0' l' v5 ev :=
  ⟨h.f, h.z2, h.z4, h.z6, h.o6, h.n62, h.n63, h.n64, h.b6, R_re53 hr hb (fun _ _ _ => trivial), h.r5, h.kt⟩
theorem Rw.told {w0 wb w : World} {g2 g3 g4 g6 : Nat} {c : S31} {rg : Value} {tc tq : Array Value} {v0 : Value} {l : List S53} {v5 : Value} {ev : List S46} (h : Rw w0 wb w g2 g3 g4 g6 c rg tc tq v0 l v5 ev) {v5' : Value} {ev' : List S46} {b : Nat} (hr : Kd.R k46 46 w b (fun _ => True) v5' ev') (hb : w0.heap.size ≤ b) : Rw w0 wb w g2 g3 g4 g6 c rg tc tq v0 l v5' ev' :=
  ⟨h.f, h.z2, h.z4, h.z6, h.o6, h.n62, h.n63, h.n64, h.b6, h.r0, R_re46 hr hb (fun _ _ _ => trivial), h.kt⟩
theorem Rw.put2 {w0 wb w : World} {g2 g3 g4 g6 : Nat} {c : S31} {rg : Value} {tc tq : Array Value} {v0 : Value} {l : List S53} {v5 : Value} {ev : List S46} (h : Rw w0 wb w g2 g3 g4 g6 c rg tc tq v0 l v5 ev) (j : Nat) (v : Value) {tc' : Array Value} (e : tc.setIfInBounds j v = tc') : Rw w0 wb (w.setCell ⟨g2, j, none⟩ v) g2 g3 g4 g6 c rg tc' tq v0 l v5 ev :=
  ⟨h.f.put j v e, h.z2, h.z4, h.z6, h.o6, h.n62, h.n63, h.n64, blk_far h.b6 (p := ⟨g2, j, none⟩) h.n62 v, Kd.R_set h.r0 h.f.b2 (by decide) j v, Kd.R_set h.r5 h.f.b2 (by decide) j v, h.kt.put h.z2 j v⟩
theorem Rw.put6 {w0 wb w : World} {g2 g3 g4 g6 : Nat} {c : S31} {rg : Value} {tc tq : Array Value} {v0 : Value} {l : List S53} {v5 : Value} {ev : List S46} (h : Rw w0 wb w g2 g3 g4 g6 c rg tc tq v0 l v5 ev) (j : Nat) (v : Value) {tq' : Array Value} (e : tq.setIfInBounds j v = tq') : Rw w0 wb (w.setCell ⟨g6, j, none⟩ v) g2 g3 g4 g6 c rg tc tq' v0 l v5 ev :=
  ⟨⟨h.f.o2, h.f.o4, h.f.n42, h.f.n32, h.f.n43, blk_far h.f.b2 (p := ⟨g6, j, none⟩) h.n62.symm v, blk_far h.f.b3 (p := ⟨g6, j, none⟩) h.n63.symm v, blk_far h.f.b4 (p := ⟨g6, j, none⟩) h.n64.symm v, below_set h.f.hb h.o6⟩, h.z2, h.z4, h.z6, h.o6, h.n62, h.n63, h.n64, blk_put h.b6 j v e, Kd.R_set h.r0 h.b6 (by decide) j v, Kd.R_set h.r5 h.b6 (by decide) j v, h.kt.put h.z6 j v⟩
theorem Rw.fin {w0 wb w : World} {g2 g3 g4 g6 : Nat} {c : S31} {rg : Value} {tc tq : Array Value} {v0 : Value} {l : List S53} {v5 : Value} {ev : List S46} (h : Rw w0 wb w g2 g3 g4 g6 c rg tc tq v0 l v5 ev) (x0 x1 x2 x3 x4 x5 x6 : Value) : Kd.R k53 53 (outw w g4 x0 x1 x2 x3 x4 x5 x6) w0.heap.size (fun _ => True) v0 l ∧ Kd.R k46 46 (outw w g4 x0 x1 x2 x3 x4 x5 x6) w0.heap.size (fun _ => True) v5 ev ∧ Below w0.heap.size w0 (outw w g4 x0 x1 x2 x3 x4 x5 x6) ∧ Kt wb (outw w g4 x0 x1 x2 x3 x4 x5 x6) :=
  ⟨row_out h.r0 h.f.b4 (by decide) _ _ _ _ _ _ _, row_out h.r5 h.f.b4 (by decide) _ _ _ _ _ _ _, (h.f.out _ _ _ _ _ _ _).2, ((((((h.kt.put h.z4 0 _).put h.z4 1 _).put h.z4 2 _).put h.z4 3 _).put h.z4 4 _).put h.z4 5 _).put h.z4 6 _⟩
theorem apt4 (c : S31) (apt : Bool) : ((aptP c apt = false ∧ (c.f13 == 1) = true ∧ (c.f13 == 2) = false) ∨ (aptP c apt = true ∧ (c.f13 == 1) = false ∧ (c.f13 == 2) = true)) ∨ (apt = aptP c apt ∧ (c.f13 == 1) = false ∧ (c.f13 == 2) = false) := by
  rcases apt3 c apt with ⟨h, h1⟩ | h | h
  · exact Or.inl (Or.inl ⟨h, h1, by have := beq_iff_eq.mp h1; rw [this]; rfl⟩)
  · exact Or.inl (Or.inr h)
  · exact Or.inr h
theorem rf_reg_no (k : Nat) (A0 : Option Addr) (c0 : Nat) (l : List S53) (typ : Int) (host : ByteArray) (gen : Int) (apt : Bool) (c : S31) (rg : Value) (w0 w : World) (hb0 : Below w0.heap.size w0 w) (hr : Kd.R k53 53 w w0.heap.size (fun _ => True) (.slice A0 l.length c0) l) (kk : Int) (hkk : headgateref11_Key.f k l typ host gen apt c.f2 = some kk) (f12 : c.f12 = false) (hk8 : (c.f8 != kk) = true) :
  Calls Tryd.prog 37 #[.agg (tabc (.slice A0 l.length c0) typ host gen apt), .agg (cmdc c rg)] w fun e w' => ∃ v0 v5, e = .returned (.agg #[v0, .int .i64 typ, .string host, .int .u32 gen, .bool apt, v5, .int .i64 2]) ∧ Kd.R k53 53 w' w0.heap.size (fun _ => True) v0 l ∧ Kd.R k46 46 w' w0.heap.size (fun _ => True) v5 [] ∧ Below w0.heap.size w0 w' ∧ Kt w w' := by
 have hu27 := Tryd.underlying27;have hu24 := Tryd.underlying24;have hu31 := Tryd.underlying31;have hu40 := Tryd.underlying40;have hu53 := Tryd.underlying53;have HR := aS_ hr;have HB0 := aS_ hb0;have HKK := aS_ hkk;have HB := aS_ (Below.refl w.heap.size w);clear hr hb0 hkk;unfold tabc cmdc;have F12 := aS_ f12;clear f12;go_enter Tryd.func37, Tryd.ntmps37
 go_wp2_with (first
  | ((with_reducible refine gate_dst (N := 2) rfl ?_); refine bX_ (N := 2) (cs := tabc (.slice A0 l.length c0) typ host gen apt) (t := 27) ?hr ?_; (case hr => first | (go_simp; done) | (go_simp; rfl)); intro g2 hgg2 w2 hxg2 hyg2; have X2 := aS_ hxg2; have Y2 := aS_ hyg2; have Z2 := aS_ hgg2; clear hxg2 hyg2 hgg2)
  | ((with_reducible refine gate_dst (N := 3) rfl ?_); refine bX_ (N := 3) (cs := cmdc c rg) (t := 31) ?hr ?_; (case hr => first | (go_simp; done) | (go_simp; rfl)); intro g3 hgg3 w3 hxg3 hyg3; have X3 := aS_ hxg3; have Y3 := aS_ hyg3; have Z3 := aS_ (show g2 < g3 by rw [hgg3]; exact blk_lt X2.out); clear hxg3 hyg3 hgg3)
  | ((with_reducible refine gate_dst (N := 4) rfl ?_); refine bX_ (N := 4) (cs := outc) (t := 40) ?hr ?_; (case hr => first | (go_simp; done) | (go_simp; rfl)); intro g4 hgg4 w4 hxg4 hyg4; have hlt3 := blk_lt (blk_below X2.out Y3.out); have hlt4 := blk_lt X3.out; have hz2 := below_size (below_step HB.out (below_step Y2.out Y3.out)); have F := aS_ (Rf.mk (w0 := w) (by have := Z2.out; have := below_size HB.out; omega) (by omega) (by omega) (by have := Z3.out; omega) (by omega) (blk_below (blk_below X2.out Y3.out) hyg4) (blk_below X3.out hyg4) hxg4 (below_step HB.out (below_step Y2.out (below_step Y3.out hyg4)))); have n42 := F.out.n42; have n24 := F.out.n42.symm; clear hlt3 hlt4 hz2 X2 X3 Y2 Y3 Z2 Z3 hxg4 hyg4 hgg4; obtain ⟨hct0, hct1, hct2, hct3, hct4⟩ := cells5 F.out.b2; obtain ⟨-, -, hcc2, -, -, -, -, -, hcc8, hcc9, -, -, hcc12, hcc13⟩ := cells14 F.out.b3; obtain ⟨hcr0, hcr1, hcr2, hcr3, hcr4, hcr5, hcr6⟩ := cells7 F.out.b4; have hfr0 := bF_ F.out.b4)
  | (go_at_call 19; refine (headgateref11_Key.calls k A0 c0 l typ host gen apt c.f2 kk _ (Kd.C_below (Kd.R_reads' HR.out).2.2 F.out.hb) (Kd.R_reads' HR.out).2.1 HKK.out).mono ?_; rintro e w5 ⟨rfl, hb⟩; have F1 := aS_ (F.out.below hb); clear F hb; have F := F1; clear F1; clear hct0 hct1 hct2 hct3 hct4 hcc2 hcc8 hcc9 hcc12 hcc13 hcr0 hfr0 hcr1 hcr2 hcr3 hcr4 hcr5 hcr6; obtain ⟨hct0, hct1, hct2, hct3, hct4⟩ := cells5 F.out.b2; obtain ⟨-, -, hcc2, -, -, -, -, -, hcc8, hcc9, -, -, hcc12, hcc13⟩ := cells14 F.out.b3; obtain ⟨hcr0, hcr1, hcr2, hcr3, hcr4, hcr5, hcr6⟩ := cells7 F.out.b4; have hfr0 := bF_ F.out.b4; rw [F12.out] at hcc12))
 (try simp only [Exit.inBlock, Exit.then])
 refine ret_out rfl rfl rfl (F.out.out _ _ _ _ _ _ _).1 hu40 rfl rfl ?_;exact ⟨_, _, rfl, row_out (Kd.R_below HR.out F.out.hb) F.out.b4 (by decide) _ _ _ _ _ _ _, Kd.R_nil _ _ _ _ _, below_step HB0.out (F.out.out _ _ _ _ _ _ _).2, Kt.of_below (F.out.out _ _ _ _ _ _ _).2⟩
theorem rf_reg_full (k : Nat) (A0 : Option Addr) (c0 : Nat) (l : List S53) (typ : Int) (host : ByteArray) (gen : Int) (apt : Bool) (c : S31) (rg : Value) (w0 w : World) (hb0 : Below w0.heap.size w0 w) (hr : Kd.R k53 53 w w0.heap.size (fun _ => True) (.slice A0 l.length c0) l) (kk : Int) (hkk : headgateref11_Key.f k l typ host gen apt c.f2 = some kk) (hps : (!c.f12 && c.f8 != kk) = false) (h9 : c.f9 ≠ 0) (h0 : kk = 0) (h16 : l.length = 16) :
  Calls Tryd.prog 37 #[.agg (tabc (.slice A0 l.length c0) typ host gen apt), .agg (cmdc c rg)] w fun e w' => ∃ v0 v5, e = .returned (.agg #[v0, .int .i64 typ, .string host, .int .u32 gen, .bool apt, v5, .int .i64 8]) ∧ Kd.R k53 53 w' w0.heap.size (fun _ => True) v0 l ∧ Kd.R k46 46 w' w0.heap.size (fun _ => True) v5 [] ∧ Below w0.heap.size w0 w' ∧ Kt w w' := by
 have hu27 := Tryd.underlying27;have hu24 := Tryd.underlying24;have hu31 := Tryd.underlying31;have hu40 := Tryd.underlying40;have hu53 := Tryd.underlying53;have HR := aS_ hr;have HB0 := aS_ hb0;have HKK := aS_ hkk;have HB := aS_ (Below.refl w.heap.size w);clear hr hb0 hkk;unfold tabc cmdc;have d9 : (c.f9 != 0) = true := bne_iff_ne.mpr h9;clear h9
 have dk : (kk != 0) = false := by rw [h0]; rfl
 have dk0 : (kk == 0) = true := by rw [h0]; rfl
 clear h0;have d16 : ((l.length : Int) == 16) = true := beq_iff_eq.mpr (by omega);clear h16
 rcases pass2 _ _ hps with f12 | ⟨f12, hk8⟩
 all_goals
  have F12 := aS_ f12;clear hps f12;go_enter Tryd.func37, Tryd.ntmps37
  go_upto_region 5 with (first
   | ((with_reducible refine gate_dst (N := 2) rfl ?_); refine bX_ (N := 2) (cs := tabc (.slice A0 l.length c0) typ host gen apt) (t := 27) ?hr ?_; (case hr => first | (go_simp; done) | (go_simp; rfl)); intro g2 hgg2 w2 hxg2 hyg2; have X2 := aS_ hxg2; have Y2 := aS_ hyg2; have Z2 := aS_ hgg2; clear hxg2 hyg2 hgg2)
   | ((with_reducible refine gate_dst (N := 3) rfl ?_); refine bX_ (N := 3) (cs := cmdc c rg) (t := 31) ?hr ?_; (case hr => first | (go_simp; done) | (go_simp; rfl)); intro g3 hgg3 w3 hxg3 hyg3; have X3 := aS_ hxg3; have Y3 := aS_ hyg3; have Z3 := aS_ (show g2 < g3 by rw [hgg3]; exact blk_lt X2.out); clear hxg3 hyg3 hgg3)
   | ((with_reducible refine gate_dst (N := 4) rfl ?_); refine bX_ (N := 4) (cs := outc) (t := 40) ?hr ?_; (case hr => first | (go_simp; done) | (go_simp; rfl)); intro g4 hgg4 w4 hxg4 hyg4; have hlt3 := blk_lt (blk_below X2.out Y3.out); have hlt4 := blk_lt X3.out; have hz2 := below_size (below_step HB.out (below_step Y2.out Y3.out)); have F := aS_ (Rf.mk (w0 := w) (by have := Z2.out; have := below_size HB.out; omega) (by omega) (by omega) (by have := Z3.out; omega) (by omega) (blk_below (blk_below X2.out Y3.out) hyg4) (blk_below X3.out hyg4) hxg4 (below_step HB.out (below_step Y2.out (below_step Y3.out hyg4)))); have n42 := F.out.n42; have n24 := F.out.n42.symm; clear hlt3 hlt4 hz2 X2 X3 Y2 Y3 Z2 Z3 hxg4 hyg4 hgg4; obtain ⟨hct0, hct1, hct2, hct3, hct4⟩ := cells5 F.out.b2; obtain ⟨-, -, hcc2, -, -, -, -, -, hcc8, hcc9, -, -, hcc12, hcc13⟩ := cells14 F.out.b3; obtain ⟨hcr0, hcr1, hcr2, hcr3, hcr4, hcr5, hcr6⟩ := cells7 F.out.b4; have hfr0 := bF_ F.out.b4 0; have hfr1 := bF_ F.out.b4 1; have hfr2 := bF_ F.out.b4 2; have hfr3 := bF_ F.out.b4 3; have hfr4 := bF_ F.out.b4 4; have hfr5 := bF_ F.out.b4 5; have hfr6 := bF_ F.out.b4 6)
   | (go_at_call 19; refine (headgateref11_Key.calls k A0 c0 l typ host gen apt c.f2 kk _ (Kd.C_below (Kd.R_reads' HR.out).2.2 F.out.hb) (Kd.R_reads' HR.out).2.1 HKK.out).mono ?_; rintro e w5 ⟨rfl, hb⟩; have F1 := aS_ (F.out.below hb); clear F hb; have F := F1; clear F1; clear hct0 hct1 hct2 hct3 hct4 hcc2 hcc8 hcc9 hcc12 hcc13 hcr0 hfr0 hcr1 hfr1 hcr2 hfr2 hcr3 hfr3 hcr4 hfr4 hcr5 hfr5 hcr6 hfr6; obtain ⟨hct0, hct1, hct2, hct3, hct4⟩ := cells5 F.out.b2; obtain ⟨-, -, hcc2, -, -, -, -, -, hcc8, hcc9, -, -, hcc12, hcc13⟩ := cells14 F.out.b3; obtain ⟨hcr0, hcr1, hcr2, hcr3, hcr4, hcr5, hcr6⟩ := cells7 F.out.b4; have hfr0 := bF_ F.out.b4 0; have hfr1 := bF_ F.out.b4 1; have hfr2 := bF_ F.out.b4 2; have hfr3 := bF_ F.out.b4 3; have hfr4 := bF_ F.out.b4 4; have hfr5 := bF_ F.out.b4 5; have hfr6 := bF_ F.out.b4 6; rw [F12.out] at hcc12)
   | ((with_reducible refine gate_dst (N := 6) rfl ?_); refine bX_ (N := 6) (cs := outc) (t := 40) ?hr ?_; (case hr => first | (go_simp; done) | (go_simp; rfl)); intro g6 hgg6 w6 hxg6 hyg6; have W := aS_ (Rw.start F.out HB0.out hxg6 hyg6 hgg6 HR.out); clear F hxg6 hyg6 hgg6; clear hct0 hct1 hct2 hct3 hct4 hcc2 hcc8 hcc9 hcc12 hcc13 hcr0 hfr0 hcr1 hfr1 hcr2 hfr2 hcr3 hfr3 hcr4 hfr4 hcr5 hfr5 hcr6 hfr6; obtain ⟨hct0, hct1, hct2, hct3, hct4⟩ := cells5 W.out.f.b2; obtain ⟨-, -, hcc2, -, -, -, -, -, hcc8, hcc9, -, -, hcc12, hcc13⟩ := cells14 W.out.f.b3; obtain ⟨hcr0, hcr1, hcr2, hcr3, hcr4, hcr5, hcr6⟩ := cells7 W.out.f.b4; have hfr0 := bF_ W.out.f.b4 0; have hfr1 := bF_ W.out.f.b4 1; have hfr2 := bF_ W.out.f.b4 2; have hfr3 := bF_ W.out.f.b4 3; have hfr4 := bF_ W.out.f.b4 4; have hfr5 := bF_ W.out.f.b4 5; have hfr6 := bF_ W.out.f.b4 6; obtain ⟨hcq0, hcq1, hcq2, hcq3, hcq4, hcq5, hcq6⟩ := cells7 W.out.b6; have hfq0 := bF_ W.out.b6 0; have hfq1 := bF_ W.out.b6 1; have hfq2 := bF_ W.out.b6 2; have hfq3 := bF_ W.out.b6 3; have hfq4 := bF_ W.out.b6 4; have hfq5 := bF_ W.out.b6 5; have hfq6 := bF_ W.out.b6 6; have n62 := W.out.n62; have n26 := W.out.n62.symm; have n64 := W.out.n64; have n46 := W.out.n64.symm; have n63 := W.out.n63; have n36 := W.out.n63.symm; have n32 := W.out.f.n32; have n23 := W.out.f.n32.symm; rw [F12.out] at hcc12))
  refine Hand.at_world (fun w' => Aside0 (Rw w0 w w' g2 g3 g4 g6 c rg (tabc (.slice A0 l.length c0) typ host gen apt) tq0 (.slice A0 l.length c0) l (.slice none 0 0) [])) ⟨(((((((W.out.put6 0 _ rfl).put6 1 _ rfl).put6 2 _ rfl).put6 3 _ rfl).put6 4 _ rfl).put6 5 _ rfl).put6 6 _ rfl)⟩ ?_;rintro w7 W7;clear hct0 hct1 hct2 hct3 hct4 hcc2 hcc8 hcc9 hcc12 hcc13 hcr0 hfr0 hcq0 hfq0 hcr1 hfr1 hcq1 hfq1 hcr2 hfr2 hcq2 hfq2 hcr3 hfr3 hcq3 hfq3 hcr4 hfr4 hcq4 hfq4 hcr5 hfr5 hcq5 hfq5 hcr6 hfr6 hcq6 hfq6 n62 n26 n64 n46 n63 n36 n32 n23;clear W;have W := W7;clear W7;obtain ⟨hct0, hct1, hct2, hct3, hct4⟩ := cells5 W.out.f.b2;obtain ⟨-, -, -, -, -, -, -, -, -, hcc9, -, -, -, -⟩ := cells14 W.out.f.b3;obtain ⟨hcr0, hcr1, hcr2, hcr3, hcr4, hcr5, hcr6⟩ := cells7 W.out.f.b4;have hfr0 := bF_ W.out.f.b4 0;have hfr1 := bF_ W.out.f.b4 1;have hfr2 := bF_ W.out.f.b4 2;have hfr3 := bF_ W.out.f.b4 3;have hfr4 := bF_ W.out.f.b4 4;have hfr5 := bF_ W.out.f.b4 5;have hfr6 := bF_ W.out.f.b4 6;obtain ⟨hcq0, hcq1, hcq2, hcq3, hcq4, hcq5, hcq6⟩ := cells7 W.out.b6;have hfq0 := bF_ W.out.b6 0;have hfq1 := bF_ W.out.b6 1;have hfq2 := bF_ W.out.b6 2;have hfq3 := bF_ W.out.b6 3;have hfq4 := bF_ W.out.b6 4;have hfq5 := bF_ W.out.b6 5;have hfq6 := bF_ W.out.b6 6;have n62 := W.out.n62;have n26 := W.out.n62.symm;have n64 := W.out.n64;have n46 := W.out.n64.symm;have n63 := W.out.n63;have n36 := W.out.n63.symm;have n32 := W.out.f.n32;have n23 := W.out.f.n32.symm;go_wp2
  (try simp only [Exit.inBlock, Exit.then])
  refine ret_out rfl rfl rfl (W.out.f.out _ _ _ _ _ _ _).1 hu40 rfl rfl ?_;exact ⟨_, _, rfl, W.out.fin _ _ _ _ _ _ _⟩
theorem rf_reg_same (k : Nat) (A0 : Option Addr) (c0 : Nat) (l : List S53) (typ : Int) (host : ByteArray) (gen : Int) (apt : Bool) (c : S31) (rg : Value) (w0 w : World) (hb0 : Below w0.heap.size w0 w) (hr : Kd.R k53 53 w w0.heap.size (fun _ => True) (.slice A0 l.length c0) l) (kk : Int) (hkk : headgateref11_Key.f k l typ host gen apt c.f2 = some kk) (hps : (!c.f12 && c.f8 != kk) = false) (h9 : c.f9 = 0) (h0 : kk = 0) :
  Calls Tryd.prog 37 #[.agg (tabc (.slice A0 l.length c0) typ host gen apt), .agg (cmdc c rg)] w fun e w' => ∃ v0 v5, e = .returned (.agg #[v0, .int .i64 typ, .string host, .int .u32 gen, .bool (aptP c apt), v5, .int .i64 1]) ∧ Kd.R k53 53 w' w0.heap.size (fun _ => True) v0 l ∧ Kd.R k46 46 w' w0.heap.size (fun _ => True) v5 [] ∧ Below w0.heap.size w0 w' ∧ Kt w w' := by
 have hu27 := Tryd.underlying27;have hu24 := Tryd.underlying24;have hu31 := Tryd.underlying31;have hu40 := Tryd.underlying40;have hu53 := Tryd.underlying53;have HR := aS_ hr;have HB0 := aS_ hb0;have HKK := aS_ hkk;have HB := aS_ (Below.refl w.heap.size w);clear hr hb0 hkk;unfold tabc cmdc
 have d9 : (c.f9 != 0) = false := by rw [h9]; rfl
 clear h9
 have dk : (kk != 0) = false := by rw [h0]; rfl
 have dk0 : (kk == 0) = true := by rw [h0]; rfl
 clear h0;have F3 := apt4 c apt
 obtain ⟨ap, hap⟩ : ∃ ap, ap = aptP c apt := ⟨_, rfl⟩
 rw [← hap] at F3 ⊢;clear hap
 rcases pass2 _ _ hps with f12 | ⟨f12, hk8⟩
 all_goals
  have F12 := aS_ f12;clear hps f12;go_enter Tryd.func37, Tryd.ntmps37
  go_upto_region 5 with (first
   | ((with_reducible refine gate_dst (N := 2) rfl ?_); refine bX_ (N := 2) (cs := tabc (.slice A0 l.length c0) typ host gen apt) (t := 27) ?hr ?_; (case hr => first | (go_simp; done) | (go_simp; rfl)); intro g2 hgg2 w2 hxg2 hyg2; have X2 := aS_ hxg2; have Y2 := aS_ hyg2; have Z2 := aS_ hgg2; clear hxg2 hyg2 hgg2)
   | ((with_reducible refine gate_dst (N := 3) rfl ?_); refine bX_ (N := 3) (cs := cmdc c rg) (t := 31) ?hr ?_; (case hr => first | (go_simp; done) | (go_simp; rfl)); intro g3 hgg3 w3 hxg3 hyg3; have X3 := aS_ hxg3; have Y3 := aS_ hyg3; have Z3 := aS_ (show g2 < g3 by rw [hgg3]; exact blk_lt X2.out); clear hxg3 hyg3 hgg3)
   | ((with_reducible refine gate_dst (N := 4) rfl ?_); refine bX_ (N := 4) (cs := outc) (t := 40) ?hr ?_; (case hr => first | (go_simp; done) | (go_simp; rfl)); intro g4 hgg4 w4 hxg4 hyg4; have hlt3 := blk_lt (blk_below X2.out Y3.out); have hlt4 := blk_lt X3.out; have hz2 := below_size (below_step HB.out (below_step Y2.out Y3.out)); have F := aS_ (Rf.mk (w0 := w) (by have := Z2.out; have := below_size HB.out; omega) (by omega) (by omega) (by have := Z3.out; omega) (by omega) (blk_below (blk_below X2.out Y3.out) hyg4) (blk_below X3.out hyg4) hxg4 (below_step HB.out (below_step Y2.out (below_step Y3.out hyg4)))); have n42 := F.out.n42; have n24 := F.out.n42.symm; clear hlt3 hlt4 hz2 X2 X3 Y2 Y3 Z2 Z3 hxg4 hyg4 hgg4; obtain ⟨hct0, hct1, hct2, hct3, hct4⟩ := cells5 F.out.b2; obtain ⟨-, -, hcc2, -, -, -, -, -, hcc8, hcc9, -, -, hcc12, hcc13⟩ := cells14 F.out.b3; obtain ⟨hcr0, hcr1, hcr2, hcr3, hcr4, hcr5, hcr6⟩ := cells7 F.out.b4; have hfr0 := bF_ F.out.b4 0; have hfr1 := bF_ F.out.b4 1; have hfr2 := bF_ F.out.b4 2; have hfr3 := bF_ F.out.b4 3; have hfr4 := bF_ F.out.b4 4; have hfr5 := bF_ F.out.b4 5; have hfr6 := bF_ F.out.b4 6)
   | (go_at_call 19; refine (headgateref11_Key.calls k A0 c0 l typ host gen apt c.f2 kk _ (Kd.C_below (Kd.R_reads' HR.out).2.2 F.out.hb) (Kd.R_reads' HR.out).2.1 HKK.out).mono ?_; rintro e w5 ⟨rfl, hb⟩; have F1 := aS_ (F.out.below hb); clear F hb; have F := F1; clear F1; clear hct0 hct1 hct2 hct3 hct4 hcc2 hcc8 hcc9 hcc12 hcc13 hcr0 hfr0 hcr1 hfr1 hcr2 hfr2 hcr3 hfr3 hcr4 hfr4 hcr5 hfr5 hcr6 hfr6; obtain ⟨hct0, hct1, hct2, hct3, hct4⟩ := cells5 F.out.b2; obtain ⟨-, -, hcc2, -, -, -, -, -, hcc8, hcc9, -, -, hcc12, hcc13⟩ := cells14 F.out.b3; obtain ⟨hcr0, hcr1, hcr2, hcr3, hcr4, hcr5, hcr6⟩ := cells7 F.out.b4; have hfr0 := bF_ F.out.b4 0; have hfr1 := bF_ F.out.b4 1; have hfr2 := bF_ F.out.b4 2; have hfr3 := bF_ F.out.b4 3; have hfr4 := bF_ F.out.b4 4; have hfr5 := bF_ F.out.b4 5; have hfr6 := bF_ F.out.b4 6; rw [F12.out] at hcc12)
   | ((with_reducible refine gate_dst (N := 6) rfl ?_); refine bX_ (N := 6) (cs := outc) (t := 40) ?hr ?_; (case hr => first | (go_simp; done) | (go_simp; rfl)); intro g6 hgg6 w6 hxg6 hyg6; have W := aS_ (Rw.start F.out HB0.out hxg6 hyg6 hgg6 HR.out); clear F hxg6 hyg6 hgg6; clear hct0 hct1 hct2 hct3 hct4 hcc2 hcc8 hcc9 hcc12 hcc13 hcr0 hfr0 hcr1 hfr1 hcr2 hfr2 hcr3 hfr3 hcr4 hfr4 hcr5 hfr5 hcr6 hfr6; obtain ⟨hct0, hct1, hct2, hct3, hct4⟩ := cells5 W.out.f.b2; obtain ⟨-, -, hcc2, -, -, -, -, -, hcc8, hcc9, -, -, hcc12, hcc13⟩ := cells14 W.out.f.b3; obtain ⟨hcr0, hcr1, hcr2, hcr3, hcr4, hcr5, hcr6⟩ := cells7 W.out.f.b4; have hfr0 := bF_ W.out.f.b4 0; have hfr1 := bF_ W.out.f.b4 1; have hfr2 := bF_ W.out.f.b4 2; have hfr3 := bF_ W.out.f.b4 3; have hfr4 := bF_ W.out.f.b4 4; have hfr5 := bF_ W.out.f.b4 5; have hfr6 := bF_ W.out.f.b4 6; obtain ⟨hcq0, hcq1, hcq2, hcq3, hcq4, hcq5, hcq6⟩ := cells7 W.out.b6; have hfq0 := bF_ W.out.b6 0; have hfq1 := bF_ W.out.b6 1; have hfq2 := bF_ W.out.b6 2; have hfq3 := bF_ W.out.b6 3; have hfq4 := bF_ W.out.b6 4; have hfq5 := bF_ W.out.b6 5; have hfq6 := bF_ W.out.b6 6; have n62 := W.out.n62; have n26 := W.out.n62.symm; have n64 := W.out.n64; have n46 := W.out.n64.symm; have n63 := W.out.n63; have n36 := W.out.n63.symm; have n32 := W.out.f.n32; have n23 := W.out.f.n32.symm; rw [F12.out] at hcc12))
  refine Hand.at_world (fun w' => Aside0 (Rw w0 w w' g2 g3 g4 g6 c rg (tabc (.slice A0 l.length c0) typ host gen apt) tq0 (.slice A0 l.length c0) l (.slice none 0 0) [])) ⟨(((((((W.out.put6 0 _ rfl).put6 1 _ rfl).put6 2 _ rfl).put6 3 _ rfl).put6 4 _ rfl).put6 5 _ rfl).put6 6 _ rfl)⟩ ?_;rintro w7 W7;clear hct0 hct1 hct2 hct3 hct4 hcc2 hcc8 hcc9 hcc12 hcc13 hcr0 hfr0 hcq0 hfq0 hcr1 hfr1 hcq1 hfq1 hcr2 hfr2 hcq2 hfq2 hcr3 hfr3 hcq3 hfq3 hcr4 hfr4 hcq4 hfq4 hcr5 hfr5 hcq5 hfq5 hcr6 hfr6 hcq6 hfq6 n62 n26 n64 n46 n63 n36 n32 n23;clear W;have W := W7;clear W7;obtain ⟨hct0, hct1, hct2, hct3, hct4⟩ := cells5 W.out.f.b2;obtain ⟨-, -, -, -, -, -, -, -, -, hcc9, -, -, -, hcc13⟩ := cells14 W.out.f.b3;obtain ⟨hcr0, hcr1, hcr2, hcr3, hcr4, hcr5, hcr6⟩ := cells7 W.out.f.b4;have hfr0 := bF_ W.out.f.b4 0;have hfr1 := bF_ W.out.f.b4 1;have hfr2 := bF_ W.out.f.b4 2;have hfr3 := bF_ W.out.f.b4 3;have hfr4 := bF_ W.out.f.b4 4;have hfr5 := bF_ W.out.f.b4 5;have hfr6 := bF_ W.out.f.b4 6;obtain ⟨hcq0, hcq1, hcq2, hcq3, hcq4, hcq5, hcq6⟩ := cells7 W.out.b6;have hfq0 := bF_ W.out.b6 0;have hfq1 := bF_ W.out.b6 1;have hfq2 := bF_ W.out.b6 2;have hfq3 := bF_ W.out.b6 3;have hfq4 := bF_ W.out.b6 4;have hfq5 := bF_ W.out.b6 5;have hfq6 := bF_ W.out.b6 6;have n62 := W.out.n62;have n26 := W.out.n62.symm;have n64 := W.out.n64;have n46 := W.out.n64.symm;have n63 := W.out.n63;have n36 := W.out.n63.symm;have n32 := W.out.f.n32;have n23 := W.out.f.n32.symm;have hft0 := bF_ W.out.f.b2 0;have hft1 := bF_ W.out.f.b2 1;have hft2 := bF_ W.out.f.b2 2;have hft3 := bF_ W.out.f.b2 3;have hft4 := bF_ W.out.f.b2 4
  rcases F3 with (⟨rfl, a1, a2⟩ | ⟨rfl, a1, a2⟩) | ⟨rfl, a1, a2⟩
  iterate 2
   ·skip
    go_wp2
    (try simp only [Exit.inBlock, Exit.then])
    refine ret_out rfl rfl rfl (((((((W.out.put2 4 _ rfl).put6 0 _ rfl).put6 1 _ rfl).put6 2 _ rfl).put6 3 _ rfl).put6 4 _ rfl).f.out _ _ _ _ _ _ _).1 hu40 rfl rfl ?_;exact ⟨_, _, rfl, ((((((W.out.put2 4 _ rfl).put6 0 _ rfl).put6 1 _ rfl).put6 2 _ rfl).put6 3 _ rfl).put6 4 _ rfl).fin _ _ _ _ _ _ _⟩
  ·skip
   go_wp2
   (try simp only [Exit.inBlock, Exit.then])
   refine ret_out rfl rfl rfl ((((((W.out.put6 0 _ rfl).put6 1 _ rfl).put6 2 _ rfl).put6 3 _ rfl).put6 4 _ rfl).f.out _ _ _ _ _ _ _).1 hu40 rfl rfl ?_;exact ⟨_, _, rfl, (((((W.out.put6 0 _ rfl).put6 1 _ rfl).put6 2 _ rfl).put6 3 _ rfl).put6 4 _ rfl).fin _ _ _ _ _ _ _⟩
theorem rf_reg_stay (k : Nat) (A0 : Option Addr) (c0 : Nat) (l : List S53) (typ : Int) (host : ByteArray) (gen : Int) (apt : Bool) (c : S31) (rg : Value) (w0 w : World) (hb0 : Below w0.heap.size w0 w) (hr : Kd.R k53 53 w w0.heap.size (fun _ => True) (.slice A0 l.length c0) l) (kk : Int) (hkk : headgateref11_Key.f k l typ host gen apt c.f2 = some kk) (hps : (!c.f12 && c.f8 != kk) = false) (h9 : c.f9 = 0) (h0 : kk ≠ 0) (l2 : List S53) (hwo : headgateref11_without.f k l c.f2 = some l2) (b0 al z : Bool) (hb : (typ != 0) = b0) (hal : (host.toList == c.f2.toList) = al) (hz : ((l2.length : Int) == 0) = z) (hs : (b0 && (al || z)) = false) :
  Calls Tryd.prog 37 #[.agg (tabc (.slice A0 l.length c0) typ host gen apt), .agg (cmdc c rg)] w fun e w' => ∃ v0 v5, e = .returned (.agg #[v0, .int .i64 typ, .string host, .int .u32 ((gen + 1) % 4294967296), .bool (aptP c apt), v5, .int .i64 1]) ∧ Kd.R k53 53 w' w0.heap.size (fun _ => True) v0 l2 ∧ Kd.R k46 46 w' w0.heap.size (fun _ => True) v5 [] ∧ Below w0.heap.size w0 w' ∧ Kt w w' := by
 have hu27 := Tryd.underlying27;have hu24 := Tryd.underlying24;have hu31 := Tryd.underlying31;have hu40 := Tryd.underlying40;have hu53 := Tryd.underlying53;have HR := aS_ hr;have HB0 := aS_ hb0;have HKK := aS_ hkk;have HB := aS_ (Below.refl w.heap.size w);clear hr hb0 hkk;unfold tabc cmdc
 have d9 : (c.f9 != 0) = false := by rw [h9]; rfl
 clear h9;have dk : (kk != 0) = true := bne_iff_ne.mpr h0;have dk0 : (kk == 0) = false := beq_eq_false_iff_ne.mpr h0;clear h0;have F3 := apt4 c apt
 obtain ⟨ap, hap⟩ : ∃ ap, ap = aptP c apt := ⟨_, rfl⟩
 rw [← hap] at F3 ⊢;clear hap;have HWO := aS_ hwo;clear hwo
 have hss : b0 = false ∨ b0 = true ∧ al = false ∧ z = false := by cases b0 <;> cases al <;> cases z <;> simp_all
 clear hs
 rcases hss with rfl | ⟨rfl, rfl, rfl⟩
 all_goals
  rcases pass2 _ _ hps with f12 | ⟨f12, hk8⟩
  all_goals
   have F12 := aS_ f12;clear hps f12;go_enter Tryd.func37, Tryd.ntmps37
   go_upto_region 5 with (first
    | ((with_reducible refine gate_dst (N := 2) rfl ?_); refine bX_ (N := 2) (cs := tabc (.slice A0 l.length c0) typ host gen apt) (t := 27) ?hr ?_; (case hr => first | (go_simp; done) | (go_simp; rfl)); intro g2 hgg2 w2 hxg2 hyg2; have X2 := aS_ hxg2; have Y2 := aS_ hyg2; have Z2 := aS_ hgg2; clear hxg2 hyg2 hgg2)
    | ((with_reducible refine gate_dst (N := 3) rfl ?_); refine bX_ (N := 3) (cs := cmdc c rg) (t := 31) ?hr ?_; (case hr => first | (go_simp; done) | (go_simp; rfl)); intro g3 hgg3 w3 hxg3 hyg3; have X3 := aS_ hxg3; have Y3 := aS_ hyg3; have Z3 := aS_ (show g2 < g3 by rw [hgg3]; exact blk_lt X2.out); clear hxg3 hyg3 hgg3)
    | ((with_reducible refine gate_dst (N := 4) rfl ?_); refine bX_ (N := 4) (cs := outc) (t := 40) ?hr ?_; (case hr => first | (go_simp; done) | (go_simp; rfl)); intro g4 hgg4 w4 hxg4 hyg4; have hlt3 := blk_lt (blk_below X2.out Y3.out); have hlt4 := blk_lt X3.out; have hz2 := below_size (below_step HB.out (below_step Y2.out Y3.out)); have F := aS_ (Rf.mk (w0 := w) (by have := Z2.out; have := below_size HB.out; omega) (by omega) (by omega) (by have := Z3.out; omega) (by omega) (blk_below (blk_below X2.out Y3.out) hyg4) (blk_below X3.out hyg4) hxg4 (below_step HB.out (below_step Y2.out (below_step Y3.out hyg4)))); have n42 := F.out.n42; have n24 := F.out.n42.symm; clear hlt3 hlt4 hz2 X2 X3 Y2 Y3 Z2 Z3 hxg4 hyg4 hgg4; obtain ⟨hct0, hct1, hct2, hct3, hct4⟩ := cells5 F.out.b2; obtain ⟨-, -, hcc2, -, -, -, -, -, hcc8, hcc9, -, -, hcc12, hcc13⟩ := cells14 F.out.b3; obtain ⟨hcr0, hcr1, hcr2, hcr3, hcr4, hcr5, hcr6⟩ := cells7 F.out.b4; have hfr0 := bF_ F.out.b4 0; have hfr1 := bF_ F.out.b4 1; have hfr2 := bF_ F.out.b4 2; have hfr3 := bF_ F.out.b4 3; have hfr4 := bF_ F.out.b4 4; have hfr5 := bF_ F.out.b4 5; have hfr6 := bF_ F.out.b4 6)
    | (go_at_call 19; refine (headgateref11_Key.calls k A0 c0 l typ host gen apt c.f2 kk _ (Kd.C_below (Kd.R_reads' HR.out).2.2 F.out.hb) (Kd.R_reads' HR.out).2.1 HKK.out).mono ?_; rintro e w5 ⟨rfl, hb⟩; have F1 := aS_ (F.out.below hb); clear F hb; have F := F1; clear F1; clear hct0 hct1 hct2 hct3 hct4 hcc2 hcc8 hcc9 hcc12 hcc13 hcr0 hfr0 hcr1 hfr1 hcr2 hfr2 hcr3 hfr3 hcr4 hfr4 hcr5 hfr5 hcr6 hfr6; obtain ⟨hct0, hct1, hct2, hct3, hct4⟩ := cells5 F.out.b2; obtain ⟨-, -, hcc2, -, -, -, -, -, hcc8, hcc9, -, -, hcc12, hcc13⟩ := cells14 F.out.b3; obtain ⟨hcr0, hcr1, hcr2, hcr3, hcr4, hcr5, hcr6⟩ := cells7 F.out.b4; have hfr0 := bF_ F.out.b4 0; have hfr1 := bF_ F.out.b4 1; have hfr2 := bF_ F.out.b4 2; have hfr3 := bF_ F.out.b4 3; have hfr4 := bF_ F.out.b4 4; have hfr5 := bF_ F.out.b4 5; have hfr6 := bF_ F.out.b4 6; rw [F12.out] at hcc12)
    | ((with_reducible refine gate_dst (N := 6) rfl ?_); refine bX_ (N := 6) (cs := outc) (t := 40) ?hr ?_; (case hr => first | (go_simp; done) | (go_simp; rfl)); intro g6 hgg6 w6 hxg6 hyg6; have W := aS_ (Rw.start F.out HB0.out hxg6 hyg6 hgg6 HR.out); clear F hxg6 hyg6 hgg6; clear hct0 hct1 hct2 hct3 hct4 hcc2 hcc8 hcc9 hcc12 hcc13 hcr0 hfr0 hcr1 hfr1 hcr2 hfr2 hcr3 hfr3 hcr4 hfr4 hcr5 hfr5 hcr6 hfr6; obtain ⟨hct0, hct1, hct2, hct3, hct4⟩ := cells5 W.out.f.b2; obtain ⟨-, -, hcc2, -, -, -, -, -, hcc8, hcc9, -, -, hcc12, hcc13⟩ := cells14 W.out.f.b3; obtain ⟨hcr0, hcr1, hcr2, hcr3, hcr4, hcr5, hcr6⟩ := cells7 W.out.f.b4; have hfr0 := bF_ W.out.f.b4 0; have hfr1 := bF_ W.out.f.b4 1; have hfr2 := bF_ W.out.f.b4 2; have hfr3 := bF_ W.out.f.b4 3; have hfr4 := bF_ W.out.f.b4 4; have hfr5 := bF_ W.out.f.b4 5; have hfr6 := bF_ W.out.f.b4 6; obtain ⟨hcq0, hcq1, hcq2, hcq3, hcq4, hcq5, hcq6⟩ := cells7 W.out.b6; have hfq0 := bF_ W.out.b6 0; have hfq1 := bF_ W.out.b6 1; have hfq2 := bF_ W.out.b6 2; have hfq3 := bF_ W.out.b6 3; have hfq4 := bF_ W.out.b6 4; have hfq5 := bF_ W.out.b6 5; have hfq6 := bF_ W.out.b6 6; have n62 := W.out.n62; have n26 := W.out.n62.symm; have n64 := W.out.n64; have n46 := W.out.n64.symm; have n63 := W.out.n63; have n36 := W.out.n63.symm; have n32 := W.out.f.n32; have n23 := W.out.f.n32.symm; rw [F12.out] at hcc12))
   refine Hand.at_world (fun w' => Aside0 (Rw w0 w w' g2 g3 g4 g6 c rg (tabc (.slice A0 l.length c0) typ host gen apt) tq0 (.slice A0 l.length c0) l (.slice none 0 0) [])) ⟨(((((((W.out.put6 0 _ rfl).put6 1 _ rfl).put6 2 _ rfl).put6 3 _ rfl).put6 4 _ rfl).put6 5 _ rfl).put6 6 _ rfl)⟩ ?_;rintro w7 W7;clear hct0 hct1 hct2 hct3 hct4 hcc2 hcc8 hcc9 hcc12 hcc13 hcr0 hfr0 hcq0 hfq0 hcr1 hfr1 hcq1 hfq1 hcr2 hfr2 hcq2 hfq2 hcr3 hfr3 hcq3 hfq3 hcr4 hfr4 hcq4 hfq4 hcr5 hfr5 hcq5 hfq5 hcr6 hfr6 hcq6 hfq6 n62 n26 n64 n46 n63 n36 n32 n23;clear W;have W := W7;clear W7;obtain ⟨hct0, hct1, hct2, hct3, hct4⟩ := cells5 W.out.f.b2;obtain ⟨-, -, hcc2, -, -, -, -, -, -, hcc9, -, -, -, hcc13⟩ := cells14 W.out.f.b3;obtain ⟨hcr0, hcr1, hcr2, hcr3, hcr4, hcr5, hcr6⟩ := cells7 W.out.f.b4;have hfr0 := bF_ W.out.f.b4 0;have hfr1 := bF_ W.out.f.b4 1;have hfr2 := bF_ W.out.f.b4 2;have hfr3 := bF_ W.out.f.b4 3;have hfr4 := bF_ W.out.f.b4 4;have hfr5 := bF_ W.out.f.b4 5;have hfr6 := bF_ W.out.f.b4 6;obtain ⟨hcq0, hcq1, hcq2, hcq3, hcq4, hcq5, hcq6⟩ := cells7 W.out.b6;have hfq0 := bF_ W.out.b6 0;have hfq1 := bF_ W.out.b6 1;have hfq2 := bF_ W.out.b6 2;have hfq3 := bF_ W.out.b6 3;have hfq4 := bF_ W.out.b6 4;have hfq5 := bF_ W.out.b6 5;have hfq6 := bF_ W.out.b6 6;have n62 := W.out.n62;have n26 := W.out.n62.symm;have n64 := W.out.n64;have n46 := W.out.n64.symm;have n63 := W.out.n63;have n36 := W.out.n63.symm;have n32 := W.out.f.n32;have n23 := W.out.f.n32.symm;have hft0 := bF_ W.out.f.b2 0;have hft1 := bF_ W.out.f.b2 1;have hft2 := bF_ W.out.f.b2 2;have hft3 := bF_ W.out.f.b2 3;have hft4 := bF_ W.out.f.b2 4
   rcases F3 with (⟨rfl, a1, a2⟩ | ⟨rfl, a1, a2⟩) | ⟨rfl, a1, a2⟩
   iterate 2
    ·skip
     go_wp2_with (first
      | (go_at_call 62; refine (headgateref11_without.calls k A0 c0 l c.f2 l2 _ (Kd.R_reads' W.out.r0).2.2 (Kd.R_reads' W.out.r0).2.1 HWO.out).mono ?_; rintro e w8 ⟨v1, rfl, hr1, hb⟩; obtain ⟨A1, c1, e1⟩ := Kd.R_slice hr1; subst e1; have W1 := aS_ ((W.out.below hb).row hr1 (below_size W.out.f.hb)); clear W hb hr1; have W := W1; clear W1; clear hct0 hct1 hct2 hct3 hct4 hcc2 hcc9 hcc13 hcr0 hfr0 hcq0 hfq0 hcr1 hfr1 hcq1 hfq1 hcr2 hfr2 hcq2 hfq2 hcr3 hfr3 hcq3 hfq3 hcr4 hfr4 hcq4 hfq4 hcr5 hfr5 hcq5 hfq5 hcr6 hfr6 hcq6 hfq6 hft0 hft1 hft2 hft3 hft4 n62 n26 n64 n46 n63 n36 n32 n23; obtain ⟨hct0, hct1, hct2, hct3, hct4⟩ := cells5 W.out.f.b2; obtain ⟨-, -, hcc2, -, -, -, -, -, -, hcc9, -, -, -, hcc13⟩ := cells14 W.out.f.b3; obtain ⟨hcr0, hcr1, hcr2, hcr3, hcr4, hcr5, hcr6⟩ := cells7 W.out.f.b4; have hfr0 := bF_ W.out.f.b4 0; have hfr1 := bF_ W.out.f.b4 1; have hfr2 := bF_ W.out.f.b4 2; have hfr3 := bF_ W.out.f.b4 3; have hfr4 := bF_ W.out.f.b4 4; have hfr5 := bF_ W.out.f.b4 5; have hfr6 := bF_ W.out.f.b4 6; obtain ⟨hcq0, hcq1, hcq2, hcq3, hcq4, hcq5, hcq6⟩ := cells7 W.out.b6; have hfq0 := bF_ W.out.b6 0; have hfq1 := bF_ W.out.b6 1; have hfq2 := bF_ W.out.b6 2; have hfq3 := bF_ W.out.b6 3; have hfq4 := bF_ W.out.b6 4; have hfq5 := bF_ W.out.b6 5; have hfq6 := bF_ W.out.b6 6; have n62 := W.out.n62; have n26 := W.out.n62.symm; have n64 := W.out.n64; have n46 := W.out.n64.symm; have n63 := W.out.n63; have n36 := W.out.n63.symm; have n32 := W.out.f.n32; have n23 := W.out.f.n32.symm; have hft0 := bF_ W.out.f.b2 0; have hft1 := bF_ W.out.f.b2 1; have hft2 := bF_ W.out.f.b2 2; have hft3 := bF_ W.out.f.b2 3; have hft4 := bF_ W.out.f.b2 4))
     (try simp only [Exit.inBlock, Exit.then])
     refine ret_out rfl rfl rfl (((((((((W.out.put2 0 _ rfl).put2 3 _ rfl).put2 4 _ rfl).put6 0 _ rfl).put6 1 _ rfl).put6 2 _ rfl).put6 3 _ rfl).put6 4 _ rfl).f.out _ _ _ _ _ _ _).1 hu40 rfl rfl ?_;exact ⟨_, _, rfl, ((((((((W.out.put2 0 _ rfl).put2 3 _ rfl).put2 4 _ rfl).put6 0 _ rfl).put6 1 _ rfl).put6 2 _ rfl).put6 3 _ rfl).put6 4 _ rfl).fin _ _ _ _ _ _ _⟩
   ·skip
    go_wp2_with (first
     | (go_at_call 62; refine (headgateref11_without.calls k A0 c0 l c.f2 l2 _ (Kd.R_reads' W.out.r0).2.2 (Kd.R_reads' W.out.r0).2.1 HWO.out).mono ?_; rintro e w8 ⟨v1, rfl, hr1, hb⟩; obtain ⟨A1, c1, e1⟩ := Kd.R_slice hr1; subst e1; have W1 := aS_ ((W.out.below hb).row hr1 (below_size W.out.f.hb)); clear W hb hr1; have W := W1; clear W1; clear hct0 hct1 hct2 hct3 hct4 hcc2 hcc9 hcc13 hcr0 hfr0 hcq0 hfq0 hcr1 hfr1 hcq1 hfq1 hcr2 hfr2 hcq2 hfq2 hcr3 hfr3 hcq3 hfq3 hcr4 hfr4 hcq4 hfq4 hcr5 hfr5 hcq5 hfq5 hcr6 hfr6 hcq6 hfq6 hft0 hft1 hft2 hft3 hft4 n62 n26 n64 n46 n63 n36 n32 n23; obtain ⟨hct0, hct1, hct2, hct3, hct4⟩ := cells5 W.out.f.b2; obtain ⟨-, -, hcc2, -, -, -, -, -, -, hcc9, -, -, -, hcc13⟩ := cells14 W.out.f.b3; obtain ⟨hcr0, hcr1, hcr2, hcr3, hcr4, hcr5, hcr6⟩ := cells7 W.out.f.b4; have hfr0 := bF_ W.out.f.b4 0; have hfr1 := bF_ W.out.f.b4 1; have hfr2 := bF_ W.out.f.b4 2; have hfr3 := bF_ W.out.f.b4 3; have hfr4 := bF_ W.out.f.b4 4; have hfr5 := bF_ W.out.f.b4 5; have hfr6 := bF_ W.out.f.b4 6; obtain ⟨hcq0, hcq1, hcq2, hcq3, hcq4, hcq5, hcq6⟩ := cells7 W.out.b6; have hfq0 := bF_ W.out.b6 0; have hfq1 := bF_ W.out.b6 1; have hfq2 := bF_ W.out.b6 2; have hfq3 := bF_ W.out.b6 3; have hfq4 := bF_ W.out.b6 4; have hfq5 := bF_ W.out.b6 5; have hfq6 := bF_ W.out.b6 6; have n62 := W.out.n62; have n26 := W.out.n62.symm; have n64 := W.out.n64; have n46 := W.out.n64.symm; have n63 := W.out.n63; have n36 := W.out.n63.symm; have n32 := W.out.f.n32; have n23 := W.out.f.n32.symm; have hft0 := bF_ W.out.f.b2 0; have hft1 := bF_ W.out.f.b2 1; have hft2 := bF_ W.out.f.b2 2; have hft3 := bF_ W.out.f.b2 3; have hft4 := bF_ W.out.f.b2 4))
    (try simp only [Exit.inBlock, Exit.then])
    refine ret_out rfl rfl rfl ((((((((W.out.put2 0 _ rfl).put2 3 _ rfl).put6 0 _ rfl).put6 1 _ rfl).put6 2 _ rfl).put6 3 _ rfl).put6 4 _ rfl).f.out _ _ _ _ _ _ _).1 hu40 rfl rfl ?_;exact ⟨_, _, rfl, (((((((W.out.put2 0 _ rfl).put2 3 _ rfl).put6 0 _ rfl).put6 1 _ rfl).put6 2 _ rfl).put6 3 _ rfl).put6 4 _ rfl).fin _ _ _ _ _ _ _⟩
theorem rf_reg_free (k : Nat) (A0 : Option Addr) (c0 : Nat) (l : List S53) (typ : Int) (host : ByteArray) (gen : Int) (apt : Bool) (c : S31) (rg : Value) (w0 w : World) (hb0 : Below w0.heap.size w0 w) (hr : Kd.R k53 53 w w0.heap.size (fun _ => True) (.slice A0 l.length c0) l) (kk : Int) (hkk : headgateref11_Key.f k l typ host gen apt c.f2 = some kk) (hps : (!c.f12 && c.f8 != kk) = false) (h9 : c.f9 = 0) (h0 : kk ≠ 0) (l2 : List S53) (hwo : headgateref11_without.f k l c.f2 = some l2) (b0 al z : Bool) (hb : (typ != 0) = b0) (hal : (host.toList == c.f2.toList) = al) (hz : ((l2.length : Int) == 0) = z) (hs : (b0 && (al || z)) = true) (h3 : (typ == 3) = false) (h4 : (typ == 4) = false) :
  Calls Tryd.prog 37 #[.agg (tabc (.slice A0 l.length c0) typ host gen apt), .agg (cmdc c rg)] w fun e w' => ∃ v0 v5, e = .returned (.agg #[v0, .int .i64 0, .string (⟨#[]⟩ : ByteArray), .int .u32 ((gen + 1) % 4294967296), .bool (aptP c apt), v5, .int .i64 1]) ∧ Kd.R k53 53 w' w0.heap.size (fun _ => True) v0 l2 ∧ Kd.R k46 46 w' w0.heap.size (fun _ => True) v5 [] ∧ Below w0.heap.size w0 w' ∧ Kt w w' := by
 have hu27 := Tryd.underlying27;have hu24 := Tryd.underlying24;have hu31 := Tryd.underlying31;have hu40 := Tryd.underlying40;have hu53 := Tryd.underlying53;have HR := aS_ hr;have HB0 := aS_ hb0;have HKK := aS_ hkk;have HB := aS_ (Below.refl w.heap.size w);clear hr hb0 hkk;unfold tabc cmdc
 have d9 : (c.f9 != 0) = false := by rw [h9]; rfl
 clear h9;have dk : (kk != 0) = true := bne_iff_ne.mpr h0;have dk0 : (kk == 0) = false := beq_eq_false_iff_ne.mpr h0;clear h0;have F3 := apt4 c apt
 obtain ⟨ap, hap⟩ : ∃ ap, ap = aptP c apt := ⟨_, rfl⟩
 rw [← hap] at F3 ⊢;clear hap;have HWO := aS_ hwo;clear hwo
 have hss : b0 = true ∧ al = true ∨ b0 = true ∧ al = false ∧ z = true := by cases b0 <;> cases al <;> cases z <;> simp_all
 clear hs
 rcases hss with ⟨rfl, rfl⟩ | ⟨rfl, rfl, rfl⟩
 all_goals
  rcases pass2 _ _ hps with f12 | ⟨f12, hk8⟩
  all_goals
   have F12 := aS_ f12;clear hps f12;go_enter Tryd.func37, Tryd.ntmps37
   go_upto_region 5 with (first
    | ((with_reducible refine gate_dst (N := 2) rfl ?_); refine bX_ (N := 2) (cs := tabc (.slice A0 l.length c0) typ host gen apt) (t := 27) ?hr ?_; (case hr => first | (go_simp; done) | (go_simp; rfl)); intro g2 hgg2 w2 hxg2 hyg2; have X2 := aS_ hxg2; have Y2 := aS_ hyg2; have Z2 := aS_ hgg2; clear hxg2 hyg2 hgg2)
    | ((with_reducible refine gate_dst (N := 3) rfl ?_); refine bX_ (N := 3) (cs := cmdc c rg) (t := 31) ?hr ?_; (case hr => first | (go_simp; done) | (go_simp; rfl)); intro g3 hgg3 w3 hxg3 hyg3; have X3 := aS_ hxg3; have Y3 := aS_ hyg3; have Z3 := aS_ (show g2 < g3 by rw [hgg3]; exact blk_lt X2.out); clear hxg3 hyg3 hgg3)
    | ((with_reducible refine gate_dst (N := 4) rfl ?_); refine bX_ (N := 4) (cs := outc) (t := 40) ?hr ?_; (case hr => first | (go_simp; done) | (go_simp; rfl)); intro g4 hgg4 w4 hxg4 hyg4; have hlt3 := blk_lt (blk_below X2.out Y3.out); have hlt4 := blk_lt X3.out; have hz2 := below_size (below_step HB.out (below_step Y2.out Y3.out)); have F := aS_ (Rf.mk (w0 := w) (by have := Z2.out; have := below_size HB.out; omega) (by omega) (by omega) (by have := Z3.out; omega) (by omega) (blk_below (blk_below X2.out Y3.out) hyg4) (blk_below X3.out hyg4) hxg4 (below_step HB.out (below_step Y2.out (below_step Y3.out hyg4)))); have n42 := F.out.n42; have n24 := F.out.n42.symm; clear hlt3 hlt4 hz2 X2 X3 Y2 Y3 Z2 Z3 hxg4 hyg4 hgg4; obtain ⟨hct0, hct1, hct2, hct3, hct4⟩ := cells5 F.out.b2; obtain ⟨-, -, hcc2, -, -, -, -, -, hcc8, hcc9, -, -, hcc12, hcc13⟩ := cells14 F.out.b3; obtain ⟨hcr0, hcr1, hcr2, hcr3, hcr4, hcr5, hcr6⟩ := cells7 F.out.b4; have hfr0 := bF_ F.out.b4 0; have hfr1 := bF_ F.out.b4 1; have hfr2 := bF_ F.out.b4 2; have hfr3 := bF_ F.out.b4 3; have hfr4 := bF_ F.out.b4 4; have hfr5 := bF_ F.out.b4 5; have hfr6 := bF_ F.out.b4 6)
    | (go_at_call 19; refine (headgateref11_Key.calls k A0 c0 l typ host gen apt c.f2 kk _ (Kd.C_below (Kd.R_reads' HR.out).2.2 F.out.hb) (Kd.R_reads' HR.out).2.1 HKK.out).mono ?_; rintro e w5 ⟨rfl, hb⟩; have F1 := aS_ (F.out.below hb); clear F hb; have F := F1; clear F1; clear hct0 hct1 hct2 hct3 hct4 hcc2 hcc8 hcc9 hcc12 hcc13 hcr0 hfr0 hcr1 hfr1 hcr2 hfr2 hcr3 hfr3 hcr4 hfr4 hcr5 hfr5 hcr6 hfr6; obtain ⟨hct0, hct1, hct2, hct3, hct4⟩ := cells5 F.out.b2; obtain ⟨-, -, hcc2, -, -, -, -, -, hcc8, hcc9, -, -, hcc12, hcc13⟩ := cells14 F.out.b3; obtain ⟨hcr0, hcr1, hcr2, hcr3, hcr4, hcr5, hcr6⟩ := cells7 F.out.b4; have hfr0 := bF_ F.out.b4 0; have hfr1 := bF_ F.out.b4 1; have hfr2 := bF_ F.out.b4 2; have hfr3 := bF_ F.out.b4 3; have hfr4 := bF_ F.out.b4 4; have hfr5 := bF_ F.out.b4 5; have hfr6 := bF_ F.out.b4 6; rw [F12.out] at hcc12)
    | ((with_reducible refine gate_dst (N := 6) rfl ?_); refine bX_ (N := 6) (cs := outc) (t := 40) ?hr ?_; (case hr => first | (go_simp; done) | (go_simp; rfl)); intro g6 hgg6 w6 hxg6 hyg6; have W := aS_ (Rw.start F.out HB0.out hxg6 hyg6 hgg6 HR.out); clear F hxg6 hyg6 hgg6; clear hct0 hct1 hct2 hct3 hct4 hcc2 hcc8 hcc9 hcc12 hcc13 hcr0 hfr0 hcr1 hfr1 hcr2 hfr2 hcr3 hfr3 hcr4 hfr4 hcr5 hfr5 hcr6 hfr6; obtain ⟨hct0, hct1, hct2, hct3, hct4⟩ := cells5 W.out.f.b2; obtain ⟨-, -, hcc2, -, -, -, -, -, hcc8, hcc9, -, -, hcc12, hcc13⟩ := cells14 W.out.f.b3; obtain ⟨hcr0, hcr1, hcr2, hcr3, hcr4, hcr5, hcr6⟩ := cells7 W.out.f.b4; have hfr0 := bF_ W.out.f.b4 0; have hfr1 := bF_ W.out.f.b4 1; have hfr2 := bF_ W.out.f.b4 2; have hfr3 := bF_ W.out.f.b4 3; have hfr4 := bF_ W.out.f.b4 4; have hfr5 := bF_ W.out.f.b4 5; have hfr6 := bF_ W.out.f.b4 6; obtain ⟨hcq0, hcq1, hcq2, hcq3, hcq4, hcq5, hcq6⟩ := cells7 W.out.b6; have hfq0 := bF_ W.out.b6 0; have hfq1 := bF_ W.out.b6 1; have hfq2 := bF_ W.out.b6 2; have hfq3 := bF_ W.out.b6 3; have hfq4 := bF_ W.out.b6 4; have hfq5 := bF_ W.out.b6 5; have hfq6 := bF_ W.out.b6 6; have n62 := W.out.n62; have n26 := W.out.n62.symm; have n64 := W.out.n64; have n46 := W.out.n64.symm; have n63 := W.out.n63; have n36 := W.out.n63.symm; have n32 := W.out.f.n32; have n23 := W.out.f.n32.symm; rw [F12.out] at hcc12))
   refine Hand.at_world (fun w' => Aside0 (Rw w0 w w' g2 g3 g4 g6 c rg (tabc (.slice A0 l.length c0) typ host gen apt) tq0 (.slice A0 l.length c0) l (.slice none 0 0) [])) ⟨(((((((W.out.put6 0 _ rfl).put6 1 _ rfl).put6 2 _ rfl).put6 3 _ rfl).put6 4 _ rfl).put6 5 _ rfl).put6 6 _ rfl)⟩ ?_;rintro w7 W7;clear hct0 hct1 hct2 hct3 hct4 hcc2 hcc8 hcc9 hcc12 hcc13 hcr0 hfr0 hcq0 hfq0 hcr1 hfr1 hcq1 hfq1 hcr2 hfr2 hcq2 hfq2 hcr3 hfr3 hcq3 hfq3 hcr4 hfr4 hcq4 hfq4 hcr5 hfr5 hcq5 hfq5 hcr6 hfr6 hcq6 hfq6 n62 n26 n64 n46 n63 n36 n32 n23;clear W;have W := W7;clear W7;obtain ⟨hct0, hct1, hct2, hct3, hct4⟩ := cells5 W.out.f.b2;obtain ⟨-, -, hcc2, -, -, -, -, -, -, hcc9, -, -, -, hcc13⟩ := cells14 W.out.f.b3;obtain ⟨hcr0, hcr1, hcr2, hcr3, hcr4, hcr5, hcr6⟩ := cells7 W.out.f.b4;have hfr0 := bF_ W.out.f.b4 0;have hfr1 := bF_ W.out.f.b4 1;have hfr2 := bF_ W.out.f.b4 2;have hfr3 := bF_ W.out.f.b4 3;have hfr4 := bF_ W.out.f.b4 4;have hfr5 := bF_ W.out.f.b4 5;have hfr6 := bF_ W.out.f.b4 6;obtain ⟨hcq0, hcq1, hcq2, hcq3, hcq4, hcq5, hcq6⟩ := cells7 W.out.b6;have hfq0 := bF_ W.out.b6 0;have hfq1 := bF_ W.out.b6 1;have hfq2 := bF_ W.out.b6 2;have hfq3 := bF_ W.out.b6 3;have hfq4 := bF_ W.out.b6 4;have hfq5 := bF_ W.out.b6 5;have hfq6 := bF_ W.out.b6 6;have n62 := W.out.n62;have n26 := W.out.n62.symm;have n64 := W.out.n64;have n46 := W.out.n64.symm;have n63 := W.out.n63;have n36 := W.out.n63.symm;have n32 := W.out.f.n32;have n23 := W.out.f.n32.symm;have hft0 := bF_ W.out.f.b2 0;have hft1 := bF_ W.out.f.b2 1;have hft2 := bF_ W.out.f.b2 2;have hft3 := bF_ W.out.f.b2 3;have hft4 := bF_ W.out.f.b2 4
   rcases F3 with (⟨rfl, a1, a2⟩ | ⟨rfl, a1, a2⟩) | ⟨rfl, a1, a2⟩
   iterate 2
    ·skip
     go_wp2_with (first
      | (go_at_call 62; refine (headgateref11_without.calls k A0 c0 l c.f2 l2 _ (Kd.R_reads' W.out.r0).2.2 (Kd.R_reads' W.out.r0).2.1 HWO.out).mono ?_; rintro e w8 ⟨v1, rfl, hr1, hb⟩; obtain ⟨A1, c1, e1⟩ := Kd.R_slice hr1; subst e1; have W1 := aS_ ((W.out.below hb).row hr1 (below_size W.out.f.hb)); clear W hb hr1; have W := W1; clear W1; clear hct0 hct1 hct2 hct3 hct4 hcc2 hcc9 hcc13 hcr0 hfr0 hcq0 hfq0 hcr1 hfr1 hcq1 hfq1 hcr2 hfr2 hcq2 hfq2 hcr3 hfr3 hcq3 hfq3 hcr4 hfr4 hcq4 hfq4 hcr5 hfr5 hcq5 hfq5 hcr6 hfr6 hcq6 hfq6 hft0 hft1 hft2 hft3 hft4 n62 n26 n64 n46 n63 n36 n32 n23; obtain ⟨hct0, hct1, hct2, hct3, hct4⟩ := cells5 W.out.f.b2; obtain ⟨-, -, hcc2, -, -, -, -, -, -, hcc9, -, -, -, hcc13⟩ := cells14 W.out.f.b3; obtain ⟨hcr0, hcr1, hcr2, hcr3, hcr4, hcr5, hcr6⟩ := cells7 W.out.f.b4; have hfr0 := bF_ W.out.f.b4 0; have hfr1 := bF_ W.out.f.b4 1; have hfr2 := bF_ W.out.f.b4 2; have hfr3 := bF_ W.out.f.b4 3; have hfr4 := bF_ W.out.f.b4 4; have hfr5 := bF_ W.out.f.b4 5; have hfr6 := bF_ W.out.f.b4 6; obtain ⟨hcq0, hcq1, hcq2, hcq3, hcq4, hcq5, hcq6⟩ := cells7 W.out.b6; have hfq0 := bF_ W.out.b6 0; have hfq1 := bF_ W.out.b6 1; have hfq2 := bF_ W.out.b6 2; have hfq3 := bF_ W.out.b6 3; have hfq4 := bF_ W.out.b6 4; have hfq5 := bF_ W.out.b6 5; have hfq6 := bF_ W.out.b6 6; have n62 := W.out.n62; have n26 := W.out.n62.symm; have n64 := W.out.n64; have n46 := W.out.n64.symm; have n63 := W.out.n63; have n36 := W.out.n63.symm; have n32 := W.out.f.n32; have n23 := W.out.f.n32.symm; have hft0 := bF_ W.out.f.b2 0; have hft1 := bF_ W.out.f.b2 1; have hft2 := bF_ W.out.f.b2 2; have hft3 := bF_ W.out.f.b2 3; have hft4 := bF_ W.out.f.b2 4))
     (try simp only [Exit.inBlock, Exit.then])
     refine ret_out rfl rfl rfl (((((((((((W.out.put2 0 _ rfl).put2 3 _ rfl).put2 1 _ rfl).put2 2 _ rfl).put2 4 _ rfl).put6 0 _ rfl).put6 1 _ rfl).put6 2 _ rfl).put6 3 _ rfl).put6 4 _ rfl).f.out _ _ _ _ _ _ _).1 hu40 rfl rfl ?_;exact ⟨_, _, rfl, ((((((((((W.out.put2 0 _ rfl).put2 3 _ rfl).put2 1 _ rfl).put2 2 _ rfl).put2 4 _ rfl).put6 0 _ rfl).put6 1 _ rfl).put6 2 _ rfl).put6 3 _ rfl).put6 4 _ rfl).fin _ _ _ _ _ _ _⟩
   ·skip
    go_wp2_with (first
     | (go_at_call 62; refine (headgateref11_without.calls k A0 c0 l c.f2 l2 _ (Kd.R_reads' W.out.r0).2.2 (Kd.R_reads' W.out.r0).2.1 HWO.out).mono ?_; rintro e w8 ⟨v1, rfl, hr1, hb⟩; obtain ⟨A1, c1, e1⟩ := Kd.R_slice hr1; subst e1; have W1 := aS_ ((W.out.below hb).row hr1 (below_size W.out.f.hb)); clear W hb hr1; have W := W1; clear W1; clear hct0 hct1 hct2 hct3 hct4 hcc2 hcc9 hcc13 hcr0 hfr0 hcq0 hfq0 hcr1 hfr1 hcq1 hfq1 hcr2 hfr2 hcq2 hfq2 hcr3 hfr3 hcq3 hfq3 hcr4 hfr4 hcq4 hfq4 hcr5 hfr5 hcq5 hfq5 hcr6 hfr6 hcq6 hfq6 hft0 hft1 hft2 hft3 hft4 n62 n26 n64 n46 n63 n36 n32 n23; obtain ⟨hct0, hct1, hct2, hct3, hct4⟩ := cells5 W.out.f.b2; obtain ⟨-, -, hcc2, -, -, -, -, -, -, hcc9, -, -, -, hcc13⟩ := cells14 W.out.f.b3; obtain ⟨hcr0, hcr1, hcr2, hcr3, hcr4, hcr5, hcr6⟩ := cells7 W.out.f.b4; have hfr0 := bF_ W.out.f.b4 0; have hfr1 := bF_ W.out.f.b4 1; have hfr2 := bF_ W.out.f.b4 2; have hfr3 := bF_ W.out.f.b4 3; have hfr4 := bF_ W.out.f.b4 4; have hfr5 := bF_ W.out.f.b4 5; have hfr6 := bF_ W.out.f.b4 6; obtain ⟨hcq0, hcq1, hcq2, hcq3, hcq4, hcq5, hcq6⟩ := cells7 W.out.b6; have hfq0 := bF_ W.out.b6 0; have hfq1 := bF_ W.out.b6 1; have hfq2 := bF_ W.out.b6 2; have hfq3 := bF_ W.out.b6 3; have hfq4 := bF_ W.out.b6 4; have hfq5 := bF_ W.out.b6 5; have hfq6 := bF_ W.out.b6 6; have n62 := W.out.n62; have n26 := W.out.n62.symm; have n64 := W.out.n64; have n46 := W.out.n64.symm; have n63 := W.out.n63; have n36 := W.out.n63.symm; have n32 := W.out.f.n32; have n23 := W.out.f.n32.symm; have hft0 := bF_ W.out.f.b2 0; have hft1 := bF_ W.out.f.b2 1; have hft2 := bF_ W.out.f.b2 2; have hft3 := bF_ W.out.f.b2 3; have hft4 := bF_ W.out.f.b2 4))
    (try simp only [Exit.inBlock, Exit.then])
    refine ret_out rfl rfl rfl ((((((((((W.out.put2 0 _ rfl).put2 3 _ rfl).put2 1 _ rfl).put2 2 _ rfl).put6 0 _ rfl).put6 1 _ rfl).put6 2 _ rfl).put6 3 _ rfl).put6 4 _ rfl).f.out _ _ _ _ _ _ _).1 hu40 rfl rfl ?_;exact ⟨_, _, rfl, (((((((((W.out.put2 0 _ rfl).put2 3 _ rfl).put2 1 _ rfl).put2 2 _ rfl).put6 0 _ rfl).put6 1 _ rfl).put6 2 _ rfl).put6 3 _ rfl).put6 4 _ rfl).fin _ _ _ _ _ _ _⟩
theorem rf_reg_told (k : Nat) (A0 : Option Addr) (c0 : Nat) (l : List S53) (typ : Int) (host : ByteArray) (gen : Int) (apt : Bool) (c : S31) (rg : Value) (w0 w : World) (hb0 : Below w0.heap.size w0 w) (hr : Kd.R k53 53 w w0.heap.size (fun _ => True) (.slice A0 l.length c0) l) (kk : Int) (hkk : headgateref11_Key.f k l typ host gen apt c.f2 = some kk) (hps : (!c.f12 && c.f8 != kk) = false) (h9 : c.f9 = 0) (h0 : kk ≠ 0) (l2 : List S53) (hwo : headgateref11_without.f k l c.f2 = some l2) (b0 al z : Bool) (hb : (typ != 0) = b0) (hal : (host.toList == c.f2.toList) = al) (hz : ((l2.length : Int) == 0) = z) (hs : (b0 && (al || z)) = true) (t3 t4 : Bool) (h3 : (typ == 3) = t3) (h4 : (typ == 4) = t4) (h34 : (t3 || t4) = true) (evs : List S46) (hev : headgateref11_events.f k l2 (⟨#[]⟩ : ByteArray) 3 = some evs) :
  Calls Tryd.prog 37 #[.agg (tabc (.slice A0 l.length c0) typ host gen apt), .agg (cmdc c rg)] w fun e w' => ∃ v0 v5, e = .returned (.agg #[v0, .int .i64 0, .string (⟨#[]⟩ : ByteArray), .int .u32 ((gen + 1) % 4294967296), .bool (aptP c apt), v5, .int .i64 1]) ∧ Kd.R k53 53 w' w0.heap.size (fun _ => True) v0 l2 ∧ Kd.R k46 46 w' w0.heap.size (fun _ => True) v5 evs ∧ Below w0.heap.size w0 w' ∧ Kt w w' := by
 have hu27 := Tryd.underlying27;have hu24 := Tryd.underlying24;have hu31 := Tryd.underlying31;have hu40 := Tryd.underlying40;have hu53 := Tryd.underlying53;have HR := aS_ hr;have HB0 := aS_ hb0;have HKK := aS_ hkk;have HB := aS_ (Below.refl w.heap.size w);clear hr hb0 hkk;unfold tabc cmdc
 have d9 : (c.f9 != 0) = false := by rw [h9]; rfl
 clear h9;have dk : (kk != 0) = true := bne_iff_ne.mpr h0;have dk0 : (kk == 0) = false := beq_eq_false_iff_ne.mpr h0;clear h0;have F3 := apt4 c apt
 obtain ⟨ap, hap⟩ : ∃ ap, ap = aptP c apt := ⟨_, rfl⟩
 rw [← hap] at F3 ⊢;clear hap;have HWO := aS_ hwo;clear hwo;have HEV := aS_ hev;clear hev
 have hss : b0 = true ∧ al = true ∨ b0 = true ∧ al = false ∧ z = true := by cases b0 <;> cases al <;> cases z <;> simp_all
 have h35 : t3 = true ∨ t3 = false ∧ t4 = true := by cases t3 <;> simp_all
 clear hs h34
 rcases hss with ⟨rfl, rfl⟩ | ⟨rfl, rfl, rfl⟩
 all_goals
  rcases h35 with rfl | ⟨rfl, rfl⟩
  all_goals
   rcases pass2 _ _ hps with f12 | ⟨f12, hk8⟩
   all_goals
    have F12 := aS_ f12;clear hps f12;go_enter Tryd.func37, Tryd.ntmps37
    go_upto_region 5 with (first
     | ((with_reducible refine gate_dst (N := 2) rfl ?_); refine bX_ (N := 2) (cs := tabc (.slice A0 l.length c0) typ host gen apt) (t := 27) ?hr ?_; (case hr => first | (go_simp; done) | (go_simp; rfl)); intro g2 hgg2 w2 hxg2 hyg2; have X2 := aS_ hxg2; have Y2 := aS_ hyg2; have Z2 := aS_ hgg2; clear hxg2 hyg2 hgg2)
     | ((with_reducible refine gate_dst (N := 3) rfl ?_); refine bX_ (N := 3) (cs := cmdc c rg) (t := 31) ?hr ?_; (case hr => first | (go_simp; done) | (go_simp; rfl)); intro g3 hgg3 w3 hxg3 hyg3; have X3 := aS_ hxg3; have Y3 := aS_ hyg3; have Z3 := aS_ (show g2 < g3 by rw [hgg3]; exact blk_lt X2.out); clear hxg3 hyg3 hgg3)
     | ((with_reducible refine gate_dst (N := 4) rfl ?_); refine bX_ (N := 4) (cs := outc) (t := 40) ?hr ?_; (case hr => first | (go_simp; done) | (go_simp; rfl)); intro g4 hgg4 w4 hxg4 hyg4; have hlt3 := blk_lt (blk_below X2.out Y3.out); have hlt4 := blk_lt X3.out; have hz2 := below_size (below_step HB.out (below_step Y2.out Y3.out)); have F := aS_ (Rf.mk (w0 := w) (by have := Z2.out; have := below_size HB.out; omega) (by omega) (by omega) (by have := Z3.out; omega) (by omega) (blk_below (blk_below X2.out Y3.out) hyg4) (blk_below X3.out hyg4) hxg4 (below_step HB.out (below_step Y2.out (below_step Y3.out hyg4)))); have n42 := F.out.n42; have n24 := F.out.n42.symm; clear hlt3 hlt4 hz2 X2 X3 Y2 Y3 Z2 Z3 hxg4 hyg4 hgg4; obtain ⟨hct0, hct1, hct2, hct3, hct4⟩ := cells5 F.out.b2; obtain ⟨-, -, hcc2, -, -, -, -, -, hcc8, hcc9, -, -, hcc12, hcc13⟩ := cells14 F.out.b3; obtain ⟨hcr0, hcr1, hcr2, hcr3, hcr4, hcr5, hcr6⟩ := cells7 F.out.b4; have hfr0 := bF_ F.out.b4 0; have hfr1 := bF_ F.out.b4 1; have hfr2 := bF_ F.out.b4 2; have hfr3 := bF_ F.out.b4 3; have hfr4 := bF_ F.out.b4 4; have hfr5 := bF_ F.out.b4 5; have hfr6 := bF_ F.out.b4 6)
     | (go_at_call 19; refine (headgateref11_Key.calls k A0 c0 l typ host gen apt c.f2 kk _ (Kd.C_below (Kd.R_reads' HR.out).2.2 F.out.hb) (Kd.R_reads' HR.out).2.1 HKK.out).mono ?_; rintro e w5 ⟨rfl, hb⟩; have F1 := aS_ (F.out.below hb); clear F hb; have F := F1; clear F1; clear hct0 hct1 hct2 hct3 hct4 hcc2 hcc8 hcc9 hcc12 hcc13 hcr0 hfr0 hcr1 hfr1 hcr2 hfr2 hcr3 hfr3 hcr4 hfr4 hcr5 hfr5 hcr6 hfr6; obtain ⟨hct0, hct1, hct2, hct3, hct4⟩ := cells5 F.out.b2; obtain ⟨-, -, hcc2, -, -, -, -, -, hcc8, hcc9, -, -, hcc12, hcc13⟩ := cells14 F.out.b3; obtain ⟨hcr0, hcr1, hcr2, hcr3, hcr4, hcr5, hcr6⟩ := cells7 F.out.b4; have hfr0 := bF_ F.out.b4 0; have hfr1 := bF_ F.out.b4 1; have hfr2 := bF_ F.out.b4 2; have hfr3 := bF_ F.out.b4 3; have hfr4 := bF_ F.out.b4 4; have hfr5 := bF_ F.out.b4 5; have hfr6 := bF_ F.out.b4 6; rw [F12.out] at hcc12)
     | ((with_reducible refine gate_dst (N := 6) rfl ?_); refine bX_ (N := 6) (cs := outc) (t := 40) ?hr ?_; (case hr => first | (go_simp; done) | (go_simp; rfl)); intro g6 hgg6 w6 hxg6 hyg6; have W := aS_ (Rw.start F.out HB0.out hxg6 hyg6 hgg6 HR.out); clear F hxg6 hyg6 hgg6; clear hct0 hct1 hct2 hct3 hct4 hcc2 hcc8 hcc9 hcc12 hcc13 hcr0 hfr0 hcr1 hfr1 hcr2 hfr2 hcr3 hfr3 hcr4 hfr4 hcr5 hfr5 hcr6 hfr6; obtain ⟨hct0, hct1, hct2, hct3, hct4⟩ := cells5 W.out.f.b2; obtain ⟨-, -, hcc2, -, -, -, -, -, hcc8, hcc9, -, -, hcc12, hcc13⟩ := cells14 W.out.f.b3; obtain ⟨hcr0, hcr1, hcr2, hcr3, hcr4, hcr5, hcr6⟩ := cells7 W.out.f.b4; have hfr0 := bF_ W.out.f.b4 0; have hfr1 := bF_ W.out.f.b4 1; have hfr2 := bF_ W.out.f.b4 2; have hfr3 := bF_ W.out.f.b4 3; have hfr4 := bF_ W.out.f.b4 4; have hfr5 := bF_ W.out.f.b4 5; have hfr6 := bF_ W.out.f.b4 6; obtain ⟨hcq0, hcq1, hcq2, hcq3, hcq4, hcq5, hcq6⟩ := cells7 W.out.b6; have hfq0 := bF_ W.out.b6 0; have hfq1 := bF_ W.out.b6 1; have hfq2 := bF_ W.out.b6 2; have hfq3 := bF_ W.out.b6 3; have hfq4 := bF_ W.out.b6 4; have hfq5 := bF_ W.out.b6 5; have hfq6 := bF_ W.out.b6 6; have n62 := W.out.n62; have n26 := W.out.n62.symm; have n64 := W.out.n64; have n46 := W.out.n64.symm; have n63 := W.out.n63; have n36 := W.out.n63.symm; have n32 := W.out.f.n32; have n23 := W.out.f.n32.symm; rw [F12.out] at hcc12))
    refine Hand.at_world (fun w' => Aside0 (Rw w0 w w' g2 g3 g4 g6 c rg (tabc (.slice A0 l.length c0) typ host gen apt) tq0 (.slice A0 l.length c0) l (.slice none 0 0) [])) ⟨(((((((W.out.put6 0 _ rfl).put6 1 _ rfl).put6 2 _ rfl).put6 3 _ rfl).put6 4 _ rfl).put6 5 _ rfl).put6 6 _ rfl)⟩ ?_;rintro w7 W7;clear hct0 hct1 hct2 hct3 hct4 hcc2 hcc8 hcc9 hcc12 hcc13 hcr0 hfr0 hcq0 hfq0 hcr1 hfr1 hcq1 hfq1 hcr2 hfr2 hcq2 hfq2 hcr3 hfr3 hcq3 hfq3 hcr4 hfr4 hcq4 hfq4 hcr5 hfr5 hcq5 hfq5 hcr6 hfr6 hcq6 hfq6 n62 n26 n64 n46 n63 n36 n32 n23;clear W;have W := W7;clear W7;obtain ⟨hct0, hct1, hct2, hct3, hct4⟩ := cells5 W.out.f.b2;obtain ⟨-, -, hcc2, -, -, -, -, -, -, hcc9, -, -, -, hcc13⟩ := cells14 W.out.f.b3;obtain ⟨hcr0, hcr1, hcr2, hcr3, hcr4, hcr5, hcr6⟩ := cells7 W.out.f.b4;have hfr0 := bF_ W.out.f.b4 0;have hfr1 := bF_ W.out.f.b4 1;have hfr2 := bF_ W.out.f.b4 2;have hfr3 := bF_ W.out.f.b4 3;have hfr4 := bF_ W.out.f.b4 4;have hfr5 := bF_ W.out.f.b4 5;have hfr6 := bF_ W.out.f.b4 6;obtain ⟨hcq0, hcq1, hcq2, hcq3, hcq4, hcq5, hcq6⟩ := cells7 W.out.b6;have hfq0 := bF_ W.out.b6 0;have hfq1 := bF_ W.out.b6 1;have hfq2 := bF_ W.out.b6 2;have hfq3 := bF_ W.out.b6 3;have hfq4 := bF_ W.out.b6 4;have hfq5 := bF_ W.out.b6 5;have hfq6 := bF_ W.out.b6 6;have n62 := W.out.n62;have n26 := W.out.n62.symm;have n64 := W.out.n64;have n46 := W.out.n64.symm;have n63 := W.out.n63;have n36 := W.out.n63.symm;have n32 := W.out.f.n32;have n23 := W.out.f.n32.symm;have hft0 := bF_ W.out.f.b2 0;have hft1 := bF_ W.out.f.b2 1;have hft2 := bF_ W.out.f.b2 2;have hft3 := bF_ W.out.f.b2 3;have hft4 := bF_ W.out.f.b2 4
    rcases F3 with (⟨rfl, a1, a2⟩ | ⟨rfl, a1, a2⟩) | ⟨rfl, a1, a2⟩
    iterate 2
     ·skip
      go_wp2_with (first
       | (go_at_call 62; refine (headgateref11_without.calls k A0 c0 l c.f2 l2 _ (Kd.R_reads' W.out.r0).2.2 (Kd.R_reads' W.out.r0).2.1 HWO.out).mono ?_; rintro e w8 ⟨v1, rfl, hr1, hb⟩; obtain ⟨A1, c1, e1⟩ := Kd.R_slice hr1; subst e1; have W1 := aS_ ((W.out.below hb).row hr1 (below_size W.out.f.hb)); clear W hb hr1; have W := W1; clear W1; clear hct0 hct1 hct2 hct3 hct4 hcc2 hcc9 hcc13 hcr0 hfr0 hcq0 hfq0 hcr1 hfr1 hcq1 hfq1 hcr2 hfr2 hcq2 hfq2 hcr3 hfr3 hcq3 hfq3 hcr4 hfr4 hcq4 hfq4 hcr5 hfr5 hcq5 hfq5 hcr6 hfr6 hcq6 hfq6 hft0 hft1 hft2 hft3 hft4 n62 n26 n64 n46 n63 n36 n32 n23; obtain ⟨hct0, hct1, hct2, hct3, hct4⟩ := cells5 W.out.f.b2; obtain ⟨-, -, hcc2, -, -, -, -, -, -, hcc9, -, -, -, hcc13⟩ := cells14 W.out.f.b3; obtain ⟨hcr0, hcr1, hcr2, hcr3, hcr4, hcr5, hcr6⟩ := cells7 W.out.f.b4; have hfr0 := bF_ W.out.f.b4 0; have hfr1 := bF_ W.out.f.b4 1; have hfr2 := bF_ W.out.f.b4 2; have hfr3 := bF_ W.out.f.b4 3; have hfr4 := bF_ W.out.f.b4 4; have hfr5 := bF_ W.out.f.b4 5; have hfr6 := bF_ W.out.f.b4 6; obtain ⟨hcq0, hcq1, hcq2, hcq3, hcq4, hcq5, hcq6⟩ := cells7 W.out.b6; have hfq0 := bF_ W.out.b6 0; have hfq1 := bF_ W.out.b6 1; have hfq2 := bF_ W.out.b6 2; have hfq3 := bF_ W.out.b6 3; have hfq4 := bF_ W.out.b6 4; have hfq5 := bF_ W.out.b6 5; have hfq6 := bF_ W.out.b6 6; have n62 := W.out.n62; have n26 := W.out.n62.symm; have n64 := W.out.n64; have n46 := W.out.n64.symm; have n63 := W.out.n63; have n36 := W.out.n63.symm; have n32 := W.out.f.n32; have n23 := W.out.f.n32.symm; have hft0 := bF_ W.out.f.b2 0; have hft1 := bF_ W.out.f.b2 1; have hft2 := bF_ W.out.f.b2 2; have hft3 := bF_ W.out.f.b2 3; have hft4 := bF_ W.out.f.b2 4)
       | (go_at_call 41; refine deed_call (fun w' => Aside0 (Rw w0 w w' g2 g3 g4 g6 c rg (tabc (.slice A1 l2.length c1) typ host ((gen + 1) % 4294967296) apt) tq0 (.slice A1 l2.length c1) l2 (.slice none 0 0) [])) ⟨(W.out.put2 0 _ rfl).put2 3 _ rfl⟩ ?_; rintro w9 W9; clear hct0 hct1 hct2 hct3 hct4 hcc2 hcc9 hcc13 hcr0 hfr0 hcq0 hfq0 hcr1 hfr1 hcq1 hfq1 hcr2 hfr2 hcq2 hfq2 hcr3 hfr3 hcq3 hfq3 hcr4 hfr4 hcq4 hfq4 hcr5 hfr5 hcq5 hfq5 hcr6 hfr6 hcq6 hfq6 hft0 hft1 hft2 hft3 hft4 n62 n26 n64 n46 n63 n36 n32 n23; clear W; have W := W9; clear W9; refine (headgateref11_events.calls k _ _ l2 (⟨#[]⟩ : ByteArray) 3 evs _ (Kd.R_reads' W.out.r0).2.2 (Kd.R_reads' W.out.r0).2.1 HEV.out).mono ?_; rintro e w10 ⟨v5, rfl, hv, hb⟩; obtain ⟨Av, cv, ev_⟩ := Kd.R_slice hv; subst ev_; have W1 := aS_ ((W.out.below hb).told hv (below_size W.out.f.hb)); clear W hv hb; have W := W1; clear W1; obtain ⟨hct0, hct1, hct2, hct3, hct4⟩ := cells5 W.out.f.b2; obtain ⟨-, -, hcc2, -, -, -, -, -, -, hcc9, -, -, -, hcc13⟩ := cells14 W.out.f.b3; obtain ⟨hcr0, hcr1, hcr2, hcr3, hcr4, hcr5, hcr6⟩ := cells7 W.out.f.b4; have hfr0 := bF_ W.out.f.b4 0; have hfr1 := bF_ W.out.f.b4 1; have hfr2 := bF_ W.out.f.b4 2; have hfr3 := bF_ W.out.f.b4 3; have hfr4 := bF_ W.out.f.b4 4; have hfr5 := bF_ W.out.f.b4 5; have hfr6 := bF_ W.out.f.b4 6; obtain ⟨hcq0, hcq1, hcq2, hcq3, hcq4, hcq5, hcq6⟩ := cells7 W.out.b6; have hfq0 := bF_ W.out.b6 0; have hfq1 := bF_ W.out.b6 1; have hfq2 := bF_ W.out.b6 2; have hfq3 := bF_ W.out.b6 3; have hfq4 := bF_ W.out.b6 4; have hfq5 := bF_ W.out.b6 5; have hfq6 := bF_ W.out.b6 6; have n62 := W.out.n62; have n26 := W.out.n62.symm; have n64 := W.out.n64; have n46 := W.out.n64.symm; have n63 := W.out.n63; have n36 := W.out.n63.symm; have n32 := W.out.f.n32; have n23 := W.out.f.n32.symm; have hft0 := bF_ W.out.f.b2 0; have hft1 := bF_ W.out.f.b2 1; have hft2 := bF_ W.out.f.b2 2; have hft3 := bF_ W.out.f.b2 3; have hft4 := bF_ W.out.f.b2 4))
      (try simp only [Exit.inBlock, Exit.then])
      refine ret_out rfl rfl rfl ((((((((((W.out.put6 5 _ rfl).put2 1 _ rfl).put2 2 _ rfl).put2 4 _ rfl).put6 0 _ rfl).put6 1 _ rfl).put6 2 _ rfl).put6 3 _ rfl).put6 4 _ rfl).f.out _ _ _ _ _ _ _).1 hu40 rfl rfl ?_;exact ⟨_, _, rfl, (((((((((W.out.put6 5 _ rfl).put2 1 _ rfl).put2 2 _ rfl).put2 4 _ rfl).put6 0 _ rfl).put6 1 _ rfl).put6 2 _ rfl).put6 3 _ rfl).put6 4 _ rfl).fin _ _ _ _ _ _ _⟩
    ·skip
     go_wp2_with (first
      | (go_at_call 62; refine (headgateref11_without.calls k A0 c0 l c.f2 l2 _ (Kd.R_reads' W.out.r0).2.2 (Kd.R_reads' W.out.r0).2.1 HWO.out).mono ?_; rintro e w8 ⟨v1, rfl, hr1, hb⟩; obtain ⟨A1, c1, e1⟩ := Kd.R_slice hr1; subst e1; have W1 := aS_ ((W.out.below hb).row hr1 (below_size W.out.f.hb)); clear W hb hr1; have W := W1; clear W1; clear hct0 hct1 hct2 hct3 hct4 hcc2 hcc9 hcc13 hcr0 hfr0 hcq0 hfq0 hcr1 hfr1 hcq1 hfq1 hcr2 hfr2 hcq2 hfq2 hcr3 hfr3 hcq3 hfq3 hcr4 hfr4 hcq4 hfq4 hcr5 hfr5 hcq5 hfq5 hcr6 hfr6 hcq6 hfq6 hft0 hft1 hft2 hft3 hft4 n62 n26 n64 n46 n63 n36 n32 n23; obtain ⟨hct0, hct1, hct2, hct3, hct4⟩ := cells5 W.out.f.b2; obtain ⟨-, -, hcc2, -, -, -, -, -, -, hcc9, -, -, -, hcc13⟩ := cells14 W.out.f.b3; obtain ⟨hcr0, hcr1, hcr2, hcr3, hcr4, hcr5, hcr6⟩ := cells7 W.out.f.b4; have hfr0 := bF_ W.out.f.b4 0; have hfr1 := bF_ W.out.f.b4 1; have hfr2 := bF_ W.out.f.b4 2; have hfr3 := bF_ W.out.f.b4 3; have hfr4 := bF_ W.out.f.b4 4; have hfr5 := bF_ W.out.f.b4 5; have hfr6 := bF_ W.out.f.b4 6; obtain ⟨hcq0, hcq1, hcq2, hcq3, hcq4, hcq5, hcq6⟩ := cells7 W.out.b6; have hfq0 := bF_ W.out.b6 0; have hfq1 := bF_ W.out.b6 1; have hfq2 := bF_ W.out.b6 2; have hfq3 := bF_ W.out.b6 3; have hfq4 := bF_ W.out.b6 4; have hfq5 := bF_ W.out.b6 5; have hfq6 := bF_ W.out.b6 6; have n62 := W.out.n62; have n26 := W.out.n62.symm; have n64 := W.out.n64; have n46 := W.out.n64.symm; have n63 := W.out.n63; have n36 := W.out.n63.symm; have n32 := W.out.f.n32; have n23 := W.out.f.n32.symm; have hft0 := bF_ W.out.f.b2 0; have hft1 := bF_ W.out.f.b2 1; have hft2 := bF_ W.out.f.b2 2; have hft3 := bF_ W.out.f.b2 3; have hft4 := bF_ W.out.f.b2 4)
      | (go_at_call 41; refine deed_call (fun w' => Aside0 (Rw w0 w w' g2 g3 g4 g6 c rg (tabc (.slice A1 l2.length c1) typ host ((gen + 1) % 4294967296) apt) tq0 (.slice A1 l2.length c1) l2 (.slice none 0 0) [])) ⟨(W.out.put2 0 _ rfl).put2 3 _ rfl⟩ ?_; rintro w9 W9; clear hct0 hct1 hct2 hct3 hct4 hcc2 hcc9 hcc13 hcr0 hfr0 hcq0 hfq0 hcr1 hfr1 hcq1 hfq1 hcr2 hfr2 hcq2 hfq2 hcr3 hfr3 hcq3 hfq3 hcr4 hfr4 hcq4 hfq4 hcr5 hfr5 hcq5 hfq5 hcr6 hfr6 hcq6 hfq6 hft0 hft1 hft2 hft3 hft4 n62 n26 n64 n46 n63 n36 n32 n23; clear W; have W := W9; clear W9; refine (headgateref11_events.calls k _ _ l2 (⟨#[]⟩ : ByteArray) 3 evs _ (Kd.R_reads' W.out.r0).2.2 (Kd.R_reads' W.out.r0).2.1 HEV.out).mono ?_; rintro e w10 ⟨v5, rfl, hv, hb⟩; obtain ⟨Av, cv, ev_⟩ := Kd.R_slice hv; subst ev_; have W1 := aS_ ((W.out.below hb).told hv (below_size W.out.f.hb)); clear W hv hb; have W := W1; clear W1; obtain ⟨hct0, hct1, hct2, hct3, hct4⟩ := cells5 W.out.f.b2; obtain ⟨-, -, hcc2, -, -, -, -, -, -, hcc9, -, -, -, hcc13⟩ := cells14 W.out.f.b3; obtain ⟨hcr0, hcr1, hcr2, hcr3, hcr4, hcr5, hcr6⟩ := cells7 W.out.f.b4; have hfr0 := bF_ W.out.f.b4 0; have hfr1 := bF_ W.out.f.b4 1; have hfr2 := bF_ W.out.f.b4 2; have hfr3 := bF_ W.out.f.b4 3; have hfr4 := bF_ W.out.f.b4 4; have hfr5 := bF_ W.out.f.b4 5; have hfr6 := bF_ W.out.f.b4 6; obtain ⟨hcq0, hcq1, hcq2, hcq3, hcq4, hcq5, hcq6⟩ := cells7 W.out.b6; have hfq0 := bF_ W.out.b6 0; have hfq1 := bF_ W.out.b6 1; have hfq2 := bF_ W.out.b6 2; have hfq3 := bF_ W.out.b6 3; have hfq4 := bF_ W.out.b6 4; have hfq5 := bF_ W.out.b6 5; have hfq6 := bF_ W.out.b6 6; have n62 := W.out.n62; have n26 := W.out.n62.symm; have n64 := W.out.n64; have n46 := W.out.n64.symm; have n63 := W.out.n63; have n36 := W.out.n63.symm; have n32 := W.out.f.n32; have n23 := W.out.f.n32.symm; have hft0 := bF_ W.out.f.b2 0; have hft1 := bF_ W.out.f.b2 1; have hft2 := bF_ W.out.f.b2 2; have hft3 := bF_ W.out.f.b2 3; have hft4 := bF_ W.out.f.b2 4))
     (try simp only [Exit.inBlock, Exit.then])
     refine ret_out rfl rfl rfl (((((((((W.out.put6 5 _ rfl).put2 1 _ rfl).put2 2 _ rfl).put6 0 _ rfl).put6 1 _ rfl).put6 2 _ rfl).put6 3 _ rfl).put6 4 _ rfl).f.out _ _ _ _ _ _ _).1 hu40 rfl rfl ?_;exact ⟨_, _, rfl, ((((((((W.out.put6 5 _ rfl).put2 1 _ rfl).put2 2 _ rfl).put6 0 _ rfl).put6 1 _ rfl).put6 2 _ rfl).put6 3 _ rfl).put6 4 _ rfl).fin _ _ _ _ _ _ _⟩
theorem Rw.grown {w0 wb w : World} {g2 g3 g4 g6 : Nat} {c : S31} {rg : Value} {tc tq : Array Value} {w1 : World} {v0 v1 : Value} {l l1 : List S53} (h : Rw w0 wb w g2 g3 g4 g6 c rg tc tq v0 l (.slice none 0 0) []) (hg : w.grownBy w1 v0.ownBlock) (hb : Below w0.heap.size w0 w1) (hr : Kd.R k53 53 w1 w0.heap.size (fun _ => True) v1 l1) : Rw w0 wb w1 g2 g3 g4 g6 c rg tc tq v1 l1 (.slice none 0 0) [] :=
  ⟨h.f.grown h.r0 hg hb, h.z2, h.z4, h.z6, h.o6, h.n62, h.n63, h.n64, blk_grown h.b6 hg (Kd.R_ne h.r0 h.b6 (by decide)), hr, Kd.R_nil _ _ _ _ _, h.kt.trans (fun b t cs ht hb' => blk_grown hb' hg (Kd.R_ne h.r0 hb' ht.symm))⟩
theorem Rw.key {w0 wb w : World} {g2 g3 g4 g6 : Nat} {c : S31} {rg : Value} {tc tq : Array Value} {ad : Addr} {n cap : Nat} {l : List S53} {v5 : Value} {ev : List S46} (h : Rw w0 wb w g2 g3 g4 g6 c rg tc tq (.slice (some ad) n cap) l v5 ev) (i : Nat) (hi : i < l.length) (ky : Int) :
  (∃ v, w.cell? ⟨(ad.add (i * 2)).block, (ad.add (i * 2)).off + 1, none⟩ = some (.int .u64 v)) ∧ w.frozen? ⟨(ad.add (i * 2)).block, (ad.add (i * 2)).off + 1, none⟩ = false ∧ Rw w0 wb (w.setCell ⟨(ad.add (i * 2)).block, (ad.add (i * 2)).off + 1, none⟩ (.int .u64 ky)) g2 g3 g4 g6 c rg tc tq (.slice (some ad) n cap) (keyed l i ky) v5 ev := by
 obtain ⟨g, rest, eg, hg, hb, rfl, hc, hm, hr⟩ := R_block h.r0;subst eg;have hcl := (Bk.cells hb i hi).2;rw [row_addr] at hcl ⊢;have hb2 := Bk.key hb i hi ky
 have hne : ∀ {b t : Nat} {cs : Array Value}, w.heap[b]? = some (.cells cs t (0, 0)) → t ≠ 53 → b ≠ g := fun {b t cs} h1 ht z => by
  subst z;unfold Bk at hb;rw [h1] at hb
  injection hb with hb
  injection hb with _ hb
  exact ht hb
 have far : ∀ {b t : Nat} {cs : Array Value}, w.heap[b]? = some (.cells cs t (0, 0)) → t ≠ 53 → (w.setCell ⟨g, i * 2 + 1, none⟩ (.int .u64 ky)).heap[b]? = some (.cells cs t (0, 0)) := fun h1 ht => blk_far h1 (p := ⟨g, i * 2 + 1, none⟩) (hne h1 ht) _
 have hk : keyed l i ky = l.set i ⟨l[i].f0, ky⟩ := by unfold keyed; rw [rd_lt l i hi]
 refine ⟨⟨_, hcl⟩, bF_ hb (i * 2 + 1), ⟨h.f.o2, h.f.o4, h.f.n42, h.f.n32, h.f.n43, far h.f.b2 (by decide), far h.f.b3 (by decide), far h.f.b4 (by decide), below_set h.f.hb hg⟩, h.z2, h.z4, h.z6, h.o6, h.n62, h.n63, h.n64, far h.b6 (by decide), ?_, Kd.R_mono (Kd.R_far (p := ⟨g, i * 2 + 1, none⟩) (Kd.R_types h.r5 hb (by decide)) (fun _ hk => hk.2) _) (fun _ hk => hk.1), h.kt.trans (fun b t cs ht hb' => far hb' ht)⟩;have := block_R (k := l.length) (c := cap) hb2 hg (by rw [List.length_set]; exact Nat.le_refl _) (by rw [List.length_set]; omega) hm (by rw [List.length_set]; omega);rw [hk]
 rwa [List.take_of_length_le (by rw [List.length_set]; exact Nat.le_refl _)] at this
def upk (c : S31) (x : S53) : S53 := if (x.f0.toList == c.f2.toList) = true then ⟨x.f0, c.f9⟩ else x
def rk (c : S31) (l : List S53) (i : Nat) : List S53 := (l.take i).map (upk c) ++ l.drop i
theorem rk_len (c : S31) (l : List S53) (i : Nat) : (rk c l i).length = l.length := by
  unfold rk;rw [List.length_append, List.length_map, ← List.length_append, List.take_append_drop]
theorem rk_drop (c : S31) (l : List S53) (i : Nat) (hi : i < l.length) : rk c l i = (l.take i).map (upk c) ++ l[i] :: l.drop (i + 1) := by unfold rk; rw [List.drop_eq_getElem_cons hi]
theorem rk_next (c : S31) (l : List S53) (i : Nat) (hi : i < l.length) : rk c l (i + 1) = (l.take i).map (upk c) ++ upk c l[i] :: l.drop (i + 1) := by
  unfold rk;rw [List.take_succ_eq_append_getElem hi, List.map_append, List.append_assoc];rfl
theorem rk_len_take (c : S31) (l : List S53) (i : Nat) (hi : i < l.length) : ((l.take i).map (upk c)).length = i := by rw [List.length_map, List.length_take]; omega
theorem rk_rd (c : S31) (l : List S53) (i : Nat) (hi : i < l.length) : rd_T53 (rk c l i) i = l[i] := by
  rw [rd_lt _ i (by rw [rk_len]; exact hi)];simp only [rk_drop c l i hi];rw [List.getElem_append_right (by rw [rk_len_take c l i hi]; exact Nat.le_refl _)];simp only [rk_len_take c l i hi, Nat.sub_self, List.getElem_cons_zero]
theorem rk_put (c : S31) (l : List S53) (i : Nat) (hi : i < l.length) (h : (l[i].f0.toList == c.f2.toList) = true) : keyed (rk c l i) i c.f9 = rk c l (i + 1) := by
  unfold keyed;rw [rk_rd c l i hi, rk_next c l i hi, rk_drop c l i hi, List.set_append_right _ _ (by rw [rk_len_take c l i hi]; exact Nat.le_refl _), rk_len_take c l i hi, Nat.sub_self, List.set_cons_zero];unfold upk;rw [if_pos h]
theorem rk_skip (c : S31) (l : List S53) (i : Nat) (hi : i < l.length) (h : (l[i].f0.toList == c.f2.toList) = false) : rk c l i = rk c l (i + 1) := by
  rw [rk_next c l i hi, rk_drop c l i hi];unfold upk;rw [h, if_neg (by decide)]
theorem rf_reg_new (k : Nat) (A0 : Option Addr) (c0 : Nat) (l : List S53) (typ : Int) (host : ByteArray) (gen : Int) (apt : Bool) (c : S31) (rg : Value) (w0 w : World) (hb0 : Below w0.heap.size w0 w) (hr : Kd.R k53 53 w w0.heap.size (fun _ => True) (.slice A0 l.length c0) l) (kk : Int) (hkk : headgateref11_Key.f k l typ host gen apt c.f2 = some kk) (hps : (!c.f12 && c.f8 != kk) = false) (h9 : c.f9 ≠ 0) (h0 : kk = 0) (h16 : l.length ≠ 16) (hn : l.length ≤ 1000) :
  Calls Tryd.prog 37 #[.agg (tabc (.slice A0 l.length c0) typ host gen apt), .agg (cmdc c rg)] w fun e w' => ∃ v0 v5, e = .returned (.agg #[v0, .int .i64 typ, .string host, .int .u32 ((gen + 1) % 4294967296), .bool (aptP c apt), v5, .int .i64 1]) ∧ Kd.R k53 53 w' w0.heap.size (fun _ => True) v0 (l ++ [(⟨c.f2, c.f9⟩ : S53)]) ∧ Kd.R k46 46 w' w0.heap.size (fun _ => True) v5 [] ∧ Below w0.heap.size w0 w' ∧ Kt w w' := by
 have hu27 := Tryd.underlying27;have hu24 := Tryd.underlying24;have hu31 := Tryd.underlying31;have hu40 := Tryd.underlying40;have hu53 := Tryd.underlying53;have HR := aS_ hr;have HB0 := aS_ hb0;have HKK := aS_ hkk;have HB := aS_ (Below.refl w.heap.size w);clear hr hb0 hkk;unfold tabc cmdc;have d9 : (c.f9 != 0) = true := bne_iff_ne.mpr h9;clear h9
 have dk : (kk != 0) = false := by rw [h0]; rfl
 have dk0 : (kk == 0) = true := by rw [h0]; rfl
 clear h0;have F3 := apt4 c apt
 obtain ⟨ap, hap⟩ : ∃ ap, ap = aptP c apt := ⟨_, rfl⟩
 rw [← hap] at F3 ⊢;clear hap;have HN := aS_ hn;clear hn;have d16 : ((l.length : Int) == 16) = false := beq_eq_false_iff_ne.mpr (by omega)
 obtain ⟨l2, hl2⟩ : ∃ l2, l2 = l ++ [(⟨c.f2, c.f9⟩ : S53)] := ⟨_, rfl⟩
 rw [← hl2];have L2 := aS_ hl2;clear hl2 h16
 rcases pass2 _ _ hps with f12 | ⟨f12, hk8⟩
 all_goals
  have F12 := aS_ f12;clear hps f12;go_enter Tryd.func37, Tryd.ntmps37
  go_upto_region 5 with (first
   | ((with_reducible refine gate_dst (N := 2) rfl ?_); refine bX_ (N := 2) (cs := tabc (.slice A0 l.length c0) typ host gen apt) (t := 27) ?hr ?_; (case hr => first | (go_simp; done) | (go_simp; rfl)); intro g2 hgg2 w2 hxg2 hyg2; have X2 := aS_ hxg2; have Y2 := aS_ hyg2; have Z2 := aS_ hgg2; clear hxg2 hyg2 hgg2)
   | ((with_reducible refine gate_dst (N := 3) rfl ?_); refine bX_ (N := 3) (cs := cmdc c rg) (t := 31) ?hr ?_; (case hr => first | (go_simp; done) | (go_simp; rfl)); intro g3 hgg3 w3 hxg3 hyg3; have X3 := aS_ hxg3; have Y3 := aS_ hyg3; have Z3 := aS_ (show g2 < g3 by rw [hgg3]; exact blk_lt X2.out); clear hxg3 hyg3 hgg3)
   | ((with_reducible refine gate_dst (N := 4) rfl ?_); refine bX_ (N := 4) (cs := outc) (t := 40) ?hr ?_; (case hr => first | (go_simp; done) | (go_simp; rfl)); intro g4 hgg4 w4 hxg4 hyg4; have hlt3 := blk_lt (blk_below X2.out Y3.out); have hlt4 := blk_lt X3.out; have hz2 := below_size (below_step HB.out (below_step Y2.out Y3.out)); have F := aS_ (Rf.mk (w0 := w) (by have := Z2.out; have := below_size HB.out; omega) (by omega) (by omega) (by have := Z3.out; omega) (by omega) (blk_below (blk_below X2.out Y3.out) hyg4) (blk_below X3.out hyg4) hxg4 (below_step HB.out (below_step Y2.out (below_step Y3.out hyg4)))); have n42 := F.out.n42; have n24 := F.out.n42.symm; clear hlt3 hlt4 hz2 X2 X3 Y2 Y3 Z2 Z3 hxg4 hyg4 hgg4; obtain ⟨hct0, hct1, hct2, hct3, hct4⟩ := cells5 F.out.b2; obtain ⟨-, -, hcc2, -, -, -, -, -, hcc8, hcc9, -, -, hcc12, hcc13⟩ := cells14 F.out.b3; obtain ⟨hcr0, hcr1, hcr2, hcr3, hcr4, hcr5, hcr6⟩ := cells7 F.out.b4; have hfr0 := bF_ F.out.b4 0; have hfr1 := bF_ F.out.b4 1; have hfr2 := bF_ F.out.b4 2; have hfr3 := bF_ F.out.b4 3; have hfr4 := bF_ F.out.b4 4; have hfr5 := bF_ F.out.b4 5; have hfr6 := bF_ F.out.b4 6)
   | (go_at_call 19; refine (headgateref11_Key.calls k A0 c0 l typ host gen apt c.f2 kk _ (Kd.C_below (Kd.R_reads' HR.out).2.2 F.out.hb) (Kd.R_reads' HR.out).2.1 HKK.out).mono ?_; rintro e w5 ⟨rfl, hb⟩; have F1 := aS_ (F.out.below hb); clear F hb; have F := F1; clear F1; clear hct0 hct1 hct2 hct3 hct4 hcc2 hcc8 hcc9 hcc12 hcc13 hcr0 hfr0 hcr1 hfr1 hcr2 hfr2 hcr3 hfr3 hcr4 hfr4 hcr5 hfr5 hcr6 hfr6; obtain ⟨hct0, hct1, hct2, hct3, hct4⟩ := cells5 F.out.b2; obtain ⟨-, -, hcc2, -, -, -, -, -, hcc8, hcc9, -, -, hcc12, hcc13⟩ := cells14 F.out.b3; obtain ⟨hcr0, hcr1, hcr2, hcr3, hcr4, hcr5, hcr6⟩ := cells7 F.out.b4; have hfr0 := bF_ F.out.b4 0; have hfr1 := bF_ F.out.b4 1; have hfr2 := bF_ F.out.b4 2; have hfr3 := bF_ F.out.b4 3; have hfr4 := bF_ F.out.b4 4; have hfr5 := bF_ F.out.b4 5; have hfr6 := bF_ F.out.b4 6; rw [F12.out] at hcc12)
   | ((with_reducible refine gate_dst (N := 6) rfl ?_); refine bX_ (N := 6) (cs := outc) (t := 40) ?hr ?_; (case hr => first | (go_simp; done) | (go_simp; rfl)); intro g6 hgg6 w6 hxg6 hyg6; have W := aS_ (Rw.start F.out HB0.out hxg6 hyg6 hgg6 HR.out); clear F hxg6 hyg6 hgg6; clear hct0 hct1 hct2 hct3 hct4 hcc2 hcc8 hcc9 hcc12 hcc13 hcr0 hfr0 hcr1 hfr1 hcr2 hfr2 hcr3 hfr3 hcr4 hfr4 hcr5 hfr5 hcr6 hfr6; obtain ⟨hct0, hct1, hct2, hct3, hct4⟩ := cells5 W.out.f.b2; obtain ⟨-, -, hcc2, -, -, -, -, -, hcc8, hcc9, -, -, hcc12, hcc13⟩ := cells14 W.out.f.b3; obtain ⟨hcr0, hcr1, hcr2, hcr3, hcr4, hcr5, hcr6⟩ := cells7 W.out.f.b4; have hfr0 := bF_ W.out.f.b4 0; have hfr1 := bF_ W.out.f.b4 1; have hfr2 := bF_ W.out.f.b4 2; have hfr3 := bF_ W.out.f.b4 3; have hfr4 := bF_ W.out.f.b4 4; have hfr5 := bF_ W.out.f.b4 5; have hfr6 := bF_ W.out.f.b4 6; obtain ⟨hcq0, hcq1, hcq2, hcq3, hcq4, hcq5, hcq6⟩ := cells7 W.out.b6; have hfq0 := bF_ W.out.b6 0; have hfq1 := bF_ W.out.b6 1; have hfq2 := bF_ W.out.b6 2; have hfq3 := bF_ W.out.b6 3; have hfq4 := bF_ W.out.b6 4; have hfq5 := bF_ W.out.b6 5; have hfq6 := bF_ W.out.b6 6; have n62 := W.out.n62; have n26 := W.out.n62.symm; have n64 := W.out.n64; have n46 := W.out.n64.symm; have n63 := W.out.n63; have n36 := W.out.n63.symm; have n32 := W.out.f.n32; have n23 := W.out.f.n32.symm; rw [F12.out] at hcc12))
  refine Hand.at_world (fun w' => Aside0 (Rw w0 w w' g2 g3 g4 g6 c rg (tabc (.slice A0 l.length c0) typ host gen apt) tq0 (.slice A0 l.length c0) l (.slice none 0 0) [])) ⟨(((((((W.out.put6 0 _ rfl).put6 1 _ rfl).put6 2 _ rfl).put6 3 _ rfl).put6 4 _ rfl).put6 5 _ rfl).put6 6 _ rfl)⟩ ?_;rintro w7 W7;clear hct0 hct1 hct2 hct3 hct4 hcc2 hcc8 hcc9 hcc12 hcc13 hcr0 hfr0 hcq0 hfq0 hcr1 hfr1 hcq1 hfq1 hcr2 hfr2 hcq2 hfq2 hcr3 hfr3 hcq3 hfq3 hcr4 hfr4 hcq4 hfq4 hcr5 hfr5 hcq5 hfq5 hcr6 hfr6 hcq6 hfq6 n62 n26 n64 n46 n63 n36 n32 n23;clear W;have W := W7;clear W7;obtain ⟨hct0, hct1, hct2, hct3, hct4⟩ := cells5 W.out.f.b2;obtain ⟨-, -, hcc2, -, -, -, -, -, -, hcc9, -, -, -, hcc13⟩ := cells14 W.out.f.b3;obtain ⟨hcr0, hcr1, hcr2, hcr3, hcr4, hcr5, hcr6⟩ := cells7 W.out.f.b4;have hfr0 := bF_ W.out.f.b4 0;have hfr1 := bF_ W.out.f.b4 1;have hfr2 := bF_ W.out.f.b4 2;have hfr3 := bF_ W.out.f.b4 3;have hfr4 := bF_ W.out.f.b4 4;have hfr5 := bF_ W.out.f.b4 5;have hfr6 := bF_ W.out.f.b4 6;obtain ⟨hcq0, hcq1, hcq2, hcq3, hcq4, hcq5, hcq6⟩ := cells7 W.out.b6;have hfq0 := bF_ W.out.b6 0;have hfq1 := bF_ W.out.b6 1;have hfq2 := bF_ W.out.b6 2;have hfq3 := bF_ W.out.b6 3;have hfq4 := bF_ W.out.b6 4;have hfq5 := bF_ W.out.b6 5;have hfq6 := bF_ W.out.b6 6;have n62 := W.out.n62;have n26 := W.out.n62.symm;have n64 := W.out.n64;have n46 := W.out.n64.symm;have n63 := W.out.n63;have n36 := W.out.n63.symm;have n32 := W.out.f.n32;have n23 := W.out.f.n32.symm;have hft0 := bF_ W.out.f.b2 0;have hft1 := bF_ W.out.f.b2 1;have hft2 := bF_ W.out.f.b2 2;have hft3 := bF_ W.out.f.b2 3;have hft4 := bF_ W.out.f.b2 4
  rcases F3 with (⟨rfl, a1, a2⟩ | ⟨rfl, a1, a2⟩) | ⟨rfl, a1, a2⟩
  iterate 2
   ·skip
    go_wp2_with (first
     | ((with_reducible refine gate_builtin (b := .append) (xs := #[.tmp 39, .tmp 45]) rfl ?_); at_builtin; refine Kd.R_append k53 (w0 := w0) w0.heap.size rfl (.tmp 39) (.tmp 45) 22 53 (.agg #[(.string ⟨#[]⟩), (.int .u64 0)]) 24 rfl Tryd.underlying22 info53 rfl (by decide) (by omega) (.slice A0 l.length c0) l (⟨c.f2, c.f9⟩ : S53) [.string c.f2, .int .u64 c.f9] (fun _ => True) (fun _ => False) rfl rfl ?aP (fun _ hk => hk.elim) ?aF ?aO ?aB ?aS ?aL ?_; (case aP => exact k53_mkM _ _ _ (⟨c.f2, c.f9⟩ : S53)); (case aB => exact W.out.f.hb); (case aF => exact fun _ _ => trivial); (case aO => exact W.out.r0); (case aS => exact below_size W.out.f.hb); (case aL => have := HN.out; omega); intro v1 y1 ho hb hg hat; rw [← L2.out] at ho; have W1 := aS_ (W.out.grown hg hb ho); obtain ⟨A1, c1, e1⟩ := Kd.R_slice ho; subst e1; clear W ho hb hg hat; have W := W1; clear W1; clear hct0 hct1 hct2 hct3 hct4 hcc2 hcc9 hcc13 hcr0 hfr0 hcq0 hfq0 hcr1 hfr1 hcq1 hfq1 hcr2 hfr2 hcq2 hfq2 hcr3 hfr3 hcq3 hfq3 hcr4 hfr4 hcq4 hfq4 hcr5 hfr5 hcq5 hfq5 hcr6 hfr6 hcq6 hfq6 hft0 hft1 hft2 hft3 hft4 n62 n26 n64 n46 n63 n36 n32 n23; obtain ⟨hct0, hct1, hct2, hct3, hct4⟩ := cells5 W.out.f.b2; obtain ⟨-, -, hcc2, -, -, -, -, -, -, hcc9, -, -, -, hcc13⟩ := cells14 W.out.f.b3; obtain ⟨hcr0, hcr1, hcr2, hcr3, hcr4, hcr5, hcr6⟩ := cells7 W.out.f.b4; have hfr0 := bF_ W.out.f.b4 0; have hfr1 := bF_ W.out.f.b4 1; have hfr2 := bF_ W.out.f.b4 2; have hfr3 := bF_ W.out.f.b4 3; have hfr4 := bF_ W.out.f.b4 4; have hfr5 := bF_ W.out.f.b4 5; have hfr6 := bF_ W.out.f.b4 6; obtain ⟨hcq0, hcq1, hcq2, hcq3, hcq4, hcq5, hcq6⟩ := cells7 W.out.b6; have hfq0 := bF_ W.out.b6 0; have hfq1 := bF_ W.out.b6 1; have hfq2 := bF_ W.out.b6 2; have hfq3 := bF_ W.out.b6 3; have hfq4 := bF_ W.out.b6 4; have hfq5 := bF_ W.out.b6 5; have hfq6 := bF_ W.out.b6 6; have n62 := W.out.n62; have n26 := W.out.n62.symm; have n64 := W.out.n64; have n46 := W.out.n64.symm; have n63 := W.out.n63; have n36 := W.out.n63.symm; have n32 := W.out.f.n32; have n23 := W.out.f.n32.symm; have hft0 := bF_ W.out.f.b2 0; have hft1 := bF_ W.out.f.b2 1; have hft2 := bF_ W.out.f.b2 2; have hft3 := bF_ W.out.f.b2 3; have hft4 := bF_ W.out.f.b2 4))
    (try simp only [Exit.inBlock, Exit.then])
    refine ret_out rfl rfl rfl (((((((((W.out.put2 0 _ rfl).put2 3 _ rfl).put2 4 _ rfl).put6 0 _ rfl).put6 1 _ rfl).put6 2 _ rfl).put6 3 _ rfl).put6 4 _ rfl).f.out _ _ _ _ _ _ _).1 hu40 rfl rfl ?_;exact ⟨_, _, rfl, ((((((((W.out.put2 0 _ rfl).put2 3 _ rfl).put2 4 _ rfl).put6 0 _ rfl).put6 1 _ rfl).put6 2 _ rfl).put6 3 _ rfl).put6 4 _ rfl).fin _ _ _ _ _ _ _⟩
  ·skip
   go_wp2_with (first
    | ((with_reducible refine gate_builtin (b := .append) (xs := #[.tmp 39, .tmp 45]) rfl ?_); at_builtin; refine Kd.R_append k53 (w0 := w0) w0.heap.size rfl (.tmp 39) (.tmp 45) 22 53 (.agg #[(.string ⟨#[]⟩), (.int .u64 0)]) 24 rfl Tryd.underlying22 info53 rfl (by decide) (by omega) (.slice A0 l.length c0) l (⟨c.f2, c.f9⟩ : S53) [.string c.f2, .int .u64 c.f9] (fun _ => True) (fun _ => False) rfl rfl ?aP (fun _ hk => hk.elim) ?aF ?aO ?aB ?aS ?aL ?_; (case aP => exact k53_mkM _ _ _ (⟨c.f2, c.f9⟩ : S53)); (case aB => exact W.out.f.hb); (case aF => exact fun _ _ => trivial); (case aO => exact W.out.r0); (case aS => exact below_size W.out.f.hb); (case aL => have := HN.out; omega); intro v1 y1 ho hb hg hat; rw [← L2.out] at ho; have W1 := aS_ (W.out.grown hg hb ho); obtain ⟨A1, c1, e1⟩ := Kd.R_slice ho; subst e1; clear W ho hb hg hat; have W := W1; clear W1; clear hct0 hct1 hct2 hct3 hct4 hcc2 hcc9 hcc13 hcr0 hfr0 hcq0 hfq0 hcr1 hfr1 hcq1 hfq1 hcr2 hfr2 hcq2 hfq2 hcr3 hfr3 hcq3 hfq3 hcr4 hfr4 hcq4 hfq4 hcr5 hfr5 hcq5 hfq5 hcr6 hfr6 hcq6 hfq6 hft0 hft1 hft2 hft3 hft4 n62 n26 n64 n46 n63 n36 n32 n23; obtain ⟨hct0, hct1, hct2, hct3, hct4⟩ := cells5 W.out.f.b2; obtain ⟨-, -, hcc2, -, -, -, -, -, -, hcc9, -, -, -, hcc13⟩ := cells14 W.out.f.b3; obtain ⟨hcr0, hcr1, hcr2, hcr3, hcr4, hcr5, hcr6⟩ := cells7 W.out.f.b4; have hfr0 := bF_ W.out.f.b4 0; have hfr1 := bF_ W.out.f.b4 1; have hfr2 := bF_ W.out.f.b4 2; have hfr3 := bF_ W.out.f.b4 3; have hfr4 := bF_ W.out.f.b4 4; have hfr5 := bF_ W.out.f.b4 5; have hfr6 := bF_ W.out.f.b4 6; obtain ⟨hcq0, hcq1, hcq2, hcq3, hcq4, hcq5, hcq6⟩ := cells7 W.out.b6; have hfq0 := bF_ W.out.b6 0; have hfq1 := bF_ W.out.b6 1; have hfq2 := bF_ W.out.b6 2; have hfq3 := bF_ W.out.b6 3; have hfq4 := bF_ W.out.b6 4; have hfq5 := bF_ W.out.b6 5; have hfq6 := bF_ W.out.b6 6; have n62 := W.out.n62; have n26 := W.out.n62.symm; have n64 := W.out.n64; have n46 := W.out.n64.symm; have n63 := W.out.n63; have n36 := W.out.n63.symm; have n32 := W.out.f.n32; have n23 := W.out.f.n32.symm; have hft0 := bF_ W.out.f.b2 0; have hft1 := bF_ W.out.f.b2 1; have hft2 := bF_ W.out.f.b2 2; have hft3 := bF_ W.out.f.b2 3; have hft4 := bF_ W.out.f.b2 4))
   (try simp only [Exit.inBlock, Exit.then])
   refine ret_out rfl rfl rfl ((((((((W.out.put2 0 _ rfl).put2 3 _ rfl).put6 0 _ rfl).put6 1 _ rfl).put6 2 _ rfl).put6 3 _ rfl).put6 4 _ rfl).f.out _ _ _ _ _ _ _).1 hu40 rfl rfl ?_;exact ⟨_, _, rfl, (((((((W.out.put2 0 _ rfl).put2 3 _ rfl).put6 0 _ rfl).put6 1 _ rfl).put6 2 _ rfl).put6 3 _ rfl).put6 4 _ rfl).fin _ _ _ _ _ _ _⟩
theorem rf_reg_put (k : Nat) (A0 : Option Addr) (c0 : Nat) (l : List S53) (typ : Int) (host : ByteArray) (gen : Int) (apt : Bool) (c : S31) (rg : Value) (w0 w : World) (hb0 : Below w0.heap.size w0 w) (hr : Kd.R k53 53 w w0.heap.size (fun _ => True) (.slice A0 l.length c0) l) (kk : Int) (hkk : headgateref11_Key.f k l typ host gen apt c.f2 = some kk) (hps : (!c.f12 && c.f8 != kk) = false) (h9 : c.f9 ≠ 0) (h0 : kk ≠ 0) (hn : l.length ≤ 1000) :
  Calls Tryd.prog 37 #[.agg (tabc (.slice A0 l.length c0) typ host gen apt), .agg (cmdc c rg)] w fun e w' => ∃ v0 v5, e = .returned (.agg #[v0, .int .i64 typ, .string host, .int .u32 ((gen + 1) % 4294967296), .bool (aptP c apt), v5, .int .i64 1]) ∧ Kd.R k53 53 w' w0.heap.size (fun _ => True) v0 (rk c l l.length) ∧ Kd.R k46 46 w' w0.heap.size (fun _ => True) v5 [] ∧ Below w0.heap.size w0 w' ∧ Kt w w' := by
 have hu27 := Tryd.underlying27;have hu24 := Tryd.underlying24;have hu31 := Tryd.underlying31;have hu40 := Tryd.underlying40;have hu53 := Tryd.underlying53;have HR := aS_ hr;have HB0 := aS_ hb0;have HKK := aS_ hkk;have HB := aS_ (Below.refl w.heap.size w);clear hr hb0 hkk;unfold tabc cmdc;have d9 : (c.f9 != 0) = true := bne_iff_ne.mpr h9;clear h9;have dk : (kk != 0) = true := bne_iff_ne.mpr h0;have dk0 : (kk == 0) = false := beq_eq_false_iff_ne.mpr h0;clear h0;have F3 := apt4 c apt
 obtain ⟨ap, hap⟩ : ∃ ap, ap = aptP c apt := ⟨_, rfl⟩
 rw [← hap] at F3 ⊢;clear hap;have HN := aS_ hn;clear hn
 rcases pass2 _ _ hps with f12 | ⟨f12, hk8⟩
 all_goals
  have F12 := aS_ f12;clear hps f12;go_enter Tryd.func37, Tryd.ntmps37
  go_upto_region 5 with (first
   | ((with_reducible refine gate_dst (N := 2) rfl ?_); refine bX_ (N := 2) (cs := tabc (.slice A0 l.length c0) typ host gen apt) (t := 27) ?hr ?_; (case hr => first | (go_simp; done) | (go_simp; rfl)); intro g2 hgg2 w2 hxg2 hyg2; have X2 := aS_ hxg2; have Y2 := aS_ hyg2; have Z2 := aS_ hgg2; clear hxg2 hyg2 hgg2)
   | ((with_reducible refine gate_dst (N := 3) rfl ?_); refine bX_ (N := 3) (cs := cmdc c rg) (t := 31) ?hr ?_; (case hr => first | (go_simp; done) | (go_simp; rfl)); intro g3 hgg3 w3 hxg3 hyg3; have X3 := aS_ hxg3; have Y3 := aS_ hyg3; have Z3 := aS_ (show g2 < g3 by rw [hgg3]; exact blk_lt X2.out); clear hxg3 hyg3 hgg3)
   | ((with_reducible refine gate_dst (N := 4) rfl ?_); refine bX_ (N := 4) (cs := outc) (t := 40) ?hr ?_; (case hr => first | (go_simp; done) | (go_simp; rfl)); intro g4 hgg4 w4 hxg4 hyg4; have hlt3 := blk_lt (blk_below X2.out Y3.out); have hlt4 := blk_lt X3.out; have hz2 := below_size (below_step HB.out (below_step Y2.out Y3.out)); have F := aS_ (Rf.mk (w0 := w) (by have := Z2.out; have := below_size HB.out; omega) (by omega) (by omega) (by have := Z3.out; omega) (by omega) (blk_below (blk_below X2.out Y3.out) hyg4) (blk_below X3.out hyg4) hxg4 (below_step HB.out (below_step Y2.out (below_step Y3.out hyg4)))); have n42 := F.out.n42; have n24 := F.out.n42.symm; clear hlt3 hlt4 hz2 X2 X3 Y2 Y3 Z2 Z3 hxg4 hyg4 hgg4; obtain ⟨hct0, hct1, hct2, hct3, hct4⟩ := cells5 F.out.b2; obtain ⟨-, -, hcc2, -, -, -, -, -, hcc8, hcc9, -, -, hcc12, hcc13⟩ := cells14 F.out.b3; obtain ⟨hcr0, hcr1, hcr2, hcr3, hcr4, hcr5, hcr6⟩ := cells7 F.out.b4; have hfr0 := bF_ F.out.b4 0; have hfr1 := bF_ F.out.b4 1; have hfr2 := bF_ F.out.b4 2; have hfr3 := bF_ F.out.b4 3; have hfr4 := bF_ F.out.b4 4; have hfr5 := bF_ F.out.b4 5; have hfr6 := bF_ F.out.b4 6)
   | (go_at_call 19; refine (headgateref11_Key.calls k A0 c0 l typ host gen apt c.f2 kk _ (Kd.C_below (Kd.R_reads' HR.out).2.2 F.out.hb) (Kd.R_reads' HR.out).2.1 HKK.out).mono ?_; rintro e w5 ⟨rfl, hb⟩; have F1 := aS_ (F.out.below hb); clear F hb; have F := F1; clear F1; clear hct0 hct1 hct2 hct3 hct4 hcc2 hcc8 hcc9 hcc12 hcc13 hcr0 hfr0 hcr1 hfr1 hcr2 hfr2 hcr3 hfr3 hcr4 hfr4 hcr5 hfr5 hcr6 hfr6; obtain ⟨hct0, hct1, hct2, hct3, hct4⟩ := cells5 F.out.b2; obtain ⟨-, -, hcc2, -, -, -, -, -, hcc8, hcc9, -, -, hcc12, hcc13⟩ := cells14 F.out.b3; obtain ⟨hcr0, hcr1, hcr2, hcr3, hcr4, hcr5, hcr6⟩ := cells7 F.out.b4; have hfr0 := bF_ F.out.b4 0; have hfr1 := bF_ F.out.b4 1; have hfr2 := bF_ F.out.b4 2; have hfr3 := bF_ F.out.b4 3; have hfr4 := bF_ F.out.b4 4; have hfr5 := bF_ F.out.b4 5; have hfr6 := bF_ F.out.b4 6; rw [F12.out] at hcc12)
   | ((with_reducible refine gate_dst (N := 6) rfl ?_); refine bX_ (N := 6) (cs := outc) (t := 40) ?hr ?_; (case hr => first | (go_simp; done) | (go_simp; rfl)); intro g6 hgg6 w6 hxg6 hyg6; have W := aS_ (Rw.start F.out HB0.out hxg6 hyg6 hgg6 HR.out); clear F hxg6 hyg6 hgg6; clear hct0 hct1 hct2 hct3 hct4 hcc2 hcc8 hcc9 hcc12 hcc13 hcr0 hfr0 hcr1 hfr1 hcr2 hfr2 hcr3 hfr3 hcr4 hfr4 hcr5 hfr5 hcr6 hfr6; obtain ⟨hct0, hct1, hct2, hct3, hct4⟩ := cells5 W.out.f.b2; obtain ⟨-, -, hcc2, -, -, -, -, -, hcc8, hcc9, -, -, hcc12, hcc13⟩ := cells14 W.out.f.b3; obtain ⟨hcr0, hcr1, hcr2, hcr3, hcr4, hcr5, hcr6⟩ := cells7 W.out.f.b4; have hfr0 := bF_ W.out.f.b4 0; have hfr1 := bF_ W.out.f.b4 1; have hfr2 := bF_ W.out.f.b4 2; have hfr3 := bF_ W.out.f.b4 3; have hfr4 := bF_ W.out.f.b4 4; have hfr5 := bF_ W.out.f.b4 5; have hfr6 := bF_ W.out.f.b4 6; obtain ⟨hcq0, hcq1, hcq2, hcq3, hcq4, hcq5, hcq6⟩ := cells7 W.out.b6; have hfq0 := bF_ W.out.b6 0; have hfq1 := bF_ W.out.b6 1; have hfq2 := bF_ W.out.b6 2; have hfq3 := bF_ W.out.b6 3; have hfq4 := bF_ W.out.b6 4; have hfq5 := bF_ W.out.b6 5; have hfq6 := bF_ W.out.b6 6; have n62 := W.out.n62; have n26 := W.out.n62.symm; have n64 := W.out.n64; have n46 := W.out.n64.symm; have n63 := W.out.n63; have n36 := W.out.n63.symm; have n32 := W.out.f.n32; have n23 := W.out.f.n32.symm; rw [F12.out] at hcc12))
  refine Hand.at_world (fun w' => Aside0 (Rw w0 w w' g2 g3 g4 g6 c rg (tabc (.slice A0 l.length c0) typ host gen apt) tq0 (.slice A0 l.length c0) l (.slice none 0 0) [])) ⟨(((((((W.out.put6 0 _ rfl).put6 1 _ rfl).put6 2 _ rfl).put6 3 _ rfl).put6 4 _ rfl).put6 5 _ rfl).put6 6 _ rfl)⟩ ?_;rintro w7 W7;clear hct0 hct1 hct2 hct3 hct4 hcc2 hcc8 hcc9 hcc12 hcc13 hcr0 hfr0 hcq0 hfq0 hcr1 hfr1 hcq1 hfq1 hcr2 hfr2 hcq2 hfq2 hcr3 hfr3 hcq3 hfq3 hcr4 hfr4 hcq4 hfq4 hcr5 hfr5 hcq5 hfq5 hcr6 hfr6 hcq6 hfq6 n62 n26 n64 n46 n63 n36 n32 n23;clear W;have W := W7;clear W7;obtain ⟨hct0, hct1, hct2, hct3, hct4⟩ := cells5 W.out.f.b2;obtain ⟨-, -, hcc2, -, -, -, -, -, -, hcc9, -, -, -, hcc13⟩ := cells14 W.out.f.b3;obtain ⟨hcr0, hcr1, hcr2, hcr3, hcr4, hcr5, hcr6⟩ := cells7 W.out.f.b4;have hfr0 := bF_ W.out.f.b4 0;have hfr1 := bF_ W.out.f.b4 1;have hfr2 := bF_ W.out.f.b4 2;have hfr3 := bF_ W.out.f.b4 3;have hfr4 := bF_ W.out.f.b4 4;have hfr5 := bF_ W.out.f.b4 5;have hfr6 := bF_ W.out.f.b4 6;obtain ⟨hcq0, hcq1, hcq2, hcq3, hcq4, hcq5, hcq6⟩ := cells7 W.out.b6;have hfq0 := bF_ W.out.b6 0;have hfq1 := bF_ W.out.b6 1;have hfq2 := bF_ W.out.b6 2;have hfq3 := bF_ W.out.b6 3;have hfq4 := bF_ W.out.b6 4;have hfq5 := bF_ W.out.b6 5;have hfq6 := bF_ W.out.b6 6;have n62 := W.out.n62;have n26 := W.out.n62.symm;have n64 := W.out.n64;have n46 := W.out.n64.symm;have n63 := W.out.n63;have n36 := W.out.n63.symm;have n32 := W.out.f.n32;have n23 := W.out.f.n32.symm;have hft0 := bF_ W.out.f.b2 0;have hft1 := bF_ W.out.f.b2 1;have hft2 := bF_ W.out.f.b2 2;have hft3 := bF_ W.out.f.b2 3;have hft4 := bF_ W.out.f.b2 4;go_wp2
  go_loopw [7] (fun iv wr => ∃ i : Nat, i ≤ l.length ∧ iv = .int .i64 i ∧ Aside0 (Rw w0 w wr g2 g3 g4 g6 c rg (tabc (.slice A0 l.length c0) typ host gen apt) tq0 (.slice A0 l.length c0) (rk c l i) (.slice none 0 0) [])) (fun iv _ => l.length - (intOf iv).toNat)
  case atStart => exact ⟨0, Nat.zero_le _, rfl, W⟩
  case round =>
   clear hct0 hct1 hct2 hct3 hct4 hcc2 hcc9 hcc13 hcr0 hfr0 hcq0 hfq0 hcr1 hfr1 hcq1 hfq1 hcr2 hfr2 hcq2 hfq2 hcr3 hfr3 hcq3 hfq3 hcr4 hfr4 hcq4 hfq4 hcr5 hfr5 hcq5 hfq5 hcr6 hfr6 hcq6 hfq6 hft0 hft1 hft2 hft3 hft4 n62 n26 n64 n46 n63 n36 n32 n23;clear W;obtain ⟨i, hi, rfl, W⟩ := hrel;by_cases hlt : i < l.length
   ·clear hi;have HI := aS_ (show i ≤ 1000 by have := HN.out; omega);have HLT := aS_ hlt;have p0 : (0 : Int) ≤ (i : Int) := Int.natCast_nonneg i
    have q0 : (i : Int) < (l.length : Int) := by omega
    obtain ⟨xs, hxs⟩ : ∃ xs, xs = rk c l i := ⟨_, rfl⟩
    have hxl : xs.length = l.length := by rw [hxs]; exact rk_len c l i
    have hrd : rd_T53 xs i = l[i] := by rw [hxs]; exact rk_rd c l i hlt
    rw [← hxs] at W;have hC := (Kd.R_reads' W.out.r0).2.2;rw [hxl] at hC;obtain ⟨ad, ea, hx0, _⟩ := at_T53 hC (i : Int) p0 q0;cases ea;rw [hrd] at hx0;simp only [Int.toNat_natCast] at hx0
    obtain ⟨s, hs⟩ : ∃ s, s = l[i].f0 := ⟨_, rfl⟩
    rw [← hs] at hx0;have HX0 := aS_ hx0;have HXL := aS_ (show i < xs.length by rw [hxl]; exact hlt);have HXS := aS_ hxs
    obtain ⟨b1, hb1⟩ : ∃ b1, (s.toList == c.f2.toList) = b1 := ⟨_, rfl⟩
    have HQ := aS_ (show (l[i].f0.toList == c.f2.toList) = b1 by rw [← hs]; exact hb1);clear hs hxs hx0 hrd hC hxl;have d3 : decide ((i : Int) < (l.length : Int)) = true := decide_eq_true q0;obtain ⟨hct0, hct1, hct2, hct3, hct4⟩ := cells5 W.out.f.b2;cases b1
    ·skip
     go_wp2;have W1 := aS_ (W.out.below (below_drew (Below.refl _ _)));clear W;have W := W1;clear W1;refine start_ (n := 9) (S := fun w' => w'.cell? ⟨g2, 0, none⟩ = some (.slice (some ad) l.length c0) ∧ w'.cell? (ad.add (i * 2)) = some (.string s) ∧ w'.cell? ⟨g3, 2, none⟩ = some (.string c.f2) ∧ w'.cell? ⟨g3, 9, none⟩ = some (.int .u64 c.f9)) (ds := []) #[false, false, false, false, false, false, false, false, false] (by kernel_rfl) rfl rfl ⟨bC_ W.out.f.b2 0 rfl, HX0.out, bC_ W.out.f.b3 2 rfl, bC_ W.out.f.b3 9 rfl⟩ (fun hHeld => ?_);generalize wr.drew = wd at W hHeld ⊢;refine qon_ 0 (some 63) (dB 9 1) ?_;refine qon_ 2 (some 65) (dB 9 5) ?_;refine qon_ 6 (some 69) (dB 9 69) ?_;refine qtk_ 1 (some 64) (dB 9 71) hHeld ?_;refine qon_ 3 (some 66) (dB 9 79) ?_;refine qon_ 4 (some 67) (dB 9 95) ?_;refine qtk_ 5 (some 68) (dB 9 127) hHeld ?_;refine qtk_ 7 (some 70) (dB 9 255) hHeld ?_;refine qon_ 8 (some 71) (dB 9 511) ?_;refine done_ (by kernel_rfl) ?_;obtain ⟨hw0, hw1, hw2, hw3⟩ := hHeld;go_wp2
     go_roundw
     case rel =>
      refine ⟨i + 1, HLT.out, deed_next i HI.out, ⟨?_⟩⟩;rw [← rk_skip c l i HLT.out HQ.out, ← HXS.out];exact W.out
     case measure => exact deed_less i l.length HI.out HLT.out
    ·skip
     go_wp2;have W1 := aS_ (W.out.below (below_drew (Below.refl _ _)));clear W;have W := W1;clear W1;refine start_ (n := 9) (S := fun w' => w'.cell? ⟨g2, 0, none⟩ = some (.slice (some ad) l.length c0) ∧ w'.cell? (ad.add (i * 2)) = some (.string s) ∧ w'.cell? ⟨g3, 2, none⟩ = some (.string c.f2) ∧ w'.cell? ⟨g3, 9, none⟩ = some (.int .u64 c.f9)) (ds := []) #[false, false, false, false, false, false, false, false, false] (by kernel_rfl) rfl rfl ⟨bC_ W.out.f.b2 0 rfl, HX0.out, bC_ W.out.f.b3 2 rfl, bC_ W.out.f.b3 9 rfl⟩ (fun hHeld => ?_);generalize wr.drew = wd at W hHeld ⊢;refine qon_ 0 (some 63) (dB 9 1) ?_;refine qon_ 2 (some 65) (dB 9 5) ?_;refine qon_ 6 (some 69) (dB 9 69) ?_;refine qtk_ 1 (some 64) (dB 9 71) hHeld ?_;refine qon_ 3 (some 66) (dB 9 79) ?_;refine qon_ 4 (some 67) (dB 9 95) ?_;refine qtk_ 5 (some 68) (dB 9 127) hHeld ?_;refine qtk_ 7 (some 70) (dB 9 255) hHeld ?_;refine qon_ 8 (some 71) (dB 9 511) ?_;refine done_ (by kernel_rfl) ?_;obtain ⟨hw0, hw1, hw2, hw3⟩ := hHeld;obtain ⟨⟨vk, hvk⟩, hfk, hWk⟩ := W.out.key i HXL.out c.f9;have WK := aS_ hWk;clear W hWk;go_wp2
     go_roundw
     case rel =>
      refine ⟨i + 1, HLT.out, deed_next i HI.out, ⟨?_⟩⟩;rw [← rk_put c l i HLT.out HQ.out, ← HXS.out];exact WK.out
     case measure => exact deed_less i l.length HI.out HLT.out
   ·have hil : i = l.length := by omega
    subst hil;have d3 : decide ((l.length : Int) < (l.length : Int)) = false := decide_eq_false (by omega);obtain ⟨hct0, hct1, hct2, hct3, hct4⟩ := cells5 W.out.f.b2;obtain ⟨-, -, -, -, -, -, -, -, -, -, -, -, -, hcc13⟩ := cells14 W.out.f.b3;obtain ⟨hcr0, hcr1, hcr2, hcr3, hcr4, hcr5, hcr6⟩ := cells7 W.out.f.b4;have hfr0 := bF_ W.out.f.b4 0;have hfr1 := bF_ W.out.f.b4 1;have hfr2 := bF_ W.out.f.b4 2;have hfr3 := bF_ W.out.f.b4 3;have hfr4 := bF_ W.out.f.b4 4;have hfr5 := bF_ W.out.f.b4 5;have hfr6 := bF_ W.out.f.b4 6;obtain ⟨hcq0, hcq1, hcq2, hcq3, hcq4, hcq5, hcq6⟩ := cells7 W.out.b6;have hfq0 := bF_ W.out.b6 0;have hfq1 := bF_ W.out.b6 1;have hfq2 := bF_ W.out.b6 2;have hfq3 := bF_ W.out.b6 3;have hfq4 := bF_ W.out.b6 4;have hfq5 := bF_ W.out.b6 5;have hfq6 := bF_ W.out.b6 6;have n62 := W.out.n62;have n26 := W.out.n62.symm;have n64 := W.out.n64;have n46 := W.out.n64.symm;have n63 := W.out.n63;have n36 := W.out.n63.symm;have n32 := W.out.f.n32;have n23 := W.out.f.n32.symm;have hft0 := bF_ W.out.f.b2 0;have hft1 := bF_ W.out.f.b2 1;have hft2 := bF_ W.out.f.b2 2;have hft3 := bF_ W.out.f.b2 3;have hft4 := bF_ W.out.f.b2 4
    rcases F3 with (⟨rfl, a1, a2⟩ | ⟨rfl, a1, a2⟩) | ⟨rfl, a1, a2⟩
    iterate 2
     ·skip
      go_wp2
      (try simp only [Exit.inBlock, Exit.then])
      refine ret_out rfl rfl rfl ((((((((W.out.put2 3 _ rfl).put2 4 _ rfl).put6 0 _ rfl).put6 1 _ rfl).put6 2 _ rfl).put6 3 _ rfl).put6 4 _ rfl).f.out _ _ _ _ _ _ _).1 hu40 rfl rfl ?_;exact ⟨_, _, rfl, (((((((W.out.put2 3 _ rfl).put2 4 _ rfl).put6 0 _ rfl).put6 1 _ rfl).put6 2 _ rfl).put6 3 _ rfl).put6 4 _ rfl).fin _ _ _ _ _ _ _⟩
    ·skip
     go_wp2
     (try simp only [Exit.inBlock, Exit.then])
     refine ret_out rfl rfl rfl (((((((W.out.put2 3 _ rfl).put6 0 _ rfl).put6 1 _ rfl).put6 2 _ rfl).put6 3 _ rfl).put6 4 _ rfl).f.out _ _ _ _ _ _ _).1 hu40 rfl rfl ?_;exact ⟨_, _, rfl, ((((((W.out.put2 3 _ rfl).put6 0 _ rfl).put6 1 _ rfl).put6 2 _ rfl).put6 3 _ rfl).put6 4 _ rfl).fin _ _ _ _ _ _ _⟩
end Go.Proofs.YtjogkfcjlljjcaaDoor.P
namespace Go.Proofs.YtjogkfcjlljjcaaDoor.P
open Go.RowKit Go.Proofs.YtjogkfcjlljjcaaDoorW.PrintWords Go.Proofs.YtjogkfcjlljjcaaDoorW.PrintLast Go.Proofs.YtjogkfcjlljjcaaDoorW.PrintMore
attribute [local go_sem] max2_int min2_int max_two min_two max_three min_three max_four min_four   -- for this text's walks alone
set_option linter.unusedVariables false
set_option linter.unusedSimpArgs false
set_option linter.unnecessarySimpa false
theorem LeO_ite {α : Type} {p : Prop} [Decidable p] {a b a' b' : Option α} (h1 : LeO a a') (h2 : LeO b b') : LeO (if p then a else b) (if p then a' else b') := by
  split
  · exact h1
  · exact h2
def rsv_r (k : Nat) (l : List S53) (typ : Int) (host : ByteArray) (gen : Int) (apt : Bool) (c : S31) : DoR := if typ = 0 then (headgateref11_hold.f c.f11 c.f2).bind fun h => some (l, h.1, h.2, gen, apt, [], 1) else (headgateref10_Holds.f k l typ host gen apt c.f2).bind fun hh => if hh = true then do_same l typ host gen apt (if (typ == c.f11) = true then 1 else 2) else do_same l typ host gen apt 2
def rel_r (k : Nat) (l : List S53) (typ : Int) (host : ByteArray) (gen : Int) (apt : Bool) (c : S31) : DoR := (headgateref10_Holds.f k l typ host gen apt c.f2).bind fun hh => if hh = true then (if (typ != c.f11) = true then do_same l typ host gen apt 5 else if c.f11 = 1 ∨ c.f11 = 2 then some (l, 0, (⟨#[]⟩ : ByteArray), gen, apt, [], 1) else (headgateref11_events.f k l c.f2 3).bind fun ev => some (l, 0, (⟨#[]⟩ : ByteArray), gen, apt, ev, 1)) else do_same l typ host gen apt 1
def pre_t (k : Nat) (l : List S53) (typ : Int) (host : ByteArray) (gen : Int) (apt : Bool) (c : S31) (al tk : Bool) : DoR := (headgateref11_events.f k (l.filter (stk c al)) (⟨#[]⟩ : ByteArray) 2).bind fun ev => if tk = true then (headgateref11_hold.f c.f11 c.f2).bind fun h => some (l.filter (sty c al), h.1, h.2, ((gen + 1) % 4294967296), apt, ev, 1) else if (((l.filter (stk c al)).length : Int) == 0) = true then do_same l typ host gen apt 2 else some (l.filter (sty c al), typ, host, ((gen + 1) % 4294967296), apt, ev, 1)
def pre_k (k : Nat) (l : List S53) (typ : Int) (host : ByteArray) (gen : Int) (apt : Bool) (c : S31) : Option Bool := (headgateref11_alone.f typ).bind fun al => if al = true then (headgateref11_Key.f k l typ host gen apt host).bind fun kh => some (kh == c.f10) else some false
def pre_r (k : Nat) (l : List S53) (typ : Int) (host : ByteArray) (gen : Int) (apt : Bool) (c : S31) : DoR := if (decide (4 < typ) && c.f10 == 0) = true then pre_t k l typ host gen apt c true true else (pre_k k l typ host gen apt c).bind fun tk => if (c.f10 == 0 && !tk) = true then do_same l typ host gen apt 5 else pre_t k l typ host gen apt c false tk
def reg_r (k : Nat) (l : List S53) (typ : Int) (host : ByteArray) (gen : Int) (apt : Bool) (c : S31) (kk : Int) : DoR :=
 if (!c.f12 && c.f8 != kk) = true then do_same l typ host gen apt 2 else
 if c.f9 = 0 then (if kk = 0 then some (l, typ, host, gen, aptP c apt, [], 1) else (headgateref11_without.f k l c.f2).bind fun l2 =>
  if ((typ != 0) && ((host.toList == c.f2.toList) || ((l2.length : Int) == 0))) = true then (if (typ == 3 || typ == 4) = true then (headgateref11_events.f k l2 (⟨#[]⟩ : ByteArray) 3).bind fun ev => some (l2, 0, (⟨#[]⟩ : ByteArray), ((gen + 1) % 4294967296), aptP c apt, ev, 1) else some (l2, 0, (⟨#[]⟩ : ByteArray), ((gen + 1) % 4294967296), aptP c apt, [], 1)) else some (l2, typ, host, ((gen + 1) % 4294967296), aptP c apt, [], 1))
 else if kk = 0 then (if l.length = 16 then do_same l typ host gen apt 8 else some (l ++ [(⟨c.f2, c.f9⟩ : S53)], typ, host, ((gen + 1) % 4294967296), aptP c apt, [], 1)) else some (rk c l l.length, typ, host, ((gen + 1) % 4294967296), aptP c apt, [], 1)
def do_r (k : Nat) (l : List S53) (typ : Int) (host : ByteArray) (gen : Int) (apt : Bool) (c : S31) : DoR :=
 if l.length ≤ 1000 then (headgateref11_Good.f k l typ host gen apt).bind fun gd => if gd = true then (headgateref03_Name.f k c.f2).bind fun nm => (if nm = true then (if (decide (c.f0 < 8) || decide (12 < c.f0)) = true then do_same l typ host gen apt 5 else (headgateref11_Key.f k l typ host gen apt c.f2).bind fun kk => if c.f0 = 8 then reg_r k l typ host gen apt c kk else
  (if c.f0 = 9 ∨ c.f0 = 12 then headgateref10_Type.f c.f11 else some true).bind fun ty => if ty = true then (if kk = 0 ∨ kk ≠ c.f8 then do_same l typ host gen apt 2 else if c.f0 = 9 then rsv_r k l typ host gen apt c else if c.f0 = 10 then rel_r k l typ host gen apt c else if c.f0 = 11 then (headgateref11_events.f k l c.f2 4).bind fun ev => some ([], 0, (⟨#[]⟩ : ByteArray), ((gen + 1) % 4294967296), apt, ev, 1) else pre_r k l typ host gen apt c) else do_same l typ host gen apt 5)
  else do_same l typ host gen apt 5) else do_same l typ host gen apt 5 else none
theorem do_r_mono (k : Nat) (l : List S53) (typ : Int) (host : ByteArray) (gen : Int) (apt : Bool) (c : S31) : LeO (do_r k l typ host gen apt c) (do_r (k + 1) l typ host gen apt c) := by
 unfold do_r reg_r rsv_r rel_r pre_r pre_t pre_k
 repeat (first
  | exact LeO.refl _
  | exact headgateref11_Good.mono _ _ _ _ _ _
  | exact headgateref03_Name.mono _ _
  | exact headgateref11_Key.mono _ _ _ _ _ _ _
  | exact headgateref10_Holds.mono _ _ _ _ _ _ _
  | exact headgateref11_events.mono _ _ _ _
  | exact headgateref11_without.mono _ _ _
  | with_reducible refine LeO_ite ?_ ?_
  | refine LeO.bind ?_ ?_
  | intro _)
theorem hc_rsv (k : Nat) (w : World) (l : List S53) (typ : Int) (host : ByteArray) (gen : Int) (apt : Bool) (c : S31) (rg : Value) (r : List S53 × Int × ByteArray × Int × Bool × List S46 × Int) (h : rsv_r k l typ host gen apt c = some r) : HCp 39 w l typ host gen apt c rg r := by
 unfold rsv_r at h
 split at h
 ·next h0 =>
  obtain ⟨⟨h1, h2⟩, hh, h⟩ := Option.bind_eq_some_iff.mp h;cases h
  exact hc_same fun w1 A1 c1 hc hn => rf_rsv_take k A1 c1 l typ host gen apt c rg w1 hc hn h0 h1 h2 hh
 ·next h0 =>
  obtain ⟨hh, hhh, h⟩ := Option.bind_eq_some_iff.mp h;cases hh
  ·rw [if_neg (by decide)] at h;cases h
   exact hc_same fun w1 A1 c1 hc hn => rf_rsv_same k A1 c1 l typ host gen apt c rg w1 hc hn h0 2 (Or.inl ⟨rfl, hhh⟩)
  ·rw [if_pos rfl] at h
   obtain ⟨q, hq⟩ : ∃ q, (typ == c.f11) = q := ⟨_, rfl⟩
   rw [hq] at h;cases h;cases q
   ·exact hc_same fun w1 A1 c1 hc hn => rf_rsv_same k A1 c1 l typ host gen apt c rg w1 hc hn h0 2 (Or.inr (Or.inr ⟨rfl, hhh, hq⟩))
   ·exact hc_same fun w1 A1 c1 hc hn => rf_rsv_same k A1 c1 l typ host gen apt c rg w1 hc hn h0 1 (Or.inr (Or.inl ⟨rfl, hhh, hq⟩))
theorem hc_rel (k : Nat) (w : World) (l : List S53) (typ : Int) (host : ByteArray) (gen : Int) (apt : Bool) (c : S31) (rg : Value) (r : List S53 × Int × ByteArray × Int × Bool × List S46 × Int) (h : rel_r k l typ host gen apt c = some r) : HCp 40 w l typ host gen apt c rg r := by
 unfold rel_r at h;obtain ⟨hh, hhh, h⟩ := Option.bind_eq_some_iff.mp h;cases hh
 ·rw [if_neg (by decide)] at h;cases h
  exact hc_same fun w1 A1 c1 hc hn => rf_rel_same k A1 c1 l typ host gen apt c rg w1 hc hn 1 (Or.inl ⟨rfl, hhh⟩)
 ·rw [if_pos rfl] at h
  split at h
  ·next hq =>
   cases h
   exact hc_same fun w1 A1 c1 hc hn => rf_rel_same k A1 c1 l typ host gen apt c rg w1 hc hn 5 (Or.inr ⟨rfl, hhh, hq⟩)
  ·next hq =>
   have hq := Bool.eq_false_iff.mpr hq
   split at h
   ·next h12 =>
    cases h
    exact hc_same fun w1 A1 c1 hc hn => rf_rel_quiet k A1 c1 l typ host gen apt c rg w1 hc hn hhh hq h12
   ·next h12 =>
    obtain ⟨ev, hev, h⟩ := Option.bind_eq_some_iff.mp h;cases h
    exact hc_told fun w1 A1 c1 hc hn => rf_rel_told k A1 c1 l typ host gen apt c rg w1 hc hn hhh hq (fun z => h12 (Or.inl z)) (fun z => h12 (Or.inr z)) ev hev
theorem alone_small {typ : Int} (h : headgateref11_alone.f typ = some true) : decide (4 < typ) = false := by
 unfold headgateref11_alone.f at h
 split at h
 ·have := Option.some.inj h;have := of_decide_eq_true this;exact decide_eq_false (by omega)
 ·exact absurd (Option.some.inj h) (by decide)
theorem hc_pre (k : Nat) (w : World) (l : List S53) (typ : Int) (host : ByteArray) (gen : Int) (apt : Bool) (c : S31) (rg : Value) (r : List S53 × Int × ByteArray × Int × Bool × List S46 × Int) (hl : l.length ≤ 1000) (h : pre_r k l typ host gen apt c = some r) : HCp 42 w l typ host gen apt c rg r := by
 unfold pre_r at h
 split at h
 ·next ha =>
  obtain ⟨hb4, hz⟩ := Bool.and_eq_true_iff.mp ha;unfold pre_t at h;obtain ⟨ev, hev, h⟩ := Option.bind_eq_some_iff.mp h;rw [if_pos rfl] at h;obtain ⟨⟨h1, h2⟩, hh, h⟩ := Option.bind_eq_some_iff.mp h;cases h
  exact hc_new fun w1 A1 c1 hc hn => rf_pre_whole k A1 c1 l typ host gen apt c rg w1 hc hn hl hb4 hz h1 h2 hh ev hev
 ·next ha =>
  obtain ⟨tk, htk, h⟩ := Option.bind_eq_some_iff.mp h;unfold pre_k at htk;obtain ⟨al, hal, htk⟩ := Option.bind_eq_some_iff.mp htk
  obtain ⟨z, hz⟩ : ∃ z, (c.f10 == 0) = z := ⟨_, rfl⟩
  rw [hz] at h ha;cases al
  ·rw [if_neg (by decide)] at htk;cases htk;cases z
   ·rw [if_neg (by decide)] at h;unfold pre_t at h;obtain ⟨ev, hev, h⟩ := Option.bind_eq_some_iff.mp h;rw [if_neg (by decide)] at h
    obtain ⟨em, hem⟩ : ∃ em, (((l.filter (stk c false)).length : Int) == 0) = em := ⟨_, rfl⟩
    have H := fun w1 A1 c1 hc hn => rf_pre_stayn k A1 c1 l typ host gen apt c rg w1 hc hn hl _ rfl hz hal ev hev
    rw [hem] at h H;cases em
    ·rw [if_neg (by decide)] at h;cases h
     exact hc_new fun w1 A1 c1 hc hn => (H w1 A1 c1 hc hn).mono fun e w' hh => hh.elim (fun z => absurd z.1 (by decide)) (fun z => z.2)
    ·rw [if_pos rfl] at h;cases h
     exact hc_same fun w1 A1 c1 hc hn => (H w1 A1 c1 hc hn).mono fun e w' hh => hh.elim (fun z => z.2) (fun z => absurd z.1 (by decide))
   ·rw [if_pos (show (true && !false) = true from rfl)] at h;cases h;rw [Bool.and_true] at ha
    exact hc_same fun w1 A1 c1 hc hn => rf_pre_wrongn k A1 c1 l typ host gen apt c rg w1 hc hn (Bool.eq_false_iff.mpr ha) hz hal
  ·rw [if_pos rfl] at htk;obtain ⟨kh, hkh, htk⟩ := Option.bind_eq_some_iff.mp htk;have hq := Option.some.inj htk;have hb4 := alone_small hal;cases tk
   ·cases z
    ·rw [if_neg (by decide)] at h;unfold pre_t at h;obtain ⟨ev, hev, h⟩ := Option.bind_eq_some_iff.mp h;rw [if_neg (by decide)] at h
     obtain ⟨em, hem⟩ : ∃ em, (((l.filter (stk c false)).length : Int) == 0) = em := ⟨_, rfl⟩
     have H := fun w1 A1 c1 hc hn => rf_pre_stayk k A1 c1 l typ host gen apt c rg w1 hc hn hl hb4 hz hal kh hkh hq ev hev
     rw [hem] at h H;cases em
     ·rw [if_neg (by decide)] at h;cases h
      exact hc_new fun w1 A1 c1 hc hn => (H w1 A1 c1 hc hn).mono fun e w' hh => hh.elim (fun z => absurd z.1 (by decide)) (fun z => z.2)
     ·rw [if_pos rfl] at h;cases h
      exact hc_same fun w1 A1 c1 hc hn => (H w1 A1 c1 hc hn).mono fun e w' hh => hh.elim (fun z => z.2) (fun z => absurd z.1 (by decide))
    ·rw [if_pos (show (true && !false) = true from rfl)] at h;cases h
     exact hc_same fun w1 A1 c1 hc hn => rf_pre_wrongk k A1 c1 l typ host gen apt c rg w1 hc hn hb4 hz hal kh hkh hq
   ·rw [if_neg (by simp)] at h;unfold pre_t at h;obtain ⟨ev, hev, h⟩ := Option.bind_eq_some_iff.mp h;rw [if_pos rfl] at h;obtain ⟨⟨h1, h2⟩, hh, h⟩ := Option.bind_eq_some_iff.mp h;cases h
    exact hc_new fun w1 A1 c1 hc hn => rf_pre_take k A1 c1 l typ host gen apt c rg w1 hc hn hl hb4 _ rfl hal kh hkh hq h1 h2 hh ev hev
theorem hc_reg (k : Nat) (w : World) (l : List S53) (typ : Int) (host : ByteArray) (gen : Int) (apt : Bool) (c : S31) (rg : Value) (kk : Int) (hkk : headgateref11_Key.f k l typ host gen apt c.f2 = some kk) (r : List S53 × Int × ByteArray × Int × Bool × List S46 × Int) (hl : l.length ≤ 1000) (h : reg_r k l typ host gen apt c kk = some r) : HCp 37 w l typ host gen apt c rg r := by
 intro w1 A1 c1 hb hr;unfold reg_r at h
 split at h
 ·next hps =>
  obtain ⟨f12, hk8⟩ := Bool.and_eq_true_iff.mp hps;cases h;exact rf_reg_no k A1 c1 l typ host gen apt c rg w w1 hb hr kk hkk (by simpa using f12) hk8
 ·next hps =>
  have hps := Bool.eq_false_iff.mpr hps
  split at h
  ·next h9 =>
   split at h
   ·next h0 =>
    cases h;exact rf_reg_same k A1 c1 l typ host gen apt c rg w w1 hb hr kk hkk hps h9 h0
   ·next h0 =>
    obtain ⟨l2, hwo, h⟩ := Option.bind_eq_some_iff.mp h
    split at h
    ·next hs =>
     split at h
     ·next h34 =>
      obtain ⟨ev, hev, h⟩ := Option.bind_eq_some_iff.mp h;cases h;exact rf_reg_told k A1 c1 l typ host gen apt c rg w w1 hb hr kk hkk hps h9 h0 l2 hwo _ _ _ rfl rfl rfl hs _ _ rfl rfl h34 ev hev
     ·next h34 =>
      have h34 := Bool.or_eq_false_iff.mp (Bool.eq_false_iff.mpr h34);cases h;exact rf_reg_free k A1 c1 l typ host gen apt c rg w w1 hb hr kk hkk hps h9 h0 l2 hwo _ _ _ rfl rfl rfl hs h34.1 h34.2
    ·next hs =>
     cases h;exact rf_reg_stay k A1 c1 l typ host gen apt c rg w w1 hb hr kk hkk hps h9 h0 l2 hwo _ _ _ rfl rfl rfl (Bool.eq_false_iff.mpr hs)
  ·next h9 =>
   split at h
   ·next h0 =>
    split at h
    ·next h16 =>
     cases h;exact rf_reg_full k A1 c1 l typ host gen apt c rg w w1 hb hr kk hkk hps h9 h0 h16
    ·next h16 =>
     cases h;exact rf_reg_new k A1 c1 l typ host gen apt c rg w w1 hb hr kk hkk hps h9 h0 h16 hl
   ·next h0 =>
    cases h;exact rf_reg_put k A1 c1 l typ host gen apt c rg w w1 hb hr kk hkk hps h9 h0 hl
theorem do_r_calls (k : Nat) (A0 : Option Addr) (c0 : Nat) (l : List S53) (typ : Int) (host : ByteArray) (gen : Int) (apt : Bool) (c : S31) (rg : Value) (r : List S53 × Int × ByteArray × Int × Bool × List S46 × Int) (w : World) (hr : Kd.C k53 w A0 l.length l) (hc : l.length ≤ c0) (h : do_r k l typ host gen apt c = some r) :
  Calls Tryd.prog 16 #[.agg (tabc (.slice A0 l.length c0) typ host gen apt), .agg (cmdc c rg)] w fun e w' => ∃ v0 v5, e = .returned (.agg #[v0, .int .i64 r.2.1, .string r.2.2.1, .int .u32 r.2.2.2.1, .bool r.2.2.2.2.1, v5, .int .i64 r.2.2.2.2.2.2]) ∧ Kd.R k53 53 w' w.heap.size (fun _ => True) v0 r.1 ∧ Kd.R k46 46 w' w.heap.size (fun _ => True) v5 r.2.2.2.2.2.1 ∧ Below w.heap.size w w' := by
 unfold do_r at h
 split at h
 ·next hl =>
  obtain ⟨gd, hgd, h⟩ := Option.bind_eq_some_iff.mp h;cases gd
  ·rw [if_neg (by decide)] at h;cases h;exact rf_do_same k A0 c0 l typ host gen apt c rg w hr hc hl 5 (Or.inl ⟨rfl, hgd⟩)
  ·rw [if_pos rfl] at h;obtain ⟨nm, hnm, h⟩ := Option.bind_eq_some_iff.mp h;cases nm
   ·rw [if_neg (by decide)] at h;cases h;exact rf_do_same k A0 c0 l typ host gen apt c rg w hr hc hl 5 (Or.inr (Or.inl ⟨rfl, hgd, hnm⟩))
   ·rw [if_pos rfl] at h
    split at h
    ·next hb =>
     cases h
     have hb2 : decide (c.f0 < 8) = true ∨ decide (c.f0 < 8) = false ∧ decide (12 < c.f0) = true := by revert hb; cases decide (c.f0 < 8) <;> simp
     exact rf_do_same k A0 c0 l typ host gen apt c rg w hr hc hl 5 (Or.inr (Or.inr (Or.inl ⟨rfl, hgd, hnm, hb2⟩)))
    ·next hb =>
     have hb := Bool.or_eq_false_iff.mp (Bool.eq_false_iff.mpr hb);have hb1 := of_decide_eq_false hb.1;have hb2 := of_decide_eq_false hb.2;obtain ⟨kk, hkk, h⟩ := Option.bind_eq_some_iff.mp h
     split at h
     ·next ho => exact rf_do_sub k A0 c0 l typ host gen apt c rg w hr hc hl hgd hnm r (Or.inl ⟨hc_reg k w l typ host gen apt c rg kk hkk r hl h, ho⟩)
     ·next ho8 =>
      obtain ⟨ty, hty, h⟩ := Option.bind_eq_some_iff.mp h;cases ty
      ·rw [if_neg (by decide)] at h;cases h
       split at hty
       ·next ho => exact rf_do_same k A0 c0 l typ host gen apt c rg w hr hc hl 5 (Or.inr (Or.inr (Or.inr (Or.inl ⟨rfl, hgd, hnm, hty, ho⟩))))
       ·exact absurd (Option.some.inj hty) (by decide)
      ·rw [if_pos rfl] at h
       split at h
       ·next hcf =>
        cases h
        split at hty
        ·next ho => exact rf_do_same k A0 c0 l typ host gen apt c rg w hr hc hl 2 (Or.inr (Or.inr (Or.inr (Or.inr (Or.inl ⟨rfl, hgd, hnm, hty, ⟨kk, hkk, conf2 kk c.f8 hcf⟩, ho⟩)))))
        ·next ho => exact rf_do_same k A0 c0 l typ host gen apt c rg w hr hc hl 2 (Or.inr (Or.inr (Or.inr (Or.inr (Or.inr ⟨rfl, hgd, hnm, ⟨kk, hkk, conf2 kk c.f8 hcf⟩, by omega⟩)))))
       ·next hcf =>
        have k0 : kk ≠ 0 := fun z => hcf (Or.inl z)
        have k8 : kk = c.f8 := Decidable.byContradiction fun z => hcf (Or.inr z)
        split at h
        ·next ho =>
         rw [if_pos (Or.inl ho)] at hty;exact rf_do_sub k A0 c0 l typ host gen apt c rg w hr hc hl hgd hnm r (Or.inr (Or.inl ⟨hc_rsv k w l typ host gen apt c rg r h, ⟨kk, hkk, beq_eq_false_iff_ne.mpr k0, bne_eq_false_iff_eq.mpr k8⟩, hty, ho⟩))
        ·next ho9 =>
         split at h
         ·next ho => exact rf_do_sub k A0 c0 l typ host gen apt c rg w hr hc hl hgd hnm r (Or.inr (Or.inr (Or.inl ⟨hc_rel k w l typ host gen apt c rg r h, ⟨kk, hkk, beq_eq_false_iff_ne.mpr k0, bne_eq_false_iff_eq.mpr k8⟩, ho⟩)))
         ·next ho10 =>
          split at h
          ·next ho =>
           obtain ⟨ev, hev, h⟩ := Option.bind_eq_some_iff.mp h;cases h;exact rf_do_clear k A0 c0 l typ host gen apt c rg w hr hc hl hgd hnm kk hkk k0 k8 ho ev hev
          ·next ho11 =>
           have ho : c.f0 = 12 := by omega
           rw [if_pos (Or.inr ho)] at hty;exact rf_do_sub k A0 c0 l typ host gen apt c rg w hr hc hl hgd hnm r (Or.inr (Or.inr (Or.inr ⟨hc_pre k w l typ host gen apt c rg r hl h, ⟨kk, hkk, beq_eq_false_iff_ne.mpr k0, bne_eq_false_iff_eq.mpr k8⟩, hty, ho⟩)))
 ·exact absurd h (by simp)
def headgateref11_Do.f (k : Nat) (l0_0 : List S53) (a0_1 : Int) (a0_2 : ByteArray) (a0_3 : Int) (a0_4 : Bool) (a1_0 : Int) (a1_1 : Int) (a1_2 : ByteArray) (a1_3 : Int) (a1_4 : Int) (a1_5 : ByteArray) (a1_6 : Bool) (l1_7 : List S100) (a1_8 : Int) (a1_9 : Int) (a1_10 : Int) (a1_11 : Int) (a1_12 : Bool) (a1_13 : Int) : DoR := do_r k l0_0 a0_1 a0_2 a0_3 a0_4 (⟨a1_0, a1_1, a1_2, a1_3, a1_4, a1_5, a1_6, l1_7, a1_8, a1_9, a1_10, a1_11, a1_12, a1_13⟩ : S31)
theorem headgateref11_Do.mono : ∀ a0 a1 a2 a3 a4 a5 a6 a7 a8 a9 a10 a11 a12 a13 a14 a15 a16 a17 a18 k, LeO (headgateref11_Do.f k a0 a1 a2 a3 a4 a5 a6 a7 a8 a9 a10 a11 a12 a13 a14 a15 a16 a17 a18) (headgateref11_Do.f (k + 1) a0 a1 a2 a3 a4 a5 a6 a7 a8 a9 a10 a11 a12 a13 a14 a15 a16 a17 a18) := fun a0 a1 a2 a3 a4 a5 a6 a7 a8 a9 a10 a11 a12 a13 a14 a15 a16 a17 a18 k => do_r_mono k a0 a1 a2 a3 a4 ⟨a5, a6, a7, a8, a9, a10, a11, a12, a13, a14, a15, a16, a17, a18⟩
theorem headgateref11_Do.calls (k : Nat) (A0_0 : Option Addr) (c0_0 : Nat) (l0_0 : List S53) (a0_1 : Int) (a0_2 : ByteArray) (a0_3 : Int) (a0_4 : Bool) (a1_0 : Int) (a1_1 : Int) (a1_2 : ByteArray) (a1_3 : Int) (a1_4 : Int) (a1_5 : ByteArray) (a1_6 : Bool) (A1_7 : Option Addr) (c1_7 : Nat) (l1_7 : List S100) (a1_8 : Int) (a1_9 : Int) (a1_10 : Int) (a1_11 : Int) (a1_12 : Bool) (a1_13 : Int) (r1 : List S53) (r2 : Int) (r3 : ByteArray) (r4 : Int) (r5 : Bool) (r6 : List S46) (r7 : Int) (w : World) (hr0_0 : Kd.C k53 w A0_0 l0_0.length l0_0) (hc0_0 : l0_0.length ≤ c0_0) (hr1_7 : Kd.C k100 w A1_7 l1_7.length l1_7) (hc1_7 : l1_7.length ≤ c1_7) (h : headgateref11_Do.f k l0_0 a0_1 a0_2 a0_3 a0_4 a1_0 a1_1 a1_2 a1_3 a1_4 a1_5 a1_6 l1_7 a1_8 a1_9 a1_10 a1_11 a1_12 a1_13 = some (r1, r2, r3, r4, r5, r6, r7)) :
  Calls Tryd.prog 16 #[.agg #[.slice A0_0 l0_0.length c0_0, .int .i64 a0_1, .string a0_2, .int .u32 a0_3, .bool a0_4], .agg #[.int .i64 a1_0, .int .i64 a1_1, .string a1_2, .int .i64 a1_3, .int .i64 a1_4, .string a1_5, .bool a1_6, .slice A1_7 l1_7.length c1_7, .int .u64 a1_8, .int .u64 a1_9, .int .u64 a1_10, .int .i64 a1_11, .bool a1_12, .int .i64 a1_13]] w fun e w' => ∃ v0_ v5_ : Value, e = .returned (.agg #[v0_, .int .i64 r2, .string r3, .int .u32 r4, .bool r5, v5_, .int .i64 r7]) ∧ Kd.R k53 53 w' w.heap.size (fun _ => True) v0_ r1 ∧ Kd.R k46 46 w' w.heap.size (fun _ => True) v5_ r6 ∧ Below w.heap.size w w' :=
 do_r_calls k A0_0 c0_0 l0_0 a0_1 a0_2 a0_3 a0_4 (⟨a1_0, a1_1, a1_2, a1_3, a1_4, a1_5, a1_6, l1_7, a1_8, a1_9, a1_10, a1_11, a1_12, a1_13⟩ : S31) (.slice A1_7 l1_7.length c1_7) (r1, r2, r3, r4, r5, r6, r7) w hr0_0 hc0_0 h
end Go.Proofs.YtjogkfcjlljjcaaDoor.P
namespace Go.Proofs.YtjogkfcjlljjcaaDoor.Pure
open Go.RowKit Go.Proofs.YtjogkfcjlljjcaaDoor.P Go.Proofs.YtjogkfcjlljjcaaDoorW.PrintWords Go.Proofs.YtjogkfcjlljjcaaDoorW.PrintLast Go.Proofs.YtjogkfcjlljjcaaDoorW.PrintMore Go.Proofs.YtjogkfcjlljjcaaDoor.Num
set_option linter.unusedVariables false
set_option linter.unusedSimpArgs false
theorem ok_filter {l : List S53} (h : okL l) (p : S53 → Bool) : okL (l.filter p) :=
  ⟨h.1.sublist List.filter_sublist, fun x hx => h.2 x ((List.mem_filter.mp hx).1)⟩
theorem ok_new {l : List S53} (h : okL l) {c : ByteArray} (hr : reg l c = false) (hn : nameB c = true) {ky : Int} (hk : ky ≠ 0) : okL (l ++ [(⟨c, ky⟩ : S53)]) := by
  refine ⟨?_, ?_⟩
  · rw [List.pairwise_append];refine ⟨h.1, List.pairwise_singleton _ _, ?_⟩;intro a ha b hb;rw [List.mem_singleton.mp hb];intro e;exact (Bool.eq_false_iff.mp hr) ((reg_iff l c).mpr ⟨a, ha, e⟩)
  · intro x hx
    rcases List.mem_append.mp hx with hx | hx
    · exact h.2 x hx
    · rw [List.mem_singleton.mp hx];exact ⟨hn, hk⟩
theorem rekey_f0 (c : ByteArray) (ky : Int) (x : S53) : (if x.f0 = c then (⟨x.f0, ky⟩ : S53) else x).f0 = x.f0 := by split <;> rfl
theorem ok_rekey {l : List S53} (h : okL l) (c : ByteArray) {ky : Int} (hk : ky ≠ 0) : okL (rekey l c ky) := by
  unfold rekey;refine ⟨?_, ?_⟩
  · rw [List.pairwise_map];exact h.1.imp (fun hab => by rw [rekey_f0, rekey_f0]; exact hab)
  · intro x hx;obtain ⟨y, hy, rfl⟩ := List.mem_map.mp hx;have := h.2 y hy;rw [rekey_f0];refine ⟨this.1, ?_⟩
    split
    · exact hk
    · exact this.2
theorem reg_rekey (l : List S53) (c h : ByteArray) (ky : Int) (hr : reg l h = true) : reg (rekey l c ky) h = true := by
  obtain ⟨x, hx, rfl⟩ := (reg_iff l h).mp hr;exact (reg_iff _ _).mpr ⟨_, List.mem_map.mpr ⟨x, hx, rfl⟩, rekey_f0 c ky x⟩
theorem reg_app (l m : List S53) (h : ByteArray) (hr : reg l h = true) : reg (l ++ m) h = true := by
  obtain ⟨x, hx, rfl⟩ := (reg_iff l h).mp hr;exact (reg_iff _ _).mpr ⟨x, List.mem_append_left _ hx, rfl⟩
theorem reg_pos {l : List S53} {h : ByteArray} (hr : reg l h = true) : 0 < l.length := by
  obtain ⟨x, hx, _⟩ := (reg_iff l h).mp hr;exact List.length_pos_of_mem hx
theorem mem_told {c : S31} {pred : ByteArray → Int → Bool} {why : Int} {l : List S53} {n : Nat} {y : S46} (h : y ∈ told c pred why l n) : y.f0 ≠ c.f2 ∧ reg l y.f0 = true := by
  unfold told at h;obtain ⟨x, hx, rfl⟩ := List.mem_map.mp h;rw [List.mem_filter, Bool.and_eq_true, tl_beq] at hx;refine ⟨?_, (reg_iff l _).mpr ⟨x, List.mem_of_mem_take hx.1, rfl⟩⟩;have := hx.2.1;simpa using this
def Keeps (l : List S53) (typ : Int) (host : ByteArray) (gen : Int) (apt : Bool) (c : S31) (r : List S53 × Int × ByteArray × Int × Bool × List S46 × Int) : Prop :=
  (r.2.2.2.2.2.2 ≠ 1 → r.1 = l ∧ r.2.1 = typ ∧ r.2.2.1 = host ∧ r.2.2.2.1 = gen ∧ r.2.2.2.2.1 = apt ∧ r.2.2.2.2.2.1 = []) ∧
  (r.2.2.2.2.2.2 = 1 → goodB l typ host = true ∧ goodB r.1 r.2.1 r.2.2.1 = true ∧ (r.2.2.2.1 = gen ∨ r.2.2.2.1 = (gen + 1) % 4294967296)) ∧
  (∀ y ∈ r.2.2.2.2.2.1, y.f0 ≠ c.f2 ∧ reg l y.f0 = true) ∧ r.2.2.2.2.2.1.length ≤ 16
theorem keeps_same {l : List S53} {typ : Int} {host : ByteArray} {gen : Int} {apt : Bool} {c : S31} {n : Int} (hg : n = 1 → goodB l typ host = true) : ∃ r, do_same l typ host gen apt n = some r ∧ Keeps l typ host gen apt c r :=
  ⟨_, rfl, fun _ => ⟨rfl, rfl, rfl, rfl, rfl, rfl⟩, fun h => ⟨hg h, hg h, Or.inl rfl⟩, fun y hy => (List.not_mem_nil hy).elim, Nat.zero_le _⟩
theorem keeps_mk {l l2 : List S53} {typ typ2 : Int} {host host2 : ByteArray} {gen gen2 : Int} {apt apt2 : Bool} {c : S31} {ev : List S46} (hg : goodB l typ host = true) (hg2 : goodB l2 typ2 host2 = true) (he : gen2 = gen ∨ gen2 = (gen + 1) % 4294967296) (hy : ∀ y ∈ ev, y.f0 ≠ c.f2 ∧ reg l y.f0 = true) (hl : ev.length ≤ 16) : ∃ r, (some (l2, typ2, host2, gen2, apt2, ev, (1 : Int)) : DoR) = some r ∧ Keeps l typ host gen apt c r :=
  ⟨_, rfl, fun h => absurd rfl h, fun _ => ⟨hg, hg2, he⟩, hy, hl⟩
theorem no_ev {l : List S53} {c : S31} : ∀ y ∈ ([] : List S46), y.f0 ≠ c.f2 ∧ reg l y.f0 = true := fun y hy => (List.not_mem_nil hy).elim
theorem told_16 (c : S31) (pred : ByteArray → Int → Bool) (why : Int) {l : List S53} (h : l.length ≤ 16) : (told c pred why l l.length).length ≤ 16 := Nat.le_trans (told_le c pred why l l.length) h
theorem asks_reg {l : List S53} {c : S31} (h : asksP (keyL l c.f2) c = true) : reg l c.f2 = true ∧ keyL l c.f2 = c.f8 := by
  unfold asksP at h;rw [Bool.and_eq_true, bne_iff_ne, beq_iff_eq] at h;refine ⟨?_, h.2⟩
  cases hr : reg l c.f2 with
  | true => rfl
  | false => exact absurd (keyL_none hr) h.1
theorem taken_ok {l : List S53} {c : S31} (ht : typed c.f11 = true) (hr : reg l c.f2 = true) : holdOk_ l c.f11 (takenBy c) = true := by
  rw [hold_iff];have := of_decide_eq_true ht;unfold takenBy;by_cases h5 : c.f11 = 5 ∨ c.f11 = 6
  · rw [if_pos h5];exact Or.inr (Or.inr ⟨h5, rfl, reg_pos hr⟩)
  · rw [if_neg h5];exact Or.inr (Or.inl ⟨by omega, by omega, hr⟩)
theorem not_me {c : S31} {whole : Bool} {x : S53} (h : x.f0 = c.f2) : struckP c whole x.f0 x.f1 = false := by
  unfold struckP;rw [tl_beq, decide_eq_true h];rfl
theorem reg_struck {l : List S53} {c : S31} (whole : Bool) (hr : reg l c.f2 = true) : reg (l.filter fun x => !struckP c whole x.f0 x.f1) c.f2 = true := by
  obtain ⟨x, hx, he⟩ := (reg_iff l c.f2).mp hr;refine (reg_iff _ _).mpr ⟨x, List.mem_filter.mpr ⟨hx, ?_⟩, he⟩;rw [not_me he];rfl
theorem filter_16 {l : List S53} (h : l.length ≤ 16) (p : S53 → Bool) : (l.filter p).length ≤ 16 := Nat.le_trans (List.length_filter_le _ _) h
theorem keyL_mem {l : List S53} (ho : okL l) {x : S53} (hx : x ∈ l) : keyL l x.f0 = x.f1 := by
  obtain ⟨y, hy, he, hk⟩ := keyL_some ((reg_iff l x.f0).mpr ⟨x, hx, rfl⟩);rw [hk];obtain ⟨i, hi, rfl⟩ := List.getElem_of_mem hx;obtain ⟨j, hj, rfl⟩ := List.getElem_of_mem hy;have hp := List.pairwise_iff_getElem.mp ho.1
  rcases Nat.lt_trichotomy i j with q | q | q
  · exact absurd he.symm (hp i j hi hj q)
  · subst q; rfl
  · exact absurd he (hp j i hj hi q)
theorem do_keeps (k : Nat) (l : List S53) (typ : Int) (host : ByteArray) (gen : Int) (apt : Bool) (c : S31) (hk : 210 ≤ k) (hh : host.size ≤ 5000) (hl : ∀ x ∈ l, x.f0.size ≤ 5000) (hw : (Lit.int .i64 c.f0).wf = true) :
    ∃ r, do_f k l typ host gen apt c = some r ∧ Keeps l typ host gen apt c r := by
  by_cases hb : ¬(8 ≤ c.f0 ∧ c.f0 ≤ 12) ∨ goodB l typ host = false ∨ nameB c.f2 = false
  · rw [do_bad k l typ host gen apt c hh hl hw hb];exact keeps_same (fun h => absurd h (by decide))
  have ho : 8 ≤ c.f0 ∧ c.f0 ≤ 12 := Classical.byContradiction fun z => hb (Or.inl z)
  have hg : goodB l typ host = true := by
    cases h : goodB l typ host with
    | true => rfl
    | false => exact absurd (Or.inr (Or.inl h)) hb
  have hn : nameB c.f2 = true := by
    cases h : nameB c.f2 with
    | true => rfl
    | false => exact absurd (Or.inr (Or.inr h)) hb
  obtain ⟨h16, hok, hhold⟩ := good_ok hg;have hH := (hold_iff l typ host).mp hhold;rw [do_good k l typ host gen apt c hk hg hn hw ho];by_cases h8 : c.f0 = 8
  · rw [if_pos h8, reg_eq l typ host gen apt c _ hok];by_cases q1 : (!c.f12 && c.f8 != keyL l c.f2) = true
    · rw [if_pos q1];exact keeps_same (fun h => absurd h (by decide))
    rw [if_neg q1];by_cases q9 : c.f9 = 0
    · rw [if_pos q9];by_cases q0 : keyL l c.f2 = 0
      · rw [if_pos q0];exact keeps_mk hg hg (Or.inl rfl) no_ev (Nat.zero_le _)
      · rw [if_neg q0];have hok2 := ok_filter hok (fun x => !decide (x.f0 = c.f2));have hl2 := filter_16 h16 (fun x => !decide (x.f0 = c.f2));cases qa : (decide (host = c.f2) || decide (typ = 5 ∨ typ = 6) && ((l.filter fun x => !decide (x.f0 = c.f2)).length == 0))
        · rw [if_neg (by decide)];rw [Bool.or_eq_false_iff, decide_eq_false_iff_not, Bool.and_eq_false_iff] at qa;refine keeps_mk hg (good_mk hl2 hok2 ((hold_iff _ _ _).mpr ?_)) (Or.inr rfl) no_ev (Nat.zero_le _)
          rcases hH with z | z | z
          · exact Or.inl z
          · refine Or.inr (Or.inl ⟨z.1, z.2.1, ?_⟩);obtain ⟨x, hx, he⟩ := (reg_iff l host).mp z.2.2;refine (reg_iff _ _).mpr ⟨x, List.mem_filter.mpr ⟨hx, ?_⟩, he⟩;rw [he, decide_eq_false qa.1];rfl
          · refine Or.inr (Or.inr ⟨z.1, z.2.1, ?_⟩)
            rcases qa.2 with y | y
            · exact absurd z.1 (of_decide_eq_false y)
            · have := beq_eq_false_iff_ne.mp y;omega
        · rw [if_pos rfl];refine keeps_mk hg (good_mk hl2 hok2 ((hold_iff _ _ _).mpr (Or.inl ⟨rfl, rfl⟩))) (Or.inr rfl) ?_ ?_
          · unfold freed
            split
            · intro y hy;obtain ⟨h1, h2⟩ := mem_told hy;obtain ⟨x, hx, he⟩ := (reg_iff _ _).mp h2;exact ⟨h1, (reg_iff _ _).mpr ⟨x, (List.mem_filter.mp hx).1, he⟩⟩
            · exact no_ev
          · unfold freed
            split
            · exact told_16 _ _ _ hl2
            · exact Nat.zero_le _
    · rw [if_neg q9];by_cases q0 : keyL l c.f2 = 0
      · rw [if_pos q0];by_cases q16 : l.length = 16
        · rw [if_pos q16];exact keeps_same (fun h => absurd h (by decide))
        · rw [if_neg q16];refine keeps_mk hg (good_mk (by rw [List.length_append]; simp; omega) (ok_new hok ((keyL_zero hok c.f2).mp q0) hn q9) ((hold_iff _ _ _).mpr ?_)) (Or.inr rfl) no_ev (Nat.zero_le _)
          rcases hH with z | z | z
          · exact Or.inl z
          · exact Or.inr (Or.inl ⟨z.1, z.2.1, reg_app _ _ _ z.2.2⟩)
          · exact Or.inr (Or.inr ⟨z.1, z.2.1, by rw [List.length_append]; omega⟩)
      · rw [if_neg q0];refine keeps_mk hg (good_mk (by unfold rekey; rw [List.length_map]; exact h16) (ok_rekey hok c.f2 q9) ((hold_iff _ _ _).mpr ?_)) (Or.inr rfl) no_ev (Nat.zero_le _)
        rcases hH with z | z | z
        · exact Or.inl z
        · exact Or.inr (Or.inl ⟨z.1, z.2.1, reg_rekey _ _ _ _ z.2.2⟩)
        · exact Or.inr (Or.inr ⟨z.1, z.2.1, by unfold rekey; rw [List.length_map]; exact z.2.2⟩)
  rw [if_neg h8];by_cases h9 : c.f0 = 9
  · rw [if_pos h9, rsv_eq k l typ host gen apt c _ hk (by omega)];cases ht : typed c.f11
    · exact keeps_same (fun h => absurd h (by decide))
    rw [if_neg (by decide)];cases ha : asksP (keyL l c.f2) c
    · exact keeps_same (fun h => absurd h (by decide))
    rw [if_neg (by decide)];by_cases h0 : typ = 0
    · rw [if_pos h0];exact keeps_mk hg (good_mk h16 hok (taken_ok ht (asks_reg ha).1)) (Or.inl rfl) no_ev (Nat.zero_le _)
    · rw [if_neg h0]
      split
      · exact keeps_same (fun _ => hg)
      · exact keeps_same (fun h => absurd h (by decide))
  rw [if_neg h9];by_cases h10 : c.f0 = 10
  · rw [if_pos h10, rel_eq k l typ host gen apt c _ hk (by omega)];cases ha : asksP (keyL l c.f2) c
    · exact keeps_same (fun h => absurd h (by decide))
    rw [if_neg (by decide)]
    split
    · exact keeps_same (fun _ => hg)
    · split
      · exact keeps_same (fun h => absurd h (by decide))
      · refine keeps_mk hg (good_mk h16 hok ((hold_iff _ _ _).mpr (Or.inl ⟨rfl, rfl⟩))) (Or.inl rfl) ?_ ?_
        · split
          · exact no_ev
          · exact fun y hy => mem_told hy
        · split
          · exact Nat.zero_le _
          · exact told_16 _ _ _ h16
  rw [if_neg h10];by_cases h11 : c.f0 = 11
  · rw [if_pos h11];unfold do_clr;cases ha : asksP (keyL l c.f2) c
    · exact keeps_same (fun h => absurd h (by decide))
    rw [if_neg (by decide)];exact keeps_mk hg (good_mk (Nat.zero_le _) ⟨List.Pairwise.nil, fun x hx => (List.not_mem_nil hx).elim⟩ ((hold_iff _ _ _).mpr (Or.inl ⟨rfl, rfl⟩))) (Or.inr rfl) (fun y hy => mem_told hy) (told_16 _ _ _ h16)
  rw [if_neg h11, pre_eq k l typ host gen apt c _ hk (by omega)];cases ht : typed c.f11
  · exact keeps_same (fun h => absurd h (by decide))
  rw [if_neg (by decide)];cases ha : asksP (keyL l c.f2) c
  · exact keeps_same (fun h => absurd h (by decide))
  rw [if_neg (by decide)];have hme := (asks_reg ha).1
  split
  · exact keeps_mk hg (good_mk (filter_16 h16 _) (ok_filter hok _) (taken_ok ht (reg_struck true hme))) (Or.inr rfl) (fun y hy => mem_told hy) (told_16 _ _ _ h16)
  split
  · exact keeps_mk hg (good_mk (filter_16 h16 _) (ok_filter hok _) (taken_ok ht (reg_struck false hme))) (Or.inr rfl) (fun y hy => mem_told hy) (told_16 _ _ _ h16)
  rename_i _ hnt
  split
  · exact keeps_same (fun h => absurd h (by decide))
  split
  · exact keeps_same (fun h => absurd h (by decide))
  refine keeps_mk hg (good_mk (filter_16 h16 _) (ok_filter hok _) ((hold_iff _ _ _).mpr ?_)) (Or.inr rfl) (fun y hy => mem_told hy) (told_16 _ _ _ h16)
  rcases hH with z | z | z
  · exact Or.inl z
  · refine Or.inr (Or.inl ⟨z.1, z.2.1, ?_⟩);obtain ⟨x, hx, he⟩ := (reg_iff l host).mp z.2.2;refine (reg_iff _ _).mpr ⟨x, List.mem_filter.mpr ⟨hx, ?_⟩, he⟩
    have hne : host.toList ≠ ([] : List UInt8) := fun q => by
      have e := tl_nil.mp q;have := (name_size (hok.2 x hx).1).1;rw [he, e] at this;exact absurd this (by decide)
    have hko : keyL l host ≠ c.f10 := fun q => hnt ⟨hne, q⟩
    rw [← he, keyL_mem hok hx] at hko;unfold struckP;rw [beq_eq_false_iff_ne.mpr hko];simp
  · exact Or.inr (Or.inr ⟨z.1, z.2.1, reg_pos (reg_struck false hme)⟩)
end Go.Proofs.YtjogkfcjlljjcaaDoor.Pure
namespace Go.Proofs.YtjogkfcjlljjcaaDoor.Pure
open Go.RowKit Go.Proofs.YtjogkfcjlljjcaaDoor.P Go.Proofs.YtjogkfcjlljjcaaDoorW.PrintWords Go.Proofs.YtjogkfcjlljjcaaDoorW.PrintLast Go.Proofs.YtjogkfcjlljjcaaDoorW.PrintMore Go.Proofs.YtjogkfcjlljjcaaDoor.Num
set_option linter.unusedVariables false
set_option linter.unusedSimpArgs false
def evs (l : List S53) (h : ByteArray) (why : Int) : List S46 := (l.filter fun x => !decide (x.f0 = h)).map fun x => ⟨x.f0, why⟩
theorem events_l0 (l : List S53) (h : ByteArray) (why : Int) (hl : l.length ≤ 1000) : ∀ (n k i : Nat) (acc : List S46), i + n = l.length → n + 1 ≤ k → acc.length ≤ i → headgateref11_events.l0 k l h why acc (i : Int) = some (acc ++ evs (l.drop i) h why)
  | 0, k + 1, i, acc, hi, hk, ha => by
    rw [headgateref11_events.l0, if_neg (by omega), List.drop_eq_nil_of_le (by omega)];simp [evs]
  | n + 1, k + 1, i, acc, hi, hk, ha => by
    have hlt : i < l.length := by omega
    rw [headgateref11_events.l0, if_pos (by omega), if_pos (by omega), rd_at l i hlt, List.drop_eq_getElem_cons hlt];by_cases hc : (l[i]).f0 = h
    · rw [if_pos (tl_inj.mpr hc), w64 (by omega) (by omega)];refine (events_l0 l h why hl n k (i + 1) acc (by omega) (by omega) (by omega)).trans ?_;unfold evs;rw [List.filter_cons, if_neg (by simp [hc])]
    · rw [if_neg (fun z => hc (tl_inj.mp z)), if_pos (by omega), w64 (by omega) (by omega)];refine (events_l0 l h why hl n k (i + 1) _ (by omega) (by omega) (by rw [List.length_append]; simp; omega)).trans ?_;unfold evs;rw [List.filter_cons, if_pos (by simp [hc]), List.map_cons, List.append_assoc];rfl
theorem events_spec (k : Nat) (l : List S53) (h : ByteArray) (why : Int) (hl : l.length ≤ 201) (hk : 210 ≤ k) : headgateref11_events.f k l h why = some (evs l h why) :=
  (events_l0 l h why (by omega) l.length k 0 [] (by omega) (by omega) (Nat.le_refl _)).trans (by simp)
theorem without_l0 (l : List S53) (h : ByteArray) (hl : l.length ≤ 1000) : ∀ (n k i : Nat) (acc : List S53), i + n = l.length → n + 1 ≤ k → acc.length ≤ i → headgateref11_without.l0 k l h acc (i : Int) = some (acc ++ (l.drop i).filter fun x => !decide (x.f0 = h))
  | 0, k + 1, i, acc, hi, hk, ha => by
    rw [headgateref11_without.l0, if_neg (by omega), List.drop_eq_nil_of_le (by omega)];simp
  | n + 1, k + 1, i, acc, hi, hk, ha => by
    have hlt : i < l.length := by omega
    rw [headgateref11_without.l0, if_pos (by omega), if_pos (by omega), rd_at l i hlt, List.drop_eq_getElem_cons hlt];by_cases hc : (l[i]).f0 = h
    · rw [if_pos (tl_inj.mpr hc), w64 (by omega) (by omega)];refine (without_l0 l h hl n k (i + 1) acc (by omega) (by omega) (by omega)).trans ?_;rw [List.filter_cons, if_neg (by simp [hc])]
    · rw [if_neg (fun z => hc (tl_inj.mp z)), if_pos (by omega), w64 (by omega) (by omega)];refine (without_l0 l h hl n k (i + 1) _ (by omega) (by omega) (by rw [List.length_append]; simp; omega)).trans ?_;rw [List.filter_cons, if_pos (by simp [hc]), List.append_assoc];rfl
theorem without_spec (k : Nat) (l : List S53) (h : ByteArray) (hl : l.length ≤ 201) (hk : 210 ≤ k) : headgateref11_without.f k l h = some (l.filter fun x => !decide (x.f0 = h)) :=
  (without_l0 l h (by omega) l.length k 0 [] (by omega) (by omega) (Nat.le_refl _)).trans (by simp)
theorem name_pos {s : ByteArray} (h : nameB s = true) : s ≠ (⟨#[]⟩ : ByteArray) := fun e => by rw [e] at h; exact absurd h (by decide)
theorem hold_spec {t : Int} (h : ByteArray) (ht : typed t = true) : headgateref11_hold.f t h = some (t, if t = 5 ∨ t = 6 then (⟨#[]⟩ : ByteArray) else h) := by
  unfold headgateref11_hold.f;rw [alone_spec, Option.bind_some];have h16 : 1 ≤ t ∧ t ≤ 6 := of_decide_eq_true ht;by_cases h4 : 1 ≤ t ∧ t ≤ 4
  · rw [if_pos (decide_eq_true h4), if_neg (by omega)]
  · rw [if_neg (by rw [decide_eq_false h4]; decide), if_pos (by omega)]
theorem told_evs (c : S31) (why : Int) (l : List S53) : told c (fun _ _ => true) why l l.length = evs l c.f2 why := by
  unfold told evs;rw [List.take_length]
  congr 1
  apply List.filter_congr;intro x _;rw [tl_beq, Bool.and_true]
theorem evs_all {l : List S53} (h : ∀ x ∈ l, x.f0 ≠ (⟨#[]⟩ : ByteArray)) (why : Int) : evs l (⟨#[]⟩ : ByteArray) why = l.map fun x => ⟨x.f0, why⟩ := by
  unfold evs;rw [List.filter_eq_self.mpr fun x hx => by simp [h x hx]]
theorem told_struck (c : S31) (al : Bool) (why : Int) (l : List S53) : told c (struckP c al) why l l.length = (l.filter (stk c al)).map fun x => ⟨x.f0, why⟩ := by
  unfold told stk;rw [List.take_length]
  congr 1
  apply List.filter_congr;intro x _;unfold struckP
  cases (x.f0.toList == c.f2.toList) <;> rfl
theorem ok_names {l : List S53} (h : okL l) : ∀ x ∈ l, x.f0 ≠ (⟨#[]⟩ : ByteArray) := fun x hx => name_pos (h.2 x hx).1
theorem told_free {l : List S53} (h : okL l) (c : S31) (why : Int) : told c (fun _ _ => true) why (l.filter fun x => !decide (x.f0 = c.f2)) (l.filter fun x => !decide (x.f0 = c.f2)).length = evs (l.filter fun x => !decide (x.f0 = c.f2)) (⟨#[]⟩ : ByteArray) why := by
  rw [told_evs, evs_all (fun x hx => ok_names h x ((List.mem_filter.mp hx).1))];unfold evs;rw [List.filter_eq_self.mpr fun x hx => (List.mem_filter.mp hx).2]
theorem rk_rekey (c : S31) (l : List S53) : rk c l l.length = rekey l c.f2 c.f9 := by
  unfold rk rekey;rw [List.take_length, List.drop_length, List.append_nil];apply List.map_congr_left;intro x _;unfold upk;rw [tl_beq];by_cases e : x.f0 = c.f2
  · rw [if_pos (decide_eq_true e), if_pos e]
  · rw [if_neg (by rw [decide_eq_false e]; decide), if_neg e]
theorem reg_same (k : Nat) (hk : 800 ≤ k) (l : List S53) (typ : Int) (host : ByteArray) (gen : Int) (apt : Bool) (c : S31) (hg : goodB l typ host = true) (hn : nameB c.f2 = true) :
    reg_r k l typ host gen apt c (keyL l c.f2) = do_reg l typ host gen apt c (keyL l c.f2) (decide (typ = 5 ∨ typ = 6)) := by
  obtain ⟨h16, ho, hh⟩ := good_ok hg;rw [reg_eq l typ host gen apt c _ ho];unfold reg_r;by_cases h1 : (!c.f12 && c.f8 != keyL l c.f2) = true
  · rw [if_pos h1, if_pos h1]
  rw [if_neg h1, if_neg h1];by_cases h9 : c.f9 = 0
  · rw [if_pos h9, if_pos h9];by_cases h0 : keyL l c.f2 = 0
    · rw [if_pos h0, if_pos h0]
    rw [if_neg h0, if_neg h0, without_spec k l c.f2 (by omega) (by omega), Option.bind_some];have hl2 : (l.filter fun x => !decide (x.f0 = c.f2)).length ≤ 201 := Nat.le_trans (List.length_filter_le _ _) (by omega)
    have he : (decide (host = c.f2) || decide (typ = 5 ∨ typ = 6) && ((l.filter fun x => !decide (x.f0 = c.f2)).length == 0)) = ((typ != 0) && ((host.toList == c.f2.toList) || (((l.filter fun x => !decide (x.f0 = c.f2)).length : Int) == 0))) := by
      rw [tl_beq]
      have hz : (((l.filter fun x => !decide (x.f0 = c.f2)).length : Int) == 0) = ((l.filter fun x => !decide (x.f0 = c.f2)).length == 0) := by
        rw [Bool.eq_iff_iff, beq_iff_eq, beq_iff_eq];omega
      rw [hz]
      rcases (hold_iff l typ host).mp hh with ⟨t0, e0⟩ | ⟨t1, t4, hr⟩ | ⟨t5, e0, _⟩
      · have e1 : host ≠ c.f2 := fun e => name_pos hn (e.symm.trans e0)
        rw [decide_eq_false e1, decide_eq_false (by omega), t0];rfl
      · rw [decide_eq_false (show ¬(typ = 5 ∨ typ = 6) by omega), show (typ != 0) = true from bne_iff_ne.mpr (by omega), Bool.false_and, Bool.or_false, Bool.true_and];by_cases e1 : host = c.f2
        · rw [decide_eq_true e1, Bool.true_or]
        · rw [decide_eq_false e1, Bool.false_or]
          symm
          refine beq_eq_false_iff_ne.mpr fun z => ?_
          obtain ⟨x, hx, hxe⟩ := (reg_iff l host).mp hr
          have : x ∈ l.filter fun x => !decide (x.f0 = c.f2) := List.mem_filter.mpr ⟨hx, by simp [hxe, e1]⟩
          rw [List.eq_nil_of_length_eq_zero z] at this;cases this
      · rw [decide_eq_true t5, show (typ != 0) = true from bne_iff_ne.mpr (by omega), Bool.true_and, Bool.true_and]
    rw [he];by_cases hc : ((typ != 0) && ((host.toList == c.f2.toList) || (((l.filter fun x => !decide (x.f0 = c.f2)).length : Int) == 0))) = true
    · rw [if_pos hc, if_pos hc];unfold freed;by_cases h34 : (typ == 3 || typ == 4) = true
      · rw [if_pos h34, if_pos h34, events_spec k _ _ _ hl2 (by omega), Option.bind_some, told_free ho]
      · rw [if_neg h34, if_neg h34]
    · rw [if_neg hc, if_neg hc]
  rw [if_neg h9, if_neg h9];by_cases h0 : keyL l c.f2 = 0
  · rw [if_pos h0, if_pos h0]
  · rw [if_neg h0, if_neg h0, rk_rekey]
theorem asks_iff (kk : Int) (c : S31) : asksP kk c = true ↔ ¬(kk = 0 ∨ kk ≠ c.f8) := by
  unfold asksP;simp only [Bool.and_eq_true, bne_iff_ne, beq_iff_eq, not_or, Decidable.not_not, ne_eq]
theorem idx_none {pred : ByteArray → Int → Bool} {l : List S53} : decide (0 ≤ idxP pred l) = false ↔ l.filter (fun x => pred x.f0 x.f1) = [] := by
  unfold idxP;rw [List.filter_eq_nil_iff]
  cases h : l.findIdx? (fun x => pred x.f0 x.f1) with
  | none =>
    rw [List.findIdx?_eq_none_iff] at h;refine ⟨fun _ x hx => by rw [h x hx]; decide, fun _ => rfl⟩
  | some i =>
    refine ⟨fun z => absurd (of_decide_eq_false z) (by dsimp only; omega), fun z => ?_⟩;obtain ⟨hi, hp, _⟩ := List.findIdx?_eq_some_iff_getElem.mp h;exact absurd hp (by simpa using z _ (List.getElem_mem hi))
theorem pre_same (k : Nat) (hk : 800 ≤ k) (l : List S53) (typ : Int) (host : ByteArray) (gen : Int) (apt : Bool) (c : S31) (hg : goodB l typ host = true) (ht : typed c.f11 = true) (ha : asksP (keyL l c.f2) c = true) :
    pre_r k l typ host gen apt c = do_pre k l typ host gen apt c (keyL l c.f2) := by
  obtain ⟨h16, ho, hh⟩ := good_ok hg;rw [pre_eq k l typ host gen apt c _ (by omega) (by omega), ht, if_neg (by decide), ha, if_neg (by decide)]
  have hev : ∀ al, headgateref11_events.f k (l.filter (stk c al)) (⟨#[]⟩ : ByteArray) 2 = some (told c (struckP c al) 2 l l.length) := fun al => by
    rw [events_spec k _ _ _ (Nat.le_trans (List.length_filter_le _ _) (by omega)) (by omega), evs_all (fun x hx => ok_names ho x ((List.mem_filter.mp hx).1)), told_struck]
  have hsty : ∀ al, l.filter (sty c al) = l.filter fun x => !struckP c al x.f0 x.f1 := fun al => rfl
  have hhold : headgateref11_hold.f c.f11 c.f2 = some (c.f11, takenBy c) := hold_spec c.f2 ht
  have h5 : (decide (typ = 5 ∨ typ = 6) && c.f10 == 0) = (decide (4 < typ) && c.f10 == 0) := by
    have : decide (typ = 5 ∨ typ = 6) = decide (4 < typ) := by
      rw [decide_eq_decide]
      rcases (hold_iff l typ host).mp hh with ⟨t0, _⟩ | ⟨t1, t4, _⟩ | ⟨t5, _⟩ <;> omega
    rw [this]
  rw [h5];unfold pre_r;by_cases h1 : (decide (4 < typ) && c.f10 == 0) = true
  · rw [if_pos h1, if_pos h1];unfold pre_t;rw [hev, Option.bind_some, if_pos rfl, hhold, Option.bind_some, hsty]
  rw [if_neg h1, if_neg h1]
  have htk : ∃ tk, pre_k k l typ host gen apt c = some tk ∧ (tk = true ↔ host.toList ≠ ([] : List UInt8) ∧ keyL l host = c.f10) := by
    unfold pre_k;rw [alone_spec, Option.bind_some]
    rcases (hold_iff l typ host).mp hh with ⟨t0, e0⟩ | ⟨t1, t4, hr⟩ | ⟨t5, e0, _⟩
    · rw [if_neg (by rw [decide_eq_false (by omega)]; decide)];exact ⟨false, rfl, by rw [e0]; exact ⟨fun h => absurd h (by decide), fun h => absurd (tl_nil.mpr rfl) h.1⟩⟩
    · rw [if_pos (decide_eq_true (by omega)), refKey_spec k l typ host gen apt host (by omega) (by omega), Option.bind_some];refine ⟨_, rfl, ?_⟩;obtain ⟨x, hx, hxe⟩ := (reg_iff l host).mp hr
      have hne : host.toList ≠ ([] : List UInt8) := fun z => ok_names ho x hx (hxe.trans (tl_nil.mp z))
      rw [beq_iff_eq];exact ⟨fun h => ⟨hne, h⟩, fun h => h.2⟩
    · rw [if_neg (by rw [decide_eq_false (by omega)]; decide)];exact ⟨false, rfl, by rw [e0]; exact ⟨fun h => absurd h (by decide), fun h => absurd (tl_nil.mpr rfl) h.1⟩⟩
  obtain ⟨tk, hpk, htk⟩ := htk;rw [hpk, Option.bind_some];by_cases h2 : host.toList ≠ ([] : List UInt8) ∧ keyL l host = c.f10
  · have : tk = true := htk.mpr h2;rw [if_pos h2, this, if_neg (by simp)];unfold pre_t;rw [hev, Option.bind_some, if_pos rfl, hhold, Option.bind_some, hsty]
  · have : tk = false := by
      cases tk with
      | false => rfl
      | true => exact absurd (htk.mp rfl) h2
    rw [if_neg h2, this];by_cases h0 : c.f10 = 0
    · rw [if_pos h0, if_pos (by rw [h0]; rfl)]
    · rw [if_neg h0, if_neg (by rw [beq_eq_false_iff_ne.mpr h0]; decide)];unfold pre_t;rw [hev, Option.bind_some, if_neg (by decide), hsty];have hi : decide (0 ≤ idxP (struckP c false) l) = false ↔ l.filter (stk c false) = [] := idx_none;by_cases hz : decide (0 ≤ idxP (struckP c false) l) = false
      · rw [if_pos hz, hi.mp hz, if_pos (by rfl)]
      · rw [if_neg hz, if_neg];intro z;have : ((l.filter (stk c false)).length : Int) = 0 := beq_iff_eq.mp z;exact hz (hi.mpr (List.eq_nil_of_length_eq_zero (by omega)))
theorem do_same_ref (k : Nat) (hk : 800 ≤ k) (l : List S53) (typ : Int) (host : ByteArray) (gen : Int) (apt : Bool) (c : S31) (hl : l.length ≤ 200) (hh : host.size ≤ 5000) (hx : ∀ x ∈ l, x.f0.size ≤ 5000) (hw : (Lit.int .i64 c.f0).wf = true) :
    do_r k l typ host gen apt c = do_f k l typ host gen apt c := by
  unfold do_r;rw [if_pos (by omega), ref_Good_spec _ _ _ _ _ k hk, Option.bind_some]
  cases hg : goodB l typ host with
  | false => rw [if_neg (by decide), do_bad k l typ host gen apt c hh hx hw (Or.inr (Or.inl hg))]
  | true =>
    rw [if_pos rfl, ref_Name_spec k c.f2 (by omega), Option.bind_some]
    cases hn : nameB c.f2 with
    | false => rw [if_neg (by decide), do_bad k l typ host gen apt c hh hx hw (Or.inr (Or.inr hn))]
    | true =>
      rw [if_pos rfl];by_cases ho : 8 ≤ c.f0 ∧ c.f0 ≤ 12
      · rw [if_neg (by rw [decide_eq_false (by omega), decide_eq_false (by omega)]; decide), refKey_spec k l typ host gen apt c.f2 (by omega) (by omega), Option.bind_some, do_good k l typ host gen apt c (by omega) hg hn hw ho];have h16 := (good_ok hg).1;by_cases h8 : c.f0 = 8
        · refine (if_pos h8).trans (Eq.trans ?_ (if_pos h8).symm);exact reg_same k hk l typ host gen apt c hg hn
        refine (if_neg h8).trans (Eq.trans ?_ (if_neg h8).symm)
        have hask : ∀ (A B : DoR), (if keyL l c.f2 = 0 ∨ keyL l c.f2 ≠ c.f8 then A else B) = if asksP (keyL l c.f2) c = false then A else B := fun A B => by
          by_cases h : asksP (keyL l c.f2) c = true
          · rw [if_neg ((asks_iff _ c).mp h), if_neg (by rw [h]; decide)]
          · rw [if_pos (Decidable.not_not.mp fun z => h ((asks_iff _ c).mpr z)), if_pos (Bool.eq_false_iff.mpr h)]
        by_cases h9 : c.f0 = 9
        · refine Eq.trans ?_ (if_pos h9).symm;rw [if_pos (Or.inl h9), refType_spec, Option.bind_some, rsv_eq k l typ host gen apt c _ (by omega) (by omega)]
          show (if typed c.f11 = true then _ else _) = _
          cases ht : typed c.f11 with
          | false => rw [if_neg (by decide), if_pos rfl]
          | true =>
            rw [if_pos rfl, if_neg (show ¬(true = false) by decide), hask]
            cases hb : asksP (keyL l c.f2) c with
            | false => rw [if_pos rfl, if_pos rfl]
            | true =>
              rw [if_neg (show ¬(true = false) by decide), if_neg (show ¬(true = false) by decide), if_pos h9];unfold rsv_r;by_cases h0 : typ = 0
              · rw [if_pos h0, if_pos h0, hold_spec c.f2 ht];rfl
              · rw [if_neg h0, if_neg h0, refHolds_spec k l typ host gen apt c.f2 (by omega) (by omega), Option.bind_some]
                cases holds l typ host c.f2 with
                | false => rw [if_neg (by decide), Bool.false_and, if_neg (by decide)]
                | true =>
                  rw [if_pos rfl, Bool.true_and];by_cases he : (typ == c.f11) = true
                  · rw [if_pos he, if_pos he]
                  · rw [if_neg he, if_neg he]
        refine Eq.trans ?_ (if_neg h9).symm;by_cases h12 : c.f0 = 12
        · refine Eq.trans ?_ ((if_neg (show ¬c.f0 = 10 by omega)).trans (if_neg (show ¬c.f0 = 11 by omega))).symm;rw [if_pos (Or.inr h12), refType_spec, Option.bind_some]
          show (if typed c.f11 = true then _ else _) = _
          cases ht : typed c.f11 with
          | false => rw [if_neg (by decide), pre_eq k l typ host gen apt c _ (by omega) (by omega), ht, if_pos rfl]
          | true =>
            rw [if_pos rfl, hask]
            cases hb : asksP (keyL l c.f2) c with
            | false =>
              rw [if_pos rfl, pre_eq k l typ host gen apt c _ (by omega) (by omega), ht, if_neg (show ¬(true = false) by decide), hb, if_pos rfl]
            | true =>
              rw [if_neg (show ¬(true = false) by decide), if_neg h9, if_neg (show ¬c.f0 = 10 by omega), if_neg (show ¬c.f0 = 11 by omega)];exact pre_same k hk l typ host gen apt c hg ht hb
        · rw [if_neg (show ¬(c.f0 = 9 ∨ c.f0 = 12) by omega), Option.bind_some, if_pos rfl, hask];by_cases h10 : c.f0 = 10
          · refine Eq.trans ?_ (if_pos h10).symm;rw [rel_eq k l typ host gen apt c _ (by omega) (by omega)]
            cases hb : asksP (keyL l c.f2) c with
            | false => rw [if_pos rfl, if_pos rfl]
            | true =>
              rw [if_neg (show ¬(true = false) by decide), if_neg (show ¬(true = false) by decide), if_neg h9, if_pos h10];unfold rel_r;rw [refHolds_spec k l typ host gen apt c.f2 (by omega) (by omega), Option.bind_some]
              cases holds l typ host c.f2 with
              | false => rw [if_neg (by decide), if_pos rfl]
              | true =>
                rw [if_pos rfl, if_neg (show ¬(true = false) by decide)];by_cases he : (typ != c.f11) = true
                · rw [if_pos he, if_pos he]
                · rw [if_neg he, if_neg he]
                  have hte : typ = c.f11 := by simpa using he
                  by_cases h12' : c.f11 = 1 ∨ c.f11 = 2
                  · rw [if_pos h12', if_pos (by rw [hte]; unfold silent; rcases h12' with h | h <;> rw [h] <;> rfl)]
                  · rw [if_neg h12', if_neg (by rw [hte]; unfold silent; simpa using h12'), events_spec k l c.f2 3 (by omega) (by omega), Option.bind_some, told_evs]
          · have h11 : c.f0 = 11 := by omega
            refine Eq.trans ?_ ((if_neg h10).trans (if_pos h11)).symm;unfold do_clr
            cases hb : asksP (keyL l c.f2) c with
            | false => rw [if_pos rfl, if_pos rfl]
            | true => rw [if_neg (show ¬(true = false) by decide), if_neg (show ¬(true = false) by decide), if_neg h9, if_neg h10, if_pos h11, events_spec k l c.f2 4 (by omega) (by omega), Option.bind_some, told_evs]
      · rw [if_pos (by
          by_cases h8 : c.f0 < 8
          · rw [decide_eq_true h8]; rfl
          · rw [decide_eq_true (show 12 < c.f0 by omega), Bool.or_true]), do_bad k l typ host gen apt c hh hx hw (Or.inl ho)]
end Go.Proofs.YtjogkfcjlljjcaaDoor.Pure
namespace Go.Proofs.YtjogkfcjlljjcaaDoor.Rk
open Go.ChangeShapes Go.WideShapes Go.RowKit Go.Proofs.YtjogkfcjlljjcaaDoorW.PrintWords
variable {P : Program}
def Opens (P : Program) (t : TypeId) {α : Type} (d : Kd α) (Q : α → Prop) : Prop :=
  ∀ (H : Type) (enc : TypeId × Value → H) (w : World) (base : Nat) (spare : Nat → Bool) (held : Bool) (fuel : Nat) (cs : List Value) (y : DataW H × List MemPlace),
    DataW.trod enc P w base spare held fuel t cs = some y → ∃ x, d.K w x cs ∧ Q x
theorem opens_int {t : TypeId} {k : IntKind} (ht : P.underlying t = some (.int k)) : Opens P t (Kd.int k) (fun n => (Lit.int k n).wf = true) := by
  intro H enc w base spare held fuel cs y h;obtain ⟨n, rfl, _, hw⟩ := DataW.trod_int ht h;exact ⟨n, rfl, hw⟩
theorem opens_bool {t : TypeId} (ht : P.underlying t = some .bool) : Opens P t Kd.bool (fun _ => True) := by
  intro H enc w base spare held fuel cs y h;obtain ⟨n, rfl, _⟩ := DataW.trod_bool ht h;exact ⟨n, rfl, trivial⟩
theorem opens_string {t : TypeId} (ht : P.underlying t = some .string) : Opens P t Kd.string (fun s => s.size ≤ 9223372036854775807) := by
  intro H enc w base spare held fuel cs y h;obtain ⟨n, rfl, _, hs⟩ := DataW.trod_string ht h;exact ⟨n, rfl, hs⟩
theorem add_add (a : Addr) (m n : Nat) : (a.add m).add n = a.add (m + n) := by
  unfold Addr.add;by_cases hn : n = 0
  · simp [hn]
  · by_cases hm : m = 0
    · simp [hm]
    · simp [hm, hn];omega
theorem mapM_at {α β : Type} {f : α → Option β} : ∀ {l : List α} {r : List β}, l.mapM f = some r → ∀ (i : Nat) (a : α), l[i]? = some a → ∃ b, r[i]? = some b ∧ f a = some b
  | [], _, _, i, a, ha => by simp at ha
  | x :: l, r, h, i, a, ha => by
    simp only [List.mapM_cons, Option.bind_eq_bind, Option.bind_eq_some_iff, Option.pure_def, Option.some.injEq] at h;obtain ⟨b, hb, r', hr', rfl⟩ := h
    cases i with
    | zero =>
      simp only [List.getElem?_cons_zero, Option.some.injEq] at ha;subst ha;exact ⟨b, rfl, hb⟩
    | succ i => exact mapM_at hr' i a (by simpa using ha)
theorem mapM_length {α β : Type} {f : α → Option β} : ∀ {l : List α} {r : List β}, l.mapM f = some r → r.length = l.length
  | [], r, h => by simp at h; subst h; rfl
  | x :: l, r, h => by
    simp only [List.mapM_cons, Option.bind_eq_bind, Option.bind_eq_some_iff, Option.pure_def, Option.some.injEq] at h;obtain ⟨b, hb, r', hr', rfl⟩ := h;simp [mapM_length hr']
theorem cells_get {w : World} {base : Nat} {a : Addr} {n : Nat} {cs : List Value} (h : w.cells? base a n = some cs) : cs.length = n ∧ ∀ i u, cs[i]? = some u → w.cell? (a.add i) = some u := by
  unfold World.cells? at h
  split at h
  · have hl := mapM_length h;simp at hl;refine ⟨hl, fun i u hu => ?_⟩
    have hi : i < n := by
      have := (List.getElem?_eq_some_iff.mp hu).1;omega
    obtain ⟨b, hb, hf⟩ := mapM_at h i i (by simp [hi]);rw [hu] at hb;cases hb;exact hf
  · cases h
theorem build_list {α : Type} {p : Nat → α → Prop} : ∀ n, (∀ i, i < n → ∃ x, p i x) → ∃ l : List α, l.length = n ∧ ∀ i x, l[i]? = some x → p i x
  | 0, _ => ⟨[], rfl, by simp⟩
  | n + 1, h => by
    obtain ⟨l, hl, hp⟩ := build_list n (fun i hi => h i (by omega));obtain ⟨x, hx⟩ := h n (by omega);refine ⟨l ++ [x], by simp [hl], fun i y hy => ?_⟩;by_cases hi : i < n
    · rw [List.getElem?_append_left (by omega)] at hy;exact hp i y hy
    · have : i = n := by
        have := (List.getElem?_eq_some_iff.mp hy).1;simp at this;omega
      subst this;rw [List.getElem?_append_right (by omega)] at hy;simp [hl] at hy;subst hy;exact hx
theorem opens_slice {t e : TypeId} {α : Type} {d : Kd α} {Q : α → Prop} (ht : P.underlying t = some (.slice e)) (hc : P.cellsOf e = d.sz) (ho : Opens P e d Q) :
    Opens P t (Kd.slice e d) (fun l => l.length ≤ 9223372036854775807 ∧ ∀ x ∈ l, Q x) := by
  intro H enc w base spare held fuel cs y h
  rcases DataW.trod_slice ht h with ⟨rfl, _⟩ | ⟨a, len, cap, elems, rest, n, _, rfl, _, hb, hl, hm, hlen, hel, _, _⟩
  · exact ⟨[], ⟨none, 0, rfl, Nat.le_refl _, rfl, by simp, fun h => absurd h (by simp)⟩, by simp, by simp⟩
  · have hx : ∀ i, i < len → ∃ x, (∃ c, c.length = d.sz ∧ d.K w x c ∧ ∀ j u, c[j]? = some u → w.cell? (a.add (i * d.sz + j)) = some u) ∧ Q x := by
      intro i hi;have h1 := hel i hi;rw [List.getElem?_eq_getElem (by omega)] at h1;obtain ⟨cs', h3, h4⟩ := Option.bind_eq_some_iff.mp h1;obtain ⟨x, h5, h6⟩ := ho _ _ _ _ _ _ _ _ _ h4;obtain ⟨h7, h8⟩ := cells_get h3;refine ⟨x, ⟨cs', h7.trans hc, h5, fun j u hu => ?_⟩, h6⟩;have := h8 j u hu;rw [add_add, hc] at this;exact this
    obtain ⟨l, hll, hlp⟩ := build_list len hx;have hm' : cap ≤ 9223372036854775807 := hm;refine ⟨l, ⟨some a, cap, by rw [hll], by omega, rfl, by omega, fun _ => ⟨a, rfl, fun j p hp => (hlp j p hp).1⟩⟩, by omega, fun x hxl => ?_⟩;obtain ⟨i, hi⟩ := List.getElem?_of_mem hxl;exact (hlp i x hi).2
def Fits (P : Program) (l : List (TypeId × Nat)) (off : Nat) {α : Type} (d : Kd α) (Q : α → Prop) : Prop :=
  ∀ (H : Type) (enc : TypeId × Value → H) (w : World) (base : Nat) (spare : Nat → Bool) (held : Bool) (n : Nat) (cs : List Value), cs.length = off + d.sz →
    (∀ f, f ∈ l → ∃ y, DataW.trod enc P w base spare held n f.1 ((cs.drop f.2).take (P.cellsOf f.1)) = some y) → ∃ x, d.K w x (cs.drop off) ∧ Q x
theorem fits_one {t : TypeId} {off : Nat} {α : Type} {d : Kd α} {Q : α → Prop} (ho : Opens P t d Q) (hc : P.cellsOf t = d.sz) : Fits P [(t, off)] off d Q := by
  intro H enc w base spare held n cs hl h;obtain ⟨y, hy⟩ := h (t, off) (by simp);rw [hc, List.take_of_length_le (by simp; omega)] at hy;exact ho _ _ _ _ _ _ _ _ _ hy
theorem fits_cons {t : TypeId} {off : Nat} {l : List (TypeId × Nat)} {α β : Type} {a : Kd α} {b : Kd β} {Qa : α → Prop} {Qb : β → Prop} (ho : Opens P t a Qa) (hc : P.cellsOf t = a.sz) (hr : Fits P l (off + a.sz) b Qb) :
    Fits P ((t, off) :: l) off (Kd.pair a b) (fun x => Qa x.1 ∧ Qb x.2) := by
  intro H enc w base spare held n cs hl h;obtain ⟨y, hy⟩ := h (t, off) (by simp);rw [hc] at hy;obtain ⟨x, hx, qx⟩ := ho _ _ _ _ _ _ _ _ _ hy;have hl' : cs.length = off + (a.sz + b.sz) := hl;obtain ⟨z, hz, qz⟩ := hr _ enc w base spare held n cs (by omega) (fun f hf => h f (by simp [hf]));refine ⟨(x, z), ⟨_, _, ?_, hx, hz⟩, qx, qz⟩;rw [← List.drop_drop, List.take_append_drop]
theorem opens_struct {t : TypeId} {fs : Array Field} {l : List (TypeId × Nat)} {α : Type} {d : Kd α} {Q : α → Prop} (ht : P.underlying t = some (.struct fs)) (hl : fs.toList.map (fun f => (f.type, f.offset)) = l) (hc : P.cellsOf t = d.sz)
    (h : Fits P l 0 d Q) : Opens P t d Q := by
  intro H enc w base spare held fuel cs y hy;obtain ⟨xs, n, _, _, hlen, hxl, hf⟩ := DataW.trod_struct ht hy;subst hl
  obtain ⟨x, hx, qx⟩ := h _ enc w base spare held n cs (by omega) (fun f hf' => by
    obtain ⟨g, hg, rfl⟩ := List.mem_map.mp hf';obtain ⟨i, hi⟩ := List.getElem?_of_mem hg;rw [Array.getElem?_toList] at hi;have h1 := hf i g hi
    have h2 : i < xs.length := by
      rw [hxl];exact (Array.getElem?_eq_some_iff.mp hi).1
    exact ⟨xs[i], by rw [h1]; exact List.getElem?_eq_getElem h2⟩)
  exact ⟨x, by simpa using hx, qx⟩
theorem opens_iso {t : TypeId} {α β : Type} {d : Kd α} {Q : α → Prop} {f : β → α} (g : α → β) (hg : ∀ x, f (g x) = x) (h : Opens P t d Q) : Opens P t (Kd.iso d f) (fun y => Q (f y)) := by
  intro H enc w base spare held fuel cs y hy;obtain ⟨x, hx, qx⟩ := h _ _ _ _ _ _ _ _ _ hy;refine ⟨g x, ?_, ?_⟩
  · show d.K w (f (g x)) cs
    rw [hg];exact hx
  · show Q (f (g x))
    rw [hg];exact qx
theorem arg {t : TypeId} {α : Type} {d : Kd α} {Q : α → Prop} (ho : Opens P t d Q) {H : Type} {enc : TypeId × Value → H} {W : World} {spare : Nat → Bool} {held : Bool} {v : Value} {y : DataW H} {p : List MemPlace}
    (h : DataW.Trod enc P W 0 spare held t v y p) : ∃ x, d.K W x v.cells.toList ∧ Q x := by
  obtain ⟨fuel, hf⟩ := h;exact ho _ _ _ _ _ _ _ _ _ hf
theorem lt_of {t : TypeId} {H : Type} {enc : TypeId × Value → H} {W : World} {spare : Nat → Bool} {held : Bool} {v : Value} {y : DataW H} {p : List MemPlace}
    (h : DataW.Trod enc P W 0 spare held t v y p) : ∀ x ∈ p, x.block < W.heap.size := by
  obtain ⟨m, hm⟩ := h;exact DataW.trod_lt m _ _ _ hm
theorem laid_mem {W : World} {name : String} {d : DataW Unit} : ∀ {l : List (String × DataW Unit)} {ps : List MemPlace}, DataW.LaidVars P W l ps → (name, d) ∈ l →
    ∃ g t cs fuel p, P.globalNamed name = some g ∧ (P.globals[g]?).map (·.type) = some t ∧ W.var? P name = some cs ∧ DataW.trod (fun _ => ()) P W 0 (fun _ => true) false fuel t cs.toList = some (d, p)
  | [], _, _, h => by cases h
  | x :: l, ps, h, hm => by
    obtain ⟨n, d0⟩ := x;obtain ⟨g, t, cs, fuel, p, q, h1, h2, h3, h4, h5, _⟩ := h
    rcases List.mem_cons.mp hm with e | e
    · cases e;exact ⟨g, t, cs, fuel, p, h1, h2, h3, h4⟩
    · exact laid_mem h5 e
theorem tab_cells {W : World} {name : String} {k : IntKind} {zs : List Int} {l : List (String × DataW Unit)} {g : Nat} {t e : TypeId} {n : Nat}
    (h : laidMet P l W) (hm : (name, Lib.tabData k zs) ∈ l) (hg : P.globalNamed name = some g) (hty : (P.globals[g]?).map (·.type) = some t) (ht : P.underlying t = some (.array n e)) (he : P.underlying e = some (.int k)) (hce : P.cellsOf e = 1) (hct : P.cellsOf t = n) :
    ∀ i, i < zs.length → W.cell? ⟨g, i, none⟩ = some (.int k (zs.getD i 0)) := by
  obtain ⟨ps, hv, _⟩ := h;obtain ⟨g', t', cs, fuel, p, hg', ht', hvar, hd⟩ := laid_mem hv hm;obtain rfl := Option.some.inj (hg.symm.trans hg');obtain rfl := Option.some.inj (hty.symm.trans ht');have e1 := Lib.cells_of_tab ht he hce hct hd
  have T : Lib.TabIs P W name k zs := by
    unfold Lib.TabIs;rw [hvar, ← e1]
  exact fun i hi => T.cell hg i hi
end Go.Proofs.YtjogkfcjlljjcaaDoor.Rk
namespace Go.Proofs.YtjogkfcjlljjcaaDoor.P
open Go.RowKit Go.Proofs.YtjogkfcjlljjcaaDoorW.PrintWords
def Q100 (x : S100) : Prop := (Lit.int .i64 x.f0).wf = true ∧ (Lit.int .i64 x.f1).wf = true
theorem o100 : Rk.Opens Tryd.prog 100 k100 Q100 :=
  Rk.opens_iso (fun p => ⟨p.1, p.2⟩) (fun _ => rfl) (Rk.opens_struct Tryd.underlying100 (l := [(3, 0), (3, 1)]) (by kernel_rfl) (by kernel_rfl) (Rk.fits_cons (Rk.opens_int Tryd.underlying3) (by kernel_rfl) (Rk.fits_one (Rk.opens_int Tryd.underlying3) (by kernel_rfl))))
def Q31 (x : S31) : Prop := (Lit.int .i64 x.f0).wf = true ∧ (Lit.int .i64 x.f1).wf = true ∧ x.f2.size ≤ 9223372036854775807 ∧ (Lit.int .i64 x.f3).wf = true ∧ (Lit.int .i64 x.f4).wf = true ∧ x.f5.size ≤ 9223372036854775807 ∧ True ∧ (x.f7.length ≤ 9223372036854775807 ∧ ∀ y0 ∈ x.f7, Q100 y0) ∧ (Lit.int .u64 x.f8).wf = true ∧ (Lit.int .u64 x.f9).wf = true ∧ (Lit.int .u64 x.f10).wf = true ∧ (Lit.int .i64 x.f11).wf = true ∧ True ∧ (Lit.int .i64 x.f13).wf = true
theorem o31 : Rk.Opens Tryd.prog 31 k31 Q31 :=
  Rk.opens_iso (fun p => ⟨p.1, p.2.1, p.2.2.1, p.2.2.2.1, p.2.2.2.2.1, p.2.2.2.2.2.1, p.2.2.2.2.2.2.1, p.2.2.2.2.2.2.2.1, p.2.2.2.2.2.2.2.2.1, p.2.2.2.2.2.2.2.2.2.1, p.2.2.2.2.2.2.2.2.2.2.1, p.2.2.2.2.2.2.2.2.2.2.2.1, p.2.2.2.2.2.2.2.2.2.2.2.2.1, p.2.2.2.2.2.2.2.2.2.2.2.2.2⟩) (fun _ => rfl) (Rk.opens_struct Tryd.underlying31 (l := [(3, 0), (3, 1), (9, 2), (3, 3), (3, 4), (9, 5), (4, 6), (28, 7), (29, 8), (29, 9), (29, 10), (3, 11), (4, 12), (3, 13)]) (by kernel_rfl) (by kernel_rfl) (Rk.fits_cons (Rk.opens_int Tryd.underlying3) (by kernel_rfl) (Rk.fits_cons (Rk.opens_int Tryd.underlying3) (by kernel_rfl) (Rk.fits_cons (Rk.opens_string Tryd.underlying9) (by kernel_rfl) (Rk.fits_cons (Rk.opens_int Tryd.underlying3) (by kernel_rfl) (Rk.fits_cons (Rk.opens_int Tryd.underlying3) (by kernel_rfl) (Rk.fits_cons (Rk.opens_string Tryd.underlying9) (by kernel_rfl) (Rk.fits_cons (Rk.opens_bool Tryd.underlying4) (by kernel_rfl) (Rk.fits_cons (Rk.opens_slice Tryd.underlying28 (by kernel_rfl) o100) (by kernel_rfl) (Rk.fits_cons (Rk.opens_int Tryd.underlying29) (by kernel_rfl) (Rk.fits_cons (Rk.opens_int Tryd.underlying29) (by kernel_rfl) (Rk.fits_cons (Rk.opens_int Tryd.underlying29) (by kernel_rfl) (Rk.fits_cons (Rk.opens_int Tryd.underlying3) (by kernel_rfl) (Rk.fits_cons (Rk.opens_bool Tryd.underlying4) (by kernel_rfl) (Rk.fits_one (Rk.opens_int Tryd.underlying3) (by kernel_rfl))))))))))))))))
end Go.Proofs.YtjogkfcjlljjcaaDoor.P
