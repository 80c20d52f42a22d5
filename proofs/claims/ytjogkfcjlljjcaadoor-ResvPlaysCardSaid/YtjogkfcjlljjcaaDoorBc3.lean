-- joined by this session's wip/tools/pack.py: words of the kit's print, cut to what the claim names; functions printed by a patched copy of the printer; walks and lemmas of this session; Lean checks it
import Derived.Test.YtjogkfcjlljjcaaDoorBc2
import Derived.Maps.Own
import Derived.Maps.OwnOps
import Derived.Maps.OwnSet
import Derived.Maps.Views
import Derived.Carry
import Derived.Lib.SliceRun
import Derived.Deep.QuietTactic
import Derived.BigQuiet
import Derived.OwnWalk
set_option maxHeartbeats 40000000
set_option maxRecDepth 100000
namespace Go.Proofs.YtjogkfcjlljjcaaDoor.P
open Go.RowKit Go.Proofs.YtjogkfcjlljjcaaDoorW.PrintWords Go.Proofs.YtjogkfcjlljjcaaDoorW.PrintLast Go.Proofs.YtjogkfcjlljjcaaDoorW.PrintMore
attribute [local go_sem] max2_int min2_int max_two min_two max_three min_three max_four min_four   -- for this text's walks alone
set_option linter.unusedVariables false
set_option linter.unusedSimpArgs false
set_option linter.unnecessarySimpa false
theorem goesV_ {P : Program} {ops : Array Oper} {Q : Exit → Act → World → Prop} {oi : Oper} {N : Option Tmp} {a : Act} {w : World} {K : Act → World → Prop} {f : FuncId} {fn : Func} {xs_ : Array Operand} {ts : Array TypeId} (hf : P.funcs[f]? = some fn) (hname : (fn.name == "runtime.NumGoroutine") = false) (hb : fn.body.isSome = true) (x : Operand) (first cap : Array Value) (hv : a.eval x = .func (.func f) first cap) (args : Array Value)
  (hw : Region.wanted oi (yielded ops a.tmps) = true) (hN : oi.dst = N) (hop : oi.op = .call { callee := .value x, args := xs_, argTypes := ts }) (hargs : first ++ xs_.map a.eval ++ cap = args)
  (h : Calls P f args w fun e w' => ∃ v, e = .returned v ∧ K (a.put N v) w') : if Region.wanted oi (yielded ops a.tmps) = true then Oper.wp P oi a w K Q else K (a.put N undef) w := by
 refine call_ f args hw hN ?_ h;have he := enters_ hf hname hb args w;unfold execOp;simp [hop, resolve, Deferred.ofValue, invoke, hv, hargs, he]
theorem deed_value {P : Program} {Q : Exit → Act → World → Prop} {ops : Array Oper} {oi : Oper} {N : Option Tmp} {a : Act} {w w1 : World} {v : Value} {K : Act → World → Prop} (hw : Region.wanted oi (yielded ops a.tmps) = true) (hN : oi.dst = N) (hrun : (execOp a.eval oi).run P w = .ok (.value v) w1) (h : K (a.put N v) w1) : if Region.wanted oi (yielded ops a.tmps) = true then Oper.wp P oi a w K Q else K (a.put N undef) w := by
  rw [if_pos hw];subst hN;unfold Oper.wp;rw [hrun];exact h
def dcells (c : S31) (rg u : Value) (typ : Int) (host : ByteArray) (gen : Int) (apt : Bool) (ue : Value) : Array Value := #[.int .i64 c.f0, .int .i64 c.f1, .string c.f2, .int .i64 c.f3, .int .i64 c.f4, .string c.f5, .bool c.f6, rg, .int .u64 c.f8, .int .u64 c.f9, .int .u64 c.f10, .int .i64 c.f11, .bool c.f12, .int .i64 c.f13, u, .int .i64 typ, .string host, .int .u32 gen, .bool apt, ue]
theorem row_grown {α β : Type} {d : Kd α} {d2 : Kd β} {e e2 base base2 : Nat} {w w1 : World} {ok ok2 : Nat → Prop} {v v2 : Value} {xs : List α} {ys : List β} (h : d.R e w base ok v xs) (h2 : d2.R e2 w base2 ok2 v2 ys) (he : ∀ q, q ∈ e :: d.E → q ≠ e2) (hg : w.grownBy w1 v2.ownBlock) : d.R e w1 base ok v xs := by
  refine Kd.R_mono (Kd.R_step (Kd.R_bound h) (fun k hk hlt => hg.block k hlt ?_)) (fun _ hk => hk.1);intro hown;obtain ⟨_, _, _, q, hq, cells, hc⟩ := hk;obtain ⟨_, inner, ho, _⟩ := h2;obtain ⟨cells2, hc2⟩ := own_typed ho k hown.symm;rw [hc] at hc2
  injection hc2 with hc2
  injection hc2 with _ hc2
  exact he q hq hc2
structure Dd (w0 w : World) (gd : Nat) (c : S31) (rg u : Value) (l : List S53) (typ : Int) (host : ByteArray) (gen : Int) (apt : Bool) (ue : Value) (ev : List S46) : Prop where
  o : w0.heap.size ≤ gd
  b : w.heap[gd]? = some (.cells (dcells c rg u typ host gen apt ue) 66 (0, 0))
  r : Kd.R k53 53 w w0.heap.size (fun _ => True) u l
  re : Kd.R k46 46 w w0.heap.size (fun _ => True) ue ev
  hb : Below w0.heap.size w0 w
section
variable {w0 w w1 : World} {gd : Nat} {c : S31} {rg u u' ue ue' : Value} {l l' : List S53} {typ typ' : Int} {host host' : ByteArray} {gen gen' : Int} {apt apt' : Bool} {ev ev' : List S46}
theorem Dd.below (h : Dd w0 w gd c rg u l typ host gen apt ue ev) (hb : Below w.heap.size w w1) : Dd w0 w1 gd c rg u l typ host gen apt ue ev :=
  ⟨h.o, blk_below h.b hb, Kd.R_below h.r hb, Kd.R_below h.re hb, below_step h.hb hb⟩
theorem Dd.put (h : Dd w0 w gd c rg u l typ host gen apt ue ev) (j : Nat) (v : Value) (e : (dcells c rg u typ host gen apt ue).setIfInBounds j v = dcells c rg u typ' host' gen' apt' ue) : Dd w0 (w.setCell ⟨gd, j, none⟩ v) gd c rg u l typ' host' gen' apt' ue ev :=
  ⟨h.o, blk_put h.b j v e, Kd.R_mono (Kd.R_far (p := ⟨gd, j, none⟩) (Kd.R_types h.r h.b (by decide)) (fun _ hk => hk.2) v) (fun _ hk => hk.1), Kd.R_mono (Kd.R_far (p := ⟨gd, j, none⟩) (Kd.R_types h.re h.b (by decide)) (fun _ hk => hk.2) v) (fun _ hk => hk.1), below_set h.hb h.o⟩
end
theorem deed_exit {Q : Exit → Act → World → Prop} {e : Exit} {a : Act} {w : World} (S : World → Prop) (hS : S w) (h : ∀ w', S w' → Q e a w') : Q e a w := h w hS
theorem deed_then {K : Act → World → Prop} {Q : Exit → Act → World → Prop} {e : Exit} {a : Act} {w : World} (S : World → Prop) (hS : S w) (h : ∀ w', S w' → Exit.then K Q e a w') : Exit.then K Q e a w := h w hS
theorem deed_call {P : Program} {n : Nat} {args : Array Value} {w : World} {Q : Ending → World → Prop} (S : World → Prop) (hS : S w) (h : ∀ w', S w' → Calls P n args w' Q) : Calls P n args w Q := h w hS
theorem all_calls (s : ByteArray) (ky : Int) (w : World) : Calls Tryd.prog 56 #[.agg #[.string s, .int .u64 ky]] w fun e w' => e = .returned (.bool true) ∧ Below w.heap.size w w' := by
 have hu53 := Tryd.underlying53;have HB := aS_ (Below.refl w.heap.size w);go_enter Tryd.func56, Tryd.ntmps56
 go_wp2_with (first
  | ((with_reducible refine gate_dst (N := 1) rfl ?_); refine bX_ (N := 1) (cs := #[.string s, .int .u64 ky]) (t := 53) ?hr ?_; (case hr => first | (go_simp; done) | (go_simp; rfl)); intro gr hg w1 hbox hb; have n1_ := aS_ (below_step HB.out hb); clear HB; have HB := n1_; clear n1_ hb hbox hg))
 go_ret;exact ⟨rfl, HB.out⟩
theorem itself_calls (gd : Nat) (c : S31) (rg u ue : Value) (typ : Int) (host : ByteArray) (gen : Int) (apt : Bool) (s : ByteArray) (ky : Int) (w : World) (hb0 : w.heap[gd]? = some (.cells (dcells c rg u typ host gen apt ue) 66 (0, 0))) : Calls Tryd.prog 53 #[.pointer (some ⟨gd, 0, none⟩), .agg #[.string s, .int .u64 ky]] w fun e w' => e = .returned (.bool (s.toList == c.f2.toList)) ∧ Below w.heap.size w w' := by
 have hu53 := Tryd.underlying53;have hu66 := Tryd.underlying66;have hu31 := Tryd.underlying31;have HB := aS_ (Below.refl w.heap.size w);have BK := aS_ hb0;clear hb0;go_enter Tryd.func53, Tryd.ntmps53
 go_wp2_with (first
  | ((with_reducible refine gate_dst (N := 3) rfl ?_); refine bX_ (N := 3) (cs := #[.string s, .int .u64 ky]) (t := 53) ?hr ?_; (case hr => first | (go_simp; done) | (go_simp; rfl)); intro gr hg w1 hbox hb; have n1_ := aS_ (below_step HB.out hb); have n2_ := blk_below BK.out hb; clear HB BK; have HB := n1_; have hcr0 : w1.cell? ⟨gr, 0, none⟩ = some (.string s) := bC_ hbox 0 rfl; have hcd2 : w1.cell? ⟨gd, 2, none⟩ = some (.string c.f2) := bC_ n2_ 2 rfl; clear n1_ n2_ hb hbox hg))
 go_quiet (fail)
 go_wp2;go_ret;exact ⟨rfl, pw_below_drewN HB.out _⟩
def takenBy (c : S31) : ByteArray := if c.f11 = 5 ∨ c.f11 = 6 then (⟨#[]⟩ : ByteArray) else c.f2
theorem take_calls (w0 : World) (gd : Nat) (c : S31) (rg u ue : Value) (l : List S53) (ev : List S46) (typ : Int) (host : ByteArray) (gen : Int) (apt : Bool) (w : World) (hd : Dd w0 w gd c rg u l typ host gen apt ue ev) :
  Calls Tryd.prog 58 #[.pointer (some ⟨gd, 0, none⟩)] w fun e w' => e = .returned (.tuple #[]) ∧ Dd w0 w' gd c rg u l c.f11 (takenBy c) gen apt ue ev := by
 unfold takenBy;have hu66 := Tryd.underlying66;have hu31 := Tryd.underlying31;have hu27 := Tryd.underlying27;have hu24 := Tryd.underlying24;have D := aS_ hd;clear hd;have hcd2 : w.cell? ⟨gd, 2, none⟩ = some (.string c.f2) := bC_ D.out.b 2 rfl;have hcd11 : w.cell? ⟨gd, 11, none⟩ = some (.int .i64 c.f11) := bC_ D.out.b 11 rfl;have hcd15 : w.cell? ⟨gd, 15, none⟩ = some (.int .i64 typ) := bC_ D.out.b 15 rfl;have hcd16 : w.cell? ⟨gd, 16, none⟩ = some (.string host) := bC_ D.out.b 16 rfl;have hfd15 := bF_ D.out.b 15;have hfd16 := bF_ D.out.b 16;by_cases h5 : c.f11 = 5 ∨ c.f11 = 6
 ·rw [if_pos h5]
  have HE : Aside0 (resv_everybody.f c.f11 = some true) := ⟨by
   unfold resv_everybody.f;by_cases h5' : c.f11 = 5
   ·rw [if_pos h5']
   ·rw [if_neg h5', beq_iff_eq.mpr (show c.f11 = 6 by omega)]⟩
  clear h5;go_enter Tryd.func58, Tryd.ntmps58;go_wp2
  go_region_with (fail)
  all_goals
   refine deed_then (fun w' => Dd w0 w' gd c rg u l c.f11 c.f2 gen apt ue ev) (((D.out.put 15 _ rfl).put 16 _ rfl).below (below_drew (Below.refl _ _))) ?_;intro w1 hd_;clear D hcd2 hcd11 hcd15 hcd16 hfd15 hfd16;have D := aS_ hd_;clear hd_;have hcd11 : w1.cell? ⟨gd, 11, none⟩ = some (.int .i64 c.f11) := bC_ D.out.b 11 rfl
   go_wp2_with (first
    | (go_at_call 46; refine (resv_everybody.calls c.f11 true _ HE.out).mono ?_; rintro e w2 ⟨rfl, hd⟩; have n1_ := aS_ (D.out.below hd.below); clear D hd hcd11; have D := n1_; clear n1_; have hcd16 : w2.cell? ⟨gd, 16, none⟩ = some (.string c.f2) := bC_ D.out.b 16 rfl; have hfd16 := bF_ D.out.b 16))
   go_end0
   exact ⟨rfl, D.out.put 16 _ rfl⟩
 ·rw [if_neg h5]
  have HE : Aside0 (resv_everybody.f c.f11 = some false) := ⟨by
   unfold resv_everybody.f
   rw [if_neg (by omega), beq_eq_false_iff_ne.mpr (show c.f11 ≠ 6 by omega)]⟩
  clear h5;go_enter Tryd.func58, Tryd.ntmps58;go_wp2
  go_region_with (fail)
  all_goals
   refine deed_then (fun w' => Dd w0 w' gd c rg u l c.f11 c.f2 gen apt ue ev) (((D.out.put 15 _ rfl).put 16 _ rfl).below (below_drew (Below.refl _ _))) ?_;intro w1 hd_;clear D hcd2 hcd11 hcd15 hcd16 hfd15 hfd16;have D := aS_ hd_;clear hd_;have hcd11 : w1.cell? ⟨gd, 11, none⟩ = some (.int .i64 c.f11) := bC_ D.out.b 11 rfl
   go_wp2_with (first
    | (go_at_call 46; refine (resv_everybody.calls c.f11 false _ HE.out).mono ?_; rintro e w2 ⟨rfl, hd⟩; have n1_ := aS_ (D.out.below hd.below); clear D hd hcd11; have D := n1_; clear n1_; have hcd16 : w2.cell? ⟨gd, 16, none⟩ = some (.string c.f2) := bC_ D.out.b 16 rfl; have hfd16 := bF_ D.out.b 16))
   go_end0
   exact ⟨rfl, D.out⟩
theorem asks_calls (k : Nat) (w0 : World) (gd : Nat) (c : S31) (rg u ue : Value) (l : List S53) (ev : List S46) (typ : Int) (host : ByteArray) (gen : Int) (apt : Bool) (kk : Int) (w : World) (hd : Dd w0 w gd c rg u l typ host gen apt ue ev) (hk : resv_Key.f k l typ host gen apt c.f2 = some kk) :
  Calls Tryd.prog 57 #[.pointer (some ⟨gd, 0, none⟩)] w fun e w' => e = .returned (.bool (kk != 0 && kk == c.f8)) ∧ Below w.heap.size w w' := by
 have hu66 := Tryd.underlying66;have hu31 := Tryd.underlying31;have hu27 := Tryd.underlying27;have hu24 := Tryd.underlying24;have D := aS_ hd;have HK := aS_ hk;have HB := aS_ (Below.refl w.heap.size w);obtain ⟨Au, cu, eu⟩ := Kd.R_slice hd.r;subst eu;clear hd hk;have hcd2 : w.cell? ⟨gd, 2, none⟩ = some (.string c.f2) := bC_ D.out.b 2 rfl;have hcd8 : w.cell? ⟨gd, 8, none⟩ = some (.int .u64 c.f8) := bC_ D.out.b 8 rfl;have hcd14 : w.cell? ⟨gd, 14, none⟩ = some (.slice Au l.length cu) := bC_ D.out.b 14 rfl;have hcd15 : w.cell? ⟨gd, 15, none⟩ = some (.int .i64 typ) := bC_ D.out.b 15 rfl;have hcd16 : w.cell? ⟨gd, 16, none⟩ = some (.string host) := bC_ D.out.b 16 rfl;have hcd17 : w.cell? ⟨gd, 17, none⟩ = some (.int .u32 gen) := bC_ D.out.b 17 rfl;have hcd18 : w.cell? ⟨gd, 18, none⟩ = some (.bool apt) := bC_ D.out.b 18 rfl;cases hz : (kk != 0)
 all_goals
  go_enter Tryd.func57, Tryd.ntmps57;go_wp2
  go_region_with (first
   | (go_at_call 24; refine (resv_Key.calls k Au cu l typ host gen apt c.f2 kk _ ?side1 ?side2 HK.out).mono ?_; (case side1 => exact (Kd.R_reads' (D.out.below (below_drew (Below.refl _ _))).r).2.2); (case side2 => exact (Kd.R_reads' D.out.r).2.1); rintro e w2 ⟨rfl, hb⟩; have D2 := aS_ ((D.out.below (below_drew (Below.refl _ _))).below hb); have n1_ := aS_ (below_step (below_drew HB.out) hb); clear HB hb hcd2 hcd8 hcd14 hcd15 hcd16 hcd17 hcd18; have HB := n1_; clear n1_; have hcd8 : w2.cell? ⟨gd, 8, none⟩ = some (.int .u64 c.f8) := bC_ D2.out.b 8 rfl))
  all_goals
   clear D;go_wp2;go_ret;exact ⟨by simp, HB.out⟩
def struckP (c : S31) (whole : Bool) (s : ByteArray) (ky : Int) : Bool := !(s.toList == c.f2.toList) && (whole || ky == c.f10)
theorem struck_calls (gd gp gq : Nat) (c : S31) (rg u ue : Value) (typ : Int) (host : ByteArray) (gen : Int) (apt : Bool) (whole : Bool) (s : ByteArray) (ky : Int) (w : World) (hb0 : w.heap[gd]? = some (.cells (dcells c rg u typ host gen apt ue) 66 (0, 0))) (hp : w.heap[gp]? = some (.cells #[.pointer (some ⟨gd, 0, none⟩)] 63 (0, 0))) (hq : w.heap[gq]? = some (.cells #[.bool whole] 4 (0, 0))) :
    Calls Tryd.prog 59 #[.agg #[.string s, .int .u64 ky], .pointer (some ⟨gp, 0, none⟩), .pointer (some ⟨gq, 0, none⟩)] w fun e w' => e = .returned (.bool (struckP c whole s ky)) ∧ Below w.heap.size w w' := by
  have hu53 := Tryd.underlying53;have hu66 := Tryd.underlying66;have hu31 := Tryd.underlying31;have HB := aS_ (Below.refl w.heap.size w);have BK := aS_ hb0;have BP := aS_ hp;have BQ := aS_ hq;clear hb0 hp hq;unfold struckP
  have main : ∀ (b1 b2 : Bool), (s.toList == c.f2.toList) = b1 → (ky == c.f10) = b2 → Calls Tryd.prog 59 #[.agg #[.string s, .int .u64 ky], .pointer (some ⟨gp, 0, none⟩), .pointer (some ⟨gq, 0, none⟩)] w fun e w' => e = .returned (.bool (!b1 && (whole || b2))) ∧ Below w.heap.size w w' := by
    intro b1 b2 h1 h2;have H1 := aS_ h1;clear h1
    cases b1 <;> cases whole
    · go_enter Tryd.func59, Tryd.ntmps59
      go_wp2_with (first
        | ((with_reducible refine gate_dst (N := 3) rfl ?_); refine bX_ (N := 3) (cs := #[.string s, .int .u64 ky]) (t := 53) ?hr ?_; (case hr => first | (go_simp; done) | (go_simp; rfl)); intro gr hg w1 hbox hb; have n1_ := aS_ (below_step HB.out hb); have n2_ := aS_ (blk_below BK.out hb); have n3_ := aS_ (blk_below BP.out hb); have n4_ := aS_ (blk_below BQ.out hb); clear HB BK BP BQ; have HB := n1_; have BKD := n2_; have BKP := n3_; have BKQ := n4_; have BKR := aS_ hbox; clear n1_ n2_ n3_ n4_ hb hbox hg))
      have n0_ := aS_ (blk_drew BKD.out);have n1_ := aS_ (blk_drew BKP.out);have n2_ := aS_ (blk_drew BKQ.out);have n3_ := aS_ (blk_drew BKR.out);have nb_ := aS_ (below_drew1 HB.out);clear HB BKD BKP BKQ BKR;have BKD := n0_;have BKP := n1_;have BKQ := n2_;have BKR := n3_;have HB := nb_;clear nb_ n0_ n1_ n2_ n3_;refine start_ (n := 18) (S := fun w' => w'.cell? ⟨gp, 0, none⟩ = some (.pointer (some ⟨gd, 0, none⟩)) ∧ w'.cell? ⟨gr, 0, none⟩ = some (.string s) ∧ w'.cell? ⟨gr, 1, none⟩ = some (.int .u64 ky) ∧ w'.cell? ⟨gq, 0, none⟩ = some (.bool false) ∧ w'.cell? ⟨gd, 10, none⟩ = some (.int .u64 c.f10)) (ds := []) #[false, false, false, false, false, false, false, false, false, false, false, false, false, false, false, false, false, false] (by kernel_rfl) rfl rfl ⟨bC_ BKP.out 0 rfl, bC_ BKR.out 0 rfl, bC_ BKR.out 1 rfl, bC_ BKQ.out 0 rfl, bC_ BKD.out 10 rfl⟩ (fun hHeld => ?_);generalize w1.drew = w2 at HB hHeld BKD BKP BKQ BKR ⊢;refine qtk_ 0 (some 5) (dB 18 1) hHeld ?_;refine qtk_ 1 (some 6) (dB 18 3) hHeld ?_;refine one_ (i := 2) (N := some 7) (dB 18 7) rfl rfl (by kernel_rfl) (by decide) (fun K hK => ?_);refine goes_ Tryd.func53 (by kernel_rfl) rfl #[.pointer (some ⟨gd, 0, none⟩), .agg #[.string s, .int .u64 ky]] (by rfl) rfl rfl (by simp only [List.map_toArray, List.map_cons, List.map_nil]; rfl) ?_
      with_reducible refine (itself_calls gd c rg u ue typ host gen apt s ky _ BKD.out).mono ?_
      rw [H1.out];rintro e_ w3 ⟨rfl, hb⟩;have n1_ := aS_ (blk_below BKD.out hb);have n2_ := aS_ (blk_below BKP.out hb);have n3_ := aS_ (blk_below BKQ.out hb);have n4_ := aS_ (blk_below BKR.out hb);have n5_ := aS_ (below_step HB.out hb);clear BKD BKP BKQ BKR HB hb;have BKD := n1_;have BKP := n2_;have BKQ := n3_;have BKR := n4_;have HB := n5_;clear n1_ n2_ n3_ n4_ n5_;refine ⟨_, rfl, ?_⟩;refine hK.out _ _ ⟨bC_ BKP.out 0 rfl, bC_ BKR.out 0 rfl, bC_ BKR.out 1 rfl, bC_ BKQ.out 0 rfl, bC_ BKD.out 10 rfl⟩ (fun hHeld => ?_);clear hK K;refine norm_ (a' := ?_) ?_ ?_
      rotate_left
      ·show Act.put _ (some 7) _ = _
       simp only [Act.put, la_, lb_, lc_, i64_w, i32_w];rfl
      refine qon_ 3 (some 8) (dB 18 15) ?_;refine qon_ 4 (some 9) (dB 18 31) ?_;refine qtk_ 5 (some 10) (dB 18 63) hHeld ?_;refine qon_ 6 (some 11) (dB 18 127) ?_;refine qon_ 7 (some 12) (dB 18 255) ?_;refine qtk_ 8 (some 13) (dB 18 511) hHeld ?_;refine qtk_ 9 (some 14) (dB 18 1023) hHeld ?_;refine qon_ 10 (some 15) (dB 18 2047) ?_;refine qon_ 11 (some 16) (dB 18 4095) ?_;refine qon_ 12 (some 17) (dB 18 8191) ?_;refine qtk_ 13 (some 18) (dB 18 16383) hHeld ?_;refine qon_ 14 (some 19) (dB 18 32767) ?_;refine qon_ 15 (some 20) (dB 18 65535) ?_;refine qon_ 16 (some 21) (dB 18 131071) ?_;refine qon_ 17 (some 4) (dB 18 262143) ?_;refine done_ (by kernel_rfl) ?_;go_wp2;go_ret;exact ⟨by first | rfl | simp, HB.out⟩
    · go_enter Tryd.func59, Tryd.ntmps59
      go_wp2_with (first
        | ((with_reducible refine gate_dst (N := 3) rfl ?_); refine bX_ (N := 3) (cs := #[.string s, .int .u64 ky]) (t := 53) ?hr ?_; (case hr => first | (go_simp; done) | (go_simp; rfl)); intro gr hg w1 hbox hb; have n1_ := aS_ (below_step HB.out hb); have n2_ := aS_ (blk_below BK.out hb); have n3_ := aS_ (blk_below BP.out hb); have n4_ := aS_ (blk_below BQ.out hb); clear HB BK BP BQ; have HB := n1_; have BKD := n2_; have BKP := n3_; have BKQ := n4_; have BKR := aS_ hbox; clear n1_ n2_ n3_ n4_ hb hbox hg))
      have n0_ := aS_ (blk_drew BKD.out);have n1_ := aS_ (blk_drew BKP.out);have n2_ := aS_ (blk_drew BKQ.out);have n3_ := aS_ (blk_drew BKR.out);have nb_ := aS_ (below_drew1 HB.out);clear HB BKD BKP BKQ BKR;have BKD := n0_;have BKP := n1_;have BKQ := n2_;have BKR := n3_;have HB := nb_;clear nb_ n0_ n1_ n2_ n3_;refine start_ (n := 18) (S := fun w' => w'.cell? ⟨gp, 0, none⟩ = some (.pointer (some ⟨gd, 0, none⟩)) ∧ w'.cell? ⟨gr, 0, none⟩ = some (.string s) ∧ w'.cell? ⟨gr, 1, none⟩ = some (.int .u64 ky) ∧ w'.cell? ⟨gq, 0, none⟩ = some (.bool true) ∧ w'.cell? ⟨gd, 10, none⟩ = some (.int .u64 c.f10)) (ds := []) #[false, false, false, false, false, false, false, false, false, false, false, false, false, false, false, false, false, false] (by kernel_rfl) rfl rfl ⟨bC_ BKP.out 0 rfl, bC_ BKR.out 0 rfl, bC_ BKR.out 1 rfl, bC_ BKQ.out 0 rfl, bC_ BKD.out 10 rfl⟩ (fun hHeld => ?_);generalize w1.drew = w2 at HB hHeld BKD BKP BKQ BKR ⊢;refine qtk_ 0 (some 5) (dB 18 1) hHeld ?_;refine qtk_ 1 (some 6) (dB 18 3) hHeld ?_;refine one_ (i := 2) (N := some 7) (dB 18 7) rfl rfl (by kernel_rfl) (by decide) (fun K hK => ?_);refine goes_ Tryd.func53 (by kernel_rfl) rfl #[.pointer (some ⟨gd, 0, none⟩), .agg #[.string s, .int .u64 ky]] (by rfl) rfl rfl (by simp only [List.map_toArray, List.map_cons, List.map_nil]; rfl) ?_
      with_reducible refine (itself_calls gd c rg u ue typ host gen apt s ky _ BKD.out).mono ?_
      rw [H1.out];rintro e_ w3 ⟨rfl, hb⟩;have n1_ := aS_ (blk_below BKD.out hb);have n2_ := aS_ (blk_below BKP.out hb);have n3_ := aS_ (blk_below BKQ.out hb);have n4_ := aS_ (blk_below BKR.out hb);have n5_ := aS_ (below_step HB.out hb);clear BKD BKP BKQ BKR HB hb;have BKD := n1_;have BKP := n2_;have BKQ := n3_;have BKR := n4_;have HB := n5_;clear n1_ n2_ n3_ n4_ n5_;refine ⟨_, rfl, ?_⟩;refine hK.out _ _ ⟨bC_ BKP.out 0 rfl, bC_ BKR.out 0 rfl, bC_ BKR.out 1 rfl, bC_ BKQ.out 0 rfl, bC_ BKD.out 10 rfl⟩ (fun hHeld => ?_);clear hK K;refine norm_ (a' := ?_) ?_ ?_
      rotate_left
      ·show Act.put _ (some 7) _ = _
       simp only [Act.put, la_, lb_, lc_, i64_w, i32_w];rfl
      refine qon_ 3 (some 8) (dB 18 15) ?_;refine qon_ 4 (some 9) (dB 18 31) ?_;refine qtk_ 5 (some 10) (dB 18 63) hHeld ?_;refine qon_ 6 (some 11) (dB 18 127) ?_;refine qof_ 7 (some 12) (dB 18 255) ?_;refine qof_ 8 (some 13) (dB 18 511) ?_;refine qof_ 9 (some 14) (dB 18 1023) ?_;refine qof_ 10 (some 15) (dB 18 2047) ?_;refine qof_ 11 (some 16) (dB 18 4095) ?_;refine qof_ 12 (some 17) (dB 18 8191) ?_;refine qof_ 13 (some 18) (dB 18 16383) ?_;refine qof_ 14 (some 19) (dB 18 32767) ?_;refine qon_ 15 (some 20) (dB 18 65535) ?_;refine qon_ 16 (some 21) (dB 18 131071) ?_;refine qon_ 17 (some 4) (dB 18 262143) ?_;refine done_ (by kernel_rfl) ?_;go_wp2;go_ret;exact ⟨by first | rfl | simp, HB.out⟩
    · go_enter Tryd.func59, Tryd.ntmps59
      go_wp2_with (first
        | ((with_reducible refine gate_dst (N := 3) rfl ?_); refine bX_ (N := 3) (cs := #[.string s, .int .u64 ky]) (t := 53) ?hr ?_; (case hr => first | (go_simp; done) | (go_simp; rfl)); intro gr hg w1 hbox hb; have n1_ := aS_ (below_step HB.out hb); have n2_ := aS_ (blk_below BK.out hb); have n3_ := aS_ (blk_below BP.out hb); have n4_ := aS_ (blk_below BQ.out hb); clear HB BK BP BQ; have HB := n1_; have BKD := n2_; have BKP := n3_; have BKQ := n4_; have BKR := aS_ hbox; clear n1_ n2_ n3_ n4_ hb hbox hg))
      have n0_ := aS_ (blk_drew BKD.out);have n1_ := aS_ (blk_drew BKP.out);have n2_ := aS_ (blk_drew BKQ.out);have n3_ := aS_ (blk_drew BKR.out);have nb_ := aS_ (below_drew1 HB.out);clear HB BKD BKP BKQ BKR;have BKD := n0_;have BKP := n1_;have BKQ := n2_;have BKR := n3_;have HB := nb_;clear nb_ n0_ n1_ n2_ n3_;refine start_ (n := 18) (S := fun w' => w'.cell? ⟨gp, 0, none⟩ = some (.pointer (some ⟨gd, 0, none⟩)) ∧ w'.cell? ⟨gr, 0, none⟩ = some (.string s) ∧ w'.cell? ⟨gr, 1, none⟩ = some (.int .u64 ky) ∧ w'.cell? ⟨gq, 0, none⟩ = some (.bool false) ∧ w'.cell? ⟨gd, 10, none⟩ = some (.int .u64 c.f10)) (ds := []) #[false, false, false, false, false, false, false, false, false, false, false, false, false, false, false, false, false, false] (by kernel_rfl) rfl rfl ⟨bC_ BKP.out 0 rfl, bC_ BKR.out 0 rfl, bC_ BKR.out 1 rfl, bC_ BKQ.out 0 rfl, bC_ BKD.out 10 rfl⟩ (fun hHeld => ?_);generalize w1.drew = w2 at HB hHeld BKD BKP BKQ BKR ⊢;refine qtk_ 0 (some 5) (dB 18 1) hHeld ?_;refine qtk_ 1 (some 6) (dB 18 3) hHeld ?_;refine one_ (i := 2) (N := some 7) (dB 18 7) rfl rfl (by kernel_rfl) (by decide) (fun K hK => ?_);refine goes_ Tryd.func53 (by kernel_rfl) rfl #[.pointer (some ⟨gd, 0, none⟩), .agg #[.string s, .int .u64 ky]] (by rfl) rfl rfl (by simp only [List.map_toArray, List.map_cons, List.map_nil]; rfl) ?_
      with_reducible refine (itself_calls gd c rg u ue typ host gen apt s ky _ BKD.out).mono ?_
      rw [H1.out];rintro e_ w3 ⟨rfl, hb⟩;have n1_ := aS_ (blk_below BKD.out hb);have n2_ := aS_ (blk_below BKP.out hb);have n3_ := aS_ (blk_below BKQ.out hb);have n4_ := aS_ (blk_below BKR.out hb);have n5_ := aS_ (below_step HB.out hb);clear BKD BKP BKQ BKR HB hb;have BKD := n1_;have BKP := n2_;have BKQ := n3_;have BKR := n4_;have HB := n5_;clear n1_ n2_ n3_ n4_ n5_;refine ⟨_, rfl, ?_⟩;refine hK.out _ _ ⟨bC_ BKP.out 0 rfl, bC_ BKR.out 0 rfl, bC_ BKR.out 1 rfl, bC_ BKQ.out 0 rfl, bC_ BKD.out 10 rfl⟩ (fun hHeld => ?_);clear hK K;refine norm_ (a' := ?_) ?_ ?_
      rotate_left
      ·show Act.put _ (some 7) _ = _
       simp only [Act.put, la_, lb_, lc_, i64_w, i32_w];rfl
      refine qon_ 3 (some 8) (dB 18 15) ?_;refine qon_ 4 (some 9) (dB 18 31) ?_;refine qof_ 5 (some 10) (dB 18 63) ?_;refine qof_ 6 (some 11) (dB 18 127) ?_;refine qof_ 7 (some 12) (dB 18 255) ?_;refine qof_ 8 (some 13) (dB 18 511) ?_;refine qof_ 9 (some 14) (dB 18 1023) ?_;refine qof_ 10 (some 15) (dB 18 2047) ?_;refine qof_ 11 (some 16) (dB 18 4095) ?_;refine qof_ 12 (some 17) (dB 18 8191) ?_;refine qof_ 13 (some 18) (dB 18 16383) ?_;refine qof_ 14 (some 19) (dB 18 32767) ?_;refine qof_ 15 (some 20) (dB 18 65535) ?_;refine qon_ 16 (some 21) (dB 18 131071) ?_;refine qon_ 17 (some 4) (dB 18 262143) ?_;refine done_ (by kernel_rfl) ?_;go_wp2;go_ret;exact ⟨by first | rfl | simp, HB.out⟩
    · go_enter Tryd.func59, Tryd.ntmps59
      go_wp2_with (first
        | ((with_reducible refine gate_dst (N := 3) rfl ?_); refine bX_ (N := 3) (cs := #[.string s, .int .u64 ky]) (t := 53) ?hr ?_; (case hr => first | (go_simp; done) | (go_simp; rfl)); intro gr hg w1 hbox hb; have n1_ := aS_ (below_step HB.out hb); have n2_ := aS_ (blk_below BK.out hb); have n3_ := aS_ (blk_below BP.out hb); have n4_ := aS_ (blk_below BQ.out hb); clear HB BK BP BQ; have HB := n1_; have BKD := n2_; have BKP := n3_; have BKQ := n4_; have BKR := aS_ hbox; clear n1_ n2_ n3_ n4_ hb hbox hg))
      have n0_ := aS_ (blk_drew BKD.out);have n1_ := aS_ (blk_drew BKP.out);have n2_ := aS_ (blk_drew BKQ.out);have n3_ := aS_ (blk_drew BKR.out);have nb_ := aS_ (below_drew1 HB.out);clear HB BKD BKP BKQ BKR;have BKD := n0_;have BKP := n1_;have BKQ := n2_;have BKR := n3_;have HB := nb_;clear nb_ n0_ n1_ n2_ n3_;refine start_ (n := 18) (S := fun w' => w'.cell? ⟨gp, 0, none⟩ = some (.pointer (some ⟨gd, 0, none⟩)) ∧ w'.cell? ⟨gr, 0, none⟩ = some (.string s) ∧ w'.cell? ⟨gr, 1, none⟩ = some (.int .u64 ky) ∧ w'.cell? ⟨gq, 0, none⟩ = some (.bool true) ∧ w'.cell? ⟨gd, 10, none⟩ = some (.int .u64 c.f10)) (ds := []) #[false, false, false, false, false, false, false, false, false, false, false, false, false, false, false, false, false, false] (by kernel_rfl) rfl rfl ⟨bC_ BKP.out 0 rfl, bC_ BKR.out 0 rfl, bC_ BKR.out 1 rfl, bC_ BKQ.out 0 rfl, bC_ BKD.out 10 rfl⟩ (fun hHeld => ?_);generalize w1.drew = w2 at HB hHeld BKD BKP BKQ BKR ⊢;refine qtk_ 0 (some 5) (dB 18 1) hHeld ?_;refine qtk_ 1 (some 6) (dB 18 3) hHeld ?_;refine one_ (i := 2) (N := some 7) (dB 18 7) rfl rfl (by kernel_rfl) (by decide) (fun K hK => ?_);refine goes_ Tryd.func53 (by kernel_rfl) rfl #[.pointer (some ⟨gd, 0, none⟩), .agg #[.string s, .int .u64 ky]] (by rfl) rfl rfl (by simp only [List.map_toArray, List.map_cons, List.map_nil]; rfl) ?_
      with_reducible refine (itself_calls gd c rg u ue typ host gen apt s ky _ BKD.out).mono ?_
      rw [H1.out];rintro e_ w3 ⟨rfl, hb⟩;have n1_ := aS_ (blk_below BKD.out hb);have n2_ := aS_ (blk_below BKP.out hb);have n3_ := aS_ (blk_below BKQ.out hb);have n4_ := aS_ (blk_below BKR.out hb);have n5_ := aS_ (below_step HB.out hb);clear BKD BKP BKQ BKR HB hb;have BKD := n1_;have BKP := n2_;have BKQ := n3_;have BKR := n4_;have HB := n5_;clear n1_ n2_ n3_ n4_ n5_;refine ⟨_, rfl, ?_⟩;refine hK.out _ _ ⟨bC_ BKP.out 0 rfl, bC_ BKR.out 0 rfl, bC_ BKR.out 1 rfl, bC_ BKQ.out 0 rfl, bC_ BKD.out 10 rfl⟩ (fun hHeld => ?_);clear hK K;refine norm_ (a' := ?_) ?_ ?_
      rotate_left
      ·show Act.put _ (some 7) _ = _
       simp only [Act.put, la_, lb_, lc_, i64_w, i32_w];rfl
      refine qon_ 3 (some 8) (dB 18 15) ?_;refine qon_ 4 (some 9) (dB 18 31) ?_;refine qof_ 5 (some 10) (dB 18 63) ?_;refine qof_ 6 (some 11) (dB 18 127) ?_;refine qof_ 7 (some 12) (dB 18 255) ?_;refine qof_ 8 (some 13) (dB 18 511) ?_;refine qof_ 9 (some 14) (dB 18 1023) ?_;refine qof_ 10 (some 15) (dB 18 2047) ?_;refine qof_ 11 (some 16) (dB 18 4095) ?_;refine qof_ 12 (some 17) (dB 18 8191) ?_;refine qof_ 13 (some 18) (dB 18 16383) ?_;refine qof_ 14 (some 19) (dB 18 32767) ?_;refine qof_ 15 (some 20) (dB 18 65535) ?_;refine qon_ 16 (some 21) (dB 18 131071) ?_;refine qon_ 17 (some 4) (dB 18 262143) ?_;refine done_ (by kernel_rfl) ?_;go_wp2;go_ret;exact ⟨by first | rfl | simp, HB.out⟩
  exact main _ _ rfl rfl
def idxP (pred : ByteArray → Int → Bool) (l : List S53) : Int := match l.findIdx? (fun x => pred x.f0 x.f1) with | some i => (i : Int) | none => -1
theorem rd_lt (l : List S53) (j : Nat) (hj : j < l.length) : rd_T53 l (j : Int) = l[j] := by
  unfold rd_T53;rw [List.getD_eq_getElem?_getD, Int.toNat_natCast, List.getElem?_eq_getElem hj];rfl
theorem idx_found (pred : ByteArray → Int → Bool) (l : List S53) (i : Nat) (hi : i < l.length) (h : pred (rd_T53 l i).f0 (rd_T53 l i).f1 = true) (hb : ∀ j, j < i → pred (rd_T53 l j).f0 (rd_T53 l j).f1 = false) : idxP pred l = i := by
 unfold idxP
 have : l.findIdx? (fun x => pred x.f0 x.f1) = some i := by
  rw [List.findIdx?_eq_some_iff_getElem];refine ⟨hi, by rw [rd_lt l i hi] at h; exact h, fun j hj => ?_⟩;have := hb j hj;rw [rd_lt l j (by omega)] at this;simp [this]
 rw [this]
theorem idx_none (pred : ByteArray → Int → Bool) (l : List S53) (hb : ∀ j, j < l.length → pred (rd_T53 l j).f0 (rd_T53 l j).f1 = false) : idxP pred l = -1 := by
 unfold idxP
 have : l.findIdx? (fun x => pred x.f0 x.f1) = none := by
  rw [List.findIdx?_eq_none_iff];intro x hx;obtain ⟨j, hj, rfl⟩ := List.getElem_of_mem hx;have := hb j hj
  rwa [rd_lt l j hj] at this
 rw [this]
theorem deed_step (i : Nat) (h : i ≤ 1000) : wrap64 ((i : Int) + 1) = (i : Int) + 1 := by unfold wrap64; omega
theorem deed_next (i : Nat) (h : i ≤ 1000) : Value.int .i64 (wrap64 ((i : Int) + 1)) = .int .i64 ((i + 1 : Nat) : Int) := by rw [deed_step i h, Int.natCast_add]; rfl
theorem deed_less (i n : Nat) (h : i ≤ 1000) (hn : i < n) : n - (intOf (.int .i64 (wrap64 ((i : Int) + 1)))).toNat < n - (intOf (.int .i64 (i : Int))).toNat := by
  rw [deed_step i h];simp [intOf];omega
theorem index_itself (pred : ByteArray → Int → Bool) (gd : Nat) (A0 : Option Addr) (c0 : Nat) (l : List S53) (w : World) (hr0 : Kd.C k53 w A0 l.length l) (hn : l.length ≤ 1000) (hcl : ∀ (s : ByteArray) (ky : Int) (w1 : World), Below w.heap.size w w1 → Calls Tryd.prog 53 #[.pointer (some ⟨gd, 0, none⟩), .agg #[.string s, .int .u64 ky]] w1 fun e w2 => e = .returned (.bool (pred s ky)) ∧ Below w1.heap.size w1 w2) :
  Calls Tryd.prog 52 #[.slice A0 l.length c0, (.func (.func 53) #[.pointer (some ⟨gd, 0, none⟩)] #[])] w fun e w' => e = .returned (.int .i64 (idxP pred l)) ∧ Below w.heap.size w w' := by
 have hu53 := Tryd.underlying53;have HC := aS_ hr0;have HN := aS_ hn;have HCL := aS_ hcl
 obtain ⟨r, hr⟩ : ∃ r, r = idxP pred l := ⟨_, rfl⟩
 rw [← hr];have HR := aS_ hr;clear hr0 hn hcl hr;have HB := aS_ (Below.refl w.heap.size w);go_enter Tryd.func52, Tryd.ntmps52;go_wp2
 go_loopw [8] (fun iv wr => ∃ i : Nat, i ≤ l.length ∧ iv = .int .i64 i ∧ Aside0 (∀ j, j < i → pred (rd_T53 l j).f0 (rd_T53 l j).f1 = false) ∧ Aside0 (Below w.heap.size w wr)) (fun iv _ => l.length - (intOf iv).toNat)
 case atStart => exact ⟨0, Nat.zero_le _, rfl, ⟨fun j hj => absurd hj (Nat.not_lt_zero j)⟩, HB⟩
 case round =>
  clear HB;obtain ⟨i, hi, rfl, OK, HB⟩ := hrel;by_cases hlt : i < l.length
  ·have HI := aS_ (show i ≤ 1000 by have := HN.out; omega);have HLT := aS_ hlt;have p0 : (0 : Int) ≤ (i : Int) := Int.natCast_nonneg i
   have q0 : (i : Int) < (l.length : Int) := by omega
   obtain ⟨ad, ea, hx0, hx1⟩ := at_T53 HC.out (i : Int) p0 q0;cases ea;replace hx0 := cB_ HB.out hx0;replace hx1 := cB_ HB.out hx1
   obtain ⟨s, hs⟩ : ∃ s, s = (rd_T53 l i).f0 := ⟨_, rfl⟩
   obtain ⟨ky, hky⟩ : ∃ ky, ky = (rd_T53 l i).f1 := ⟨_, rfl⟩
   rw [← hs] at hx0;rw [← hky] at hx1;simp only [Int.toNat_natCast] at hx0 hx1;have d3 : decide ((i : Int) < (l.length : Int)) = true := decide_eq_true q0;have HS := aS_ hs;have HK := aS_ hky;clear hs hky;cases hq : pred s ky
   ·have HQ := aS_ hq
    go_wp2_with (first
     | (go_at_call 53; refine (HCL.out s ky _ HB.out).mono ?_; rw [hq]; rintro e w8 ⟨rfl, hb⟩; have n1_ := aS_ (below_step HB.out hb); clear HB; have HB := n1_; clear n1_ hb))
    go_roundw
    case rel =>
     refine ⟨i + 1, HLT.out, deed_next i HI.out, ⟨fun j hj => ?_⟩, HB⟩;by_cases hji : j = i
     ·subst hji;rw [← HS.out, ← HK.out];exact HQ.out
     ·exact OK.out j (by omega)
    case measure => exact deed_less i l.length HI.out HLT.out
   ·have hr := HR.out;rw [idx_found pred l i hlt (by rw [← HS.out, ← HK.out]; exact hq) OK.out] at hr;subst hr;clear HR
    go_wp2_with (first
     | (go_at_call 53; refine (HCL.out s ky _ HB.out).mono ?_; rw [hq]; rintro e w8 ⟨rfl, hb⟩; have n1_ := aS_ (below_step HB.out hb); clear HB; have HB := n1_; clear n1_ hb))
    go_ret;exact ⟨rfl, HB.out⟩
  ·have hil : i = l.length := by omega
   subst hil;have d3 : decide ((l.length : Int) < (l.length : Int)) = false := decide_eq_false (by omega);have hr := HR.out;rw [idx_none pred l OK.out] at hr;subst hr;clear HR;go_wp2;go_ret;exact ⟨rfl, HB.out⟩
theorem index_struck (pred : ByteArray → Int → Bool) (gp gq : Nat) (A0 : Option Addr) (c0 : Nat) (l : List S53) (w : World) (hr0 : Kd.C k53 w A0 l.length l) (hn : l.length ≤ 1000) (hcl : ∀ (s : ByteArray) (ky : Int) (w1 : World), Below w.heap.size w w1 → Calls Tryd.prog 59 #[.agg #[.string s, .int .u64 ky], .pointer (some ⟨gp, 0, none⟩), .pointer (some ⟨gq, 0, none⟩)] w1 fun e w2 => e = .returned (.bool (pred s ky)) ∧ Below w1.heap.size w1 w2) :
  Calls Tryd.prog 52 #[.slice A0 l.length c0, (.func (.func 59) #[] #[.pointer (some ⟨gp, 0, none⟩), .pointer (some ⟨gq, 0, none⟩)])] w fun e w' => e = .returned (.int .i64 (idxP pred l)) ∧ Below w.heap.size w w' := by
 have hu53 := Tryd.underlying53;have HC := aS_ hr0;have HN := aS_ hn;have HCL := aS_ hcl
 obtain ⟨r, hr⟩ : ∃ r, r = idxP pred l := ⟨_, rfl⟩
 rw [← hr];have HR := aS_ hr;clear hr0 hn hcl hr;have HB := aS_ (Below.refl w.heap.size w);go_enter Tryd.func52, Tryd.ntmps52;go_wp2
 go_loopw [8] (fun iv wr => ∃ i : Nat, i ≤ l.length ∧ iv = .int .i64 i ∧ Aside0 (∀ j, j < i → pred (rd_T53 l j).f0 (rd_T53 l j).f1 = false) ∧ Aside0 (Below w.heap.size w wr)) (fun iv _ => l.length - (intOf iv).toNat)
 case atStart => exact ⟨0, Nat.zero_le _, rfl, ⟨fun j hj => absurd hj (Nat.not_lt_zero j)⟩, HB⟩
 case round =>
  clear HB;obtain ⟨i, hi, rfl, OK, HB⟩ := hrel;by_cases hlt : i < l.length
  ·have HI := aS_ (show i ≤ 1000 by have := HN.out; omega);have HLT := aS_ hlt;have p0 : (0 : Int) ≤ (i : Int) := Int.natCast_nonneg i
   have q0 : (i : Int) < (l.length : Int) := by omega
   obtain ⟨ad, ea, hx0, hx1⟩ := at_T53 HC.out (i : Int) p0 q0;cases ea;replace hx0 := cB_ HB.out hx0;replace hx1 := cB_ HB.out hx1
   obtain ⟨s, hs⟩ : ∃ s, s = (rd_T53 l i).f0 := ⟨_, rfl⟩
   obtain ⟨ky, hky⟩ : ∃ ky, ky = (rd_T53 l i).f1 := ⟨_, rfl⟩
   rw [← hs] at hx0;rw [← hky] at hx1;simp only [Int.toNat_natCast] at hx0 hx1;have d3 : decide ((i : Int) < (l.length : Int)) = true := decide_eq_true q0;have HS := aS_ hs;have HK := aS_ hky;clear hs hky;cases hq : pred s ky
   ·have HQ := aS_ hq
    go_wp2_with (first
     | (go_at_call 59; refine (HCL.out s ky _ HB.out).mono ?_; rw [hq]; rintro e w8 ⟨rfl, hb⟩; have n1_ := aS_ (below_step HB.out hb); clear HB; have HB := n1_; clear n1_ hb))
    go_roundw
    case rel =>
     refine ⟨i + 1, HLT.out, deed_next i HI.out, ⟨fun j hj => ?_⟩, HB⟩;by_cases hji : j = i
     ·subst hji;rw [← HS.out, ← HK.out];exact HQ.out
     ·exact OK.out j (by omega)
    case measure => exact deed_less i l.length HI.out HLT.out
   ·have hr := HR.out;rw [idx_found pred l i hlt (by rw [← HS.out, ← HK.out]; exact hq) OK.out] at hr;subst hr;clear HR
    go_wp2_with (first
     | (go_at_call 59; refine (HCL.out s ky _ HB.out).mono ?_; rw [hq]; rintro e w8 ⟨rfl, hb⟩; have n1_ := aS_ (below_step HB.out hb); clear HB; have HB := n1_; clear n1_ hb))
    go_ret;exact ⟨rfl, HB.out⟩
  ·have hil : i = l.length := by omega
   subst hil;have d3 : decide ((l.length : Int) < (l.length : Int)) = false := decide_eq_false (by omega);have hr := HR.out;rw [idx_none pred l OK.out] at hr;subst hr;clear HR;go_wp2;go_ret;exact ⟨rfl, HB.out⟩
theorem contains_struck (pred : ByteArray → Int → Bool) (gp gq : Nat) (A0 : Option Addr) (c0 : Nat) (l : List S53) (w : World) (hr0 : Kd.C k53 w A0 l.length l) (hn : l.length ≤ 1000) (hcl : ∀ (s : ByteArray) (ky : Int) (w1 : World), Below w.heap.size w w1 → Calls Tryd.prog 59 #[.agg #[.string s, .int .u64 ky], .pointer (some ⟨gp, 0, none⟩), .pointer (some ⟨gq, 0, none⟩)] w1 fun e w2 => e = .returned (.bool (pred s ky)) ∧ Below w1.heap.size w1 w2) :
  Calls Tryd.prog 60 #[.slice A0 l.length c0, (.func (.func 59) #[] #[.pointer (some ⟨gp, 0, none⟩), .pointer (some ⟨gq, 0, none⟩)])] w fun e w' => e = .returned (.bool (decide (0 ≤ idxP pred l))) ∧ Below w.heap.size w w' := by
 have HI := aS_ (index_struck pred gp gq A0 c0 l w hr0 hn hcl);have HB := aS_ (Below.refl w.heap.size w);clear hr0 hn hcl;go_enter Tryd.func60, Tryd.ntmps60
 go_wp2_with (first
  | (go_at_call 52; refine HI.out.mono ?_; rintro e w8 ⟨rfl, hb⟩; have n1_ := aS_ (below_step HB.out hb); clear HB; have HB := n1_; clear n1_ hb))
 go_ret;exact ⟨rfl, HB.out⟩
def told (c : S31) (pred : ByteArray → Int → Bool) (why : Int) (l : List S53) (i : Nat) : List S46 := ((l.take i).filter fun x => !(x.f0.toList == c.f2.toList) && pred x.f0 x.f1).map fun x => ⟨x.f0, why⟩
theorem told_succ (c : S31) (pred : ByteArray → Int → Bool) (why : Int) (l : List S53) (i : Nat) (hi : i < l.length) : told c pred why l (i + 1) = told c pred why l i ++ (if (!((rd_T53 l i).f0.toList == c.f2.toList) && pred (rd_T53 l i).f0 (rd_T53 l i).f1) = true then [⟨(rd_T53 l i).f0, why⟩] else []) := by
  unfold told;rw [List.take_add_one, List.getElem?_eq_getElem hi, rd_lt l i hi];simp only [Option.toList_some, List.filter_append, List.map_append, List.filter_cons, List.filter_nil]
  split <;> simp
theorem told_le (c : S31) (pred : ByteArray → Int → Bool) (why : Int) (l : List S53) (i : Nat) : (told c pred why l i).length ≤ i := by
  unfold told;rw [List.length_map];refine Nat.le_trans (List.length_filter_le _ _) ?_;rw [List.length_take];exact Nat.min_le_left _ _
theorem tell_struck (w0 : World) (gd : Nat) (gp gq : Nat) (whole : Bool) (c : S31) (rg u ue : Value) (l : List S53) (ev : List S46) (typ : Int) (host : ByteArray) (gen : Int) (apt : Bool) (why : Int) (w : World) (hd : Dd w0 w gd c rg u l typ host gen apt ue ev) (hn : l.length ≤ 1000) (hev : ev.length ≤ 1000) (hP : w.heap[gp]? = some (.cells #[.pointer (some ⟨gd, 0, none⟩)] 63 (0, 0))) (nP : gp ≠ gd) (hQ : w.heap[gq]? = some (.cells #[.bool whole] 4 (0, 0))) (nQ : gq ≠ gd) :
    Calls Tryd.prog 55 #[.pointer (some ⟨gd, 0, none⟩), .int .i64 why, (.func (.func 59) #[] #[.pointer (some ⟨gp, 0, none⟩), .pointer (some ⟨gq, 0, none⟩)])] w fun e w' => e = .returned (.tuple #[]) ∧ Aside0 (∃ ue2, Dd w0 w' gd c rg u l typ host gen apt ue2 (ev ++ told c (struckP c whole) why l l.length)) ∧ Aside0 (w'.heap[gp]? = some (.cells #[.pointer (some ⟨gd, 0, none⟩)] 63 (0, 0))) ∧ Aside0 (w'.heap[gq]? = some (.cells #[.bool whole] 4 (0, 0))) := by
  have hu53 := Tryd.underlying53;have hu46 := Tryd.underlying46;have hu66 := Tryd.underlying66;have hu31 := Tryd.underlying31;have hu27 := Tryd.underlying27;have D := aS_ hd;have HN := aS_ hn;have HEV := aS_ hev;have BKP := aS_ hP;have NGP := aS_ nP;clear hP nP;have BKQ := aS_ hQ;have NGQ := aS_ nQ;clear hQ nQ;obtain ⟨Au, cu, eu⟩ := Kd.R_slice hd.r;subst eu;clear hd hn hev;have hcd14 : w.cell? ⟨gd, 14, none⟩ = some (.slice Au l.length cu) := bC_ D.out.b 14 rfl;go_enter Tryd.func55, Tryd.ntmps55;go_wp2;clear hcd14
  go_loopw [14] (fun iv wr => ∃ (i : Nat) (ue2 : Value), i ≤ l.length ∧ iv = .int .i64 i ∧ Aside0 (Dd w0 wr gd c rg (.slice Au l.length cu) l typ host gen apt ue2 (ev ++ told c (struckP c whole) why l i)) ∧ Aside0 (wr.heap[gp]? = some (.cells #[.pointer (some ⟨gd, 0, none⟩)] 63 (0, 0))) ∧ Aside0 (wr.heap[gq]? = some (.cells #[.bool whole] 4 (0, 0)))) (fun iv _ => l.length - (intOf iv).toNat)
  case atStart => exact ⟨0, _, Nat.zero_le _, rfl, ⟨by rw [show told c (struckP c whole) why l 0 = [] from rfl, List.append_nil]; exact D.out⟩, BKP, BKQ⟩
  case round =>
    clear D BKP BKQ;obtain ⟨i, ue2, hi, rfl, D, BKP, BKQ⟩ := hrel;by_cases hlt : i < l.length
    · have HI := aS_ (show i ≤ 1000 by have := HN.out; omega);have HLT := aS_ hlt;have p0 : (0 : Int) ≤ (i : Int) := Int.natCast_nonneg i
      have q0 : (i : Int) < (l.length : Int) := by omega
      obtain ⟨ad, ea, hx0, hx1⟩ := at_T53 (Kd.R_reads' D.out.r).2.2 (i : Int) p0 q0;cases ea
      obtain ⟨s, hs⟩ : ∃ s, s = (rd_T53 l i).f0 := ⟨_, rfl⟩
      obtain ⟨ky, hky⟩ : ∃ ky, ky = (rd_T53 l i).f1 := ⟨_, rfl⟩
      have hsucc := told_succ c (struckP c whole) why l i hlt;rw [← hs] at hsucc
      (try rw [← hky] at hsucc)
      rw [← hs] at hx0;rw [← hky] at hx1;simp only [Int.toNat_natCast] at hx0 hx1;have d3 : decide ((i : Int) < (l.length : Int)) = true := decide_eq_true q0;have SU := aS_ hsucc;have LE := aS_ (show (ev ++ told c (struckP c whole) why l i).length ≤ 2001 by rw [List.length_append]; have := told_le c (struckP c whole) why l i; have := HEV.out; have := HI.out; omega)
      obtain ⟨ev2, hev2⟩ : ∃ ev2, ev2 = ev ++ told c (struckP c whole) why l i := ⟨_, rfl⟩
      rw [← hev2] at D LE;have EV2 := aS_ hev2;obtain ⟨Ae, ce, ee⟩ := Kd.R_slice D.out.re
      obtain ⟨ne, hne⟩ : ∃ ne, ne = ev2.length := ⟨_, rfl⟩
      rw [← hne] at ee;subst ee;clear hs hky hsucc hev2 hne hlt hi;cases hq : (s.toList == c.f2.toList)
      · have HQ := aS_ hq
        obtain ⟨pb, hpb⟩ : ∃ pb, pb = (struckP c whole) s ky := ⟨_, rfl⟩
        have HP := aS_ hpb.symm;clear hpb
        have hq2 : (s.toList != c.f2.toList) = true := by rw [bne, hq]; rfl
        cases pb
        · skip
          go_wp2_with (first
  | ((with_reducible refine gate_dst (N := 7) rfl ?_); refine bX_ (N := 7) (cs := #[.string (⟨#[]⟩ : ByteArray), .int .u64 0]) (t := 53) ?hr ?_; (case hr => first | (go_simp; done) | (go_simp; rfl)); intro gr hg w5 hbox hb; have BW := aS_ hb; have GR := aS_ (show wr.heap.size ≤ gr by rw [hg]; exact Nat.le_refl _); have BKR := aS_ hbox; have hcr0 : w5.cell? ⟨gr, 0, none⟩ = some (.string (⟨#[]⟩ : ByteArray)) := bC_ hbox 0 rfl; have hcr1 : w5.cell? ⟨gr, 1, none⟩ = some (.int .u64 0) := bC_ hbox 1 rfl; have hfr0 := bF_ hbox; clear hb hbox hg))
          refine Hand.at_world (fun w' => Aside0 (Below wr.heap.size wr w') ∧ Aside0 (w'.heap[gr]? = some (.cells #[.string s, .int .u64 ky] 53 (0, 0)))) ⟨⟨below_set (below_set BW.out GR.out) GR.out⟩, ⟨blk_put (blk_put BKR.out 0 _ rfl) 1 _ rfl⟩⟩ ?_;rintro w6 ⟨hbw, hbr⟩;clear BW BKR hcr0 hcr1 hfr0;have n1_ := aS_ (D.out.below hbw.out);have BKR := hbr;have xP_ := aS_ (blk_below BKP.out hbw.out);have xQ_ := aS_ (blk_below BKQ.out hbw.out);clear D hbw hbr hx0 hx1 BKP BKQ;have D := n1_;have BKP := xP_;have BKQ := xQ_;clear n1_ xP_ xQ_;have n1_ := aS_ (D.out.below (below_drew (Below.refl _ _)));have n2_ := aS_ (blk_drew BKR.out);have xP_ := aS_ (blk_drew BKP.out);have xQ_ := aS_ (blk_drew BKQ.out);clear D BKR BKP BKQ;have D := n1_;have BKR := n2_;have BKP := xP_;have BKQ := xQ_;clear n1_ n2_ xP_ xQ_;refine start_ (n := 13) (S := fun w' => w'.cell? ⟨gr, 0, none⟩ = some (.string s) ∧ w'.cell? ⟨gr, 1, none⟩ = some (.int .u64 ky) ∧ w'.cell? ⟨gd, 2, none⟩ = some (.string c.f2)) (ds := []) #[false, false, false, false, false, false, false, false, false, false, false, false, false] (by kernel_rfl) rfl rfl ⟨bC_ BKR.out 0 rfl, bC_ BKR.out 1 rfl, bC_ D.out.b 2 rfl⟩ (fun hHeld => ?_);generalize w6.drew = w7 at D BKR BKP BKQ hHeld ⊢;refine qon_ 0 (some 18) (dB 13 1) ?_;refine qon_ 2 (some 20) (dB 13 5) ?_;refine qon_ 3 (some 21) (dB 13 13) ?_;refine qon_ 4 (some 22) (dB 13 29) ?_;refine qon_ 5 (some 23) (dB 13 61) ?_;refine qtk_ 1 (some 19) (dB 13 63) hHeld ?_;refine qtk_ 6 (some 24) (dB 13 127) hHeld ?_;refine qon_ 7 (some 25) (dB 13 255) ?_;refine qon_ 8 (some 26) (dB 13 511) ?_;refine qon_ 9 (some 27) (dB 13 1023) ?_;refine qtk_ 10 (some 28) (dB 13 2047) hHeld ?_;refine one_ (i := 11) (N := some 29) (dB 13 4095) rfl rfl (by kernel_rfl) (by decide) (fun K hK => ?_);refine goesV_ Tryd.func59 (by kernel_rfl) rfl (.tmp 27) #[] #[.pointer (some ⟨gp, 0, none⟩), .pointer (some ⟨gq, 0, none⟩)] rfl #[.agg #[.string s, .int .u64 ky], .pointer (some ⟨gp, 0, none⟩), .pointer (some ⟨gq, 0, none⟩)] (by rfl) rfl rfl (by simp only [List.map_toArray, List.map_cons, List.map_nil]; rfl) ?_
          with_reducible refine (struck_calls gd gp gq c rg _ _ typ host gen apt whole s ky _ D.out.b BKP.out BKQ.out).mono ?_
          rw [HP.out];rintro e_ w8 ⟨rfl, hb⟩;have n1_ := aS_ (D.out.below hb);have n2_ := aS_ (blk_below BKR.out hb);have xP_ := aS_ (blk_below BKP.out hb);have xQ_ := aS_ (blk_below BKQ.out hb);clear D BKR hb BKP BKQ;have D := n1_;have BKR := n2_;have BKP := xP_;have BKQ := xQ_;clear n1_ n2_ xP_ xQ_;refine ⟨_, rfl, ?_⟩;refine hK.out _ _ ⟨bC_ BKR.out 0 rfl, bC_ BKR.out 1 rfl, bC_ D.out.b 2 rfl⟩ (fun hHeld => ?_);clear hK K;refine norm_ (a' := ?_) ?_ ?_
          rotate_left
          ·show Act.put _ (some 29) _ = _
           simp only [Act.put, la_, lb_, lc_, i64_w, i32_w];rfl
          refine qon_ 12 (some 30) (dB 13 8191) ?_;refine done_ (by kernel_rfl) ?_;go_wp2
          go_roundw
          case rel =>
            have hs_ := SU.out;rw [HQ.out] at hs_;rw [HP.out] at hs_;refine ⟨i + 1, .slice Ae ne ce, HLT.out, deed_next i HI.out, ⟨?_⟩, BKP, BKQ⟩;rw [hs_];have := D.out;rw [EV2.out] at this;simpa using this
          case measure => exact deed_less i l.length HI.out HLT.out
        · skip
          go_wp2_with (first
  | ((with_reducible refine gate_dst (N := 7) rfl ?_); refine bX_ (N := 7) (cs := #[.string (⟨#[]⟩ : ByteArray), .int .u64 0]) (t := 53) ?hr ?_; (case hr => first | (go_simp; done) | (go_simp; rfl)); intro gr hg w5 hbox hb; have BW := aS_ hb; have GR := aS_ (show wr.heap.size ≤ gr by rw [hg]; exact Nat.le_refl _); have BKR := aS_ hbox; have hcr0 : w5.cell? ⟨gr, 0, none⟩ = some (.string (⟨#[]⟩ : ByteArray)) := bC_ hbox 0 rfl; have hcr1 : w5.cell? ⟨gr, 1, none⟩ = some (.int .u64 0) := bC_ hbox 1 rfl; have hfr0 := bF_ hbox; clear hb hbox hg))
          refine Hand.at_world (fun w' => Aside0 (Below wr.heap.size wr w') ∧ Aside0 (w'.heap[gr]? = some (.cells #[.string s, .int .u64 ky] 53 (0, 0)))) ⟨⟨below_set (below_set BW.out GR.out) GR.out⟩, ⟨blk_put (blk_put BKR.out 0 _ rfl) 1 _ rfl⟩⟩ ?_;rintro w6 ⟨hbw, hbr⟩;clear BW BKR hcr0 hcr1 hfr0;have n1_ := aS_ (D.out.below hbw.out);have BKR := hbr;have xP_ := aS_ (blk_below BKP.out hbw.out);have xQ_ := aS_ (blk_below BKQ.out hbw.out);clear D hbw hbr hx0 hx1 BKP BKQ;have D := n1_;have BKP := xP_;have BKQ := xQ_;clear n1_ xP_ xQ_;have n1_ := aS_ (D.out.below (below_drew (Below.refl _ _)));have n2_ := aS_ (blk_drew BKR.out);have xP_ := aS_ (blk_drew BKP.out);have xQ_ := aS_ (blk_drew BKQ.out);clear D BKR BKP BKQ;have D := n1_;have BKR := n2_;have BKP := xP_;have BKQ := xQ_;clear n1_ n2_ xP_ xQ_;refine start_ (n := 13) (S := fun w' => w'.cell? ⟨gr, 0, none⟩ = some (.string s) ∧ w'.cell? ⟨gr, 1, none⟩ = some (.int .u64 ky) ∧ w'.cell? ⟨gd, 2, none⟩ = some (.string c.f2)) (ds := []) #[false, false, false, false, false, false, false, false, false, false, false, false, false] (by kernel_rfl) rfl rfl ⟨bC_ BKR.out 0 rfl, bC_ BKR.out 1 rfl, bC_ D.out.b 2 rfl⟩ (fun hHeld => ?_);generalize w6.drew = w7 at D BKR BKP BKQ hHeld ⊢;refine qon_ 0 (some 18) (dB 13 1) ?_;refine qon_ 2 (some 20) (dB 13 5) ?_;refine qon_ 3 (some 21) (dB 13 13) ?_;refine qon_ 4 (some 22) (dB 13 29) ?_;refine qon_ 5 (some 23) (dB 13 61) ?_;refine qtk_ 1 (some 19) (dB 13 63) hHeld ?_;refine qtk_ 6 (some 24) (dB 13 127) hHeld ?_;refine qon_ 7 (some 25) (dB 13 255) ?_;refine qon_ 8 (some 26) (dB 13 511) ?_;refine qon_ 9 (some 27) (dB 13 1023) ?_;refine qtk_ 10 (some 28) (dB 13 2047) hHeld ?_;refine one_ (i := 11) (N := some 29) (dB 13 4095) rfl rfl (by kernel_rfl) (by decide) (fun K hK => ?_);refine goesV_ Tryd.func59 (by kernel_rfl) rfl (.tmp 27) #[] #[.pointer (some ⟨gp, 0, none⟩), .pointer (some ⟨gq, 0, none⟩)] rfl #[.agg #[.string s, .int .u64 ky], .pointer (some ⟨gp, 0, none⟩), .pointer (some ⟨gq, 0, none⟩)] (by rfl) rfl rfl (by simp only [List.map_toArray, List.map_cons, List.map_nil]; rfl) ?_
          with_reducible refine (struck_calls gd gp gq c rg _ _ typ host gen apt whole s ky _ D.out.b BKP.out BKQ.out).mono ?_
          rw [HP.out];rintro e_ w8 ⟨rfl, hb⟩;have n1_ := aS_ (D.out.below hb);have n2_ := aS_ (blk_below BKR.out hb);have xP_ := aS_ (blk_below BKP.out hb);have xQ_ := aS_ (blk_below BKQ.out hb);clear D BKR hb BKP BKQ;have D := n1_;have BKR := n2_;have BKP := xP_;have BKQ := xQ_;clear n1_ n2_ xP_ xQ_;refine ⟨_, rfl, ?_⟩;refine hK.out _ _ ⟨bC_ BKR.out 0 rfl, bC_ BKR.out 1 rfl, bC_ D.out.b 2 rfl⟩ (fun hHeld => ?_);clear hK K;refine norm_ (a' := ?_) ?_ ?_
          rotate_left
          ·show Act.put _ (some 29) _ = _
           simp only [Act.put, la_, lb_, lc_, i64_w, i32_w];rfl
          refine qon_ 12 (some 30) (dB 13 8191) ?_;refine done_ (by kernel_rfl) ?_;go_wp2;have n1_ := aS_ (D.out.below (below_drew (Below.refl _ _)));have n2_ := aS_ (blk_drew BKR.out);have xP_ := aS_ (blk_drew BKP.out);have xQ_ := aS_ (blk_drew BKQ.out);clear D BKR BKP BKQ;have D := n1_;have BKR := n2_;have BKP := xP_;have BKQ := xQ_;clear n1_ n2_ xP_ xQ_;refine start_ (n := 14) (S := fun w' => w'.cell? ⟨gr, 0, none⟩ = some (.string s) ∧ w'.cell? ⟨gd, 19, none⟩ = some (.slice Ae ne ce)) (ds := [13]) #[false, false, false, false, false, false, false, false, false, false, false, false, false, false] (by kernel_rfl) rfl rfl ⟨bC_ BKR.out 0 rfl, bC_ D.out.b 19 rfl⟩ (fun hHeld => ?_);generalize w8.drew = w10 at D BKR BKP BKQ hHeld ⊢;refine qon_ 0 (some 31) (dB 14 1) ?_;refine qon_ 1 (some 32) (dB 14 3) ?_;refine qon_ 2 (some 33) (dB 14 7) ?_;refine qon_ 3 (some 34) (dB 14 15) ?_;refine qon_ 5 (some 36) (dB 14 47) ?_;refine qon_ 7 (some 38) (dB 14 175) ?_;refine qtk_ 4 (some 35) (dB 14 191) hHeld ?_;refine qtk_ 6 (some 37) (dB 14 255) hHeld ?_;refine qon_ 8 (some 39) (dB 14 511) ?_;refine one_ (i := 9) (N := some 40) (dB 14 1023) rfl rfl (by kernel_rfl) (by decide) (fun K hK => ?_);refine deed_value (w1 := ?_) (v := ?_) (by rfl) rfl ?_ ?_
          rotate_left 2
          ·go_simp
           constructor
           ·rfl
           ·rfl
          refine hK.out _ _ ⟨(blk_cell (blk_alloc BKR.out _) 0).trans rfl, (blk_cell (blk_alloc D.out.b _) 19).trans rfl⟩ (fun hHeld => ?_);clear hK K;refine norm_ (a' := ?_) ?_ ?_
          rotate_left
          ·show Act.put _ (some 40) _ = _
           simp only [Act.put, la_, lb_, lc_, i64_w, i32_w];rfl
          refine one_ (i := 10) (N := some 41) (dB 14 2047) rfl rfl (by kernel_rfl) (by decide) (fun K hK => ?_);refine Kd.R_append_step k46 (w0 := w0) w0.heap.size (by rfl) (.tmp 35) (.tmp 40) 36 46 (.agg #[(.string ⟨#[]⟩), (.int .i64 0)]) 24 rfl Tryd.underlying36 info46 rfl (by decide) (by omega) (.slice Ae ne ce) ev2 (⟨s, why⟩ : S46) [.string s, .int .i64 why] (fun _ => True) (fun _ => False) rfl rfl ?aP (fun _ hk => hk.elim) ?aF ?aO ?aB ?aS ?aL ?_
          (case aP => exact k46_mkM _ _ _ (⟨s, why⟩ : S46))
          (case aB => exact D.out.hb)
          (case aF => exact (fun _ _ => trivial))
          (case aO => exact D.out.re)
          (case aS => exact below_size D.out.hb)
          (case aL => have := LE.out; omega)
          intro v1 y1 ho hb hg hat;obtain ⟨A1, c1, e1⟩ := Kd.R_slice ho;subst e1
          have hlen_ : (ev2 ++ [(⟨s, why⟩ : S46)]).length = ev2.length + 1 := by rw [List.length_append]; rfl
          rw [hlen_] at ho
          (try rw [hlen_])
          clear hlen_;have n1_ := aS_ (blk_grown D.out.b hg (Kd.R_ne D.out.re D.out.b (by decide)));have n2_ := aS_ (row_grown D.out.r D.out.re (by decide) hg);have n3_ := aS_ ho;have n4_ := aS_ hb;have n5_ := aS_ D.out.o;have xP_ := aS_ (blk_grown BKP.out hg (Kd.R_ne D.out.re BKP.out (by decide)));have xQ_ := aS_ (blk_grown BKQ.out hg (Kd.R_ne D.out.re BKQ.out (by decide)));have xR_ := aS_ (blk_grown BKR.out hg (Kd.R_ne D.out.re BKR.out (by decide)));clear D BKR ho hb hg hat BKP BKQ;have BKR := xR_;clear xR_;have DB := n1_;have DR := n2_;have DE := n3_;have DH := n4_;have DO := n5_;have BKP := xP_;have BKQ := xQ_;clear n1_ n2_ n3_ n4_ n5_ xP_ xQ_;refine hK.out _ _ ⟨bC_ BKR.out 0 rfl, bC_ DB.out 19 rfl⟩ (fun hHeld => ?_);clear hK K;refine norm_ (a' := ?_) ?_ ?_
          rotate_left
          ·show Act.put _ (some 41) _ = _
           simp only [Act.put, la_, lb_, lc_, i64_w, i32_w];rfl
          refine qon_ 11 (some 42) (dB 14 4095) ?_;refine qon_ 12 (some 43) (dB 14 8191) ?_;refine last_ (i := 13) (N := none) (dB 14 16383) rfl rfl (by kernel_rfl) (by decide) (fun K hK => ?_);have hs_ : y1.cell? ⟨gd, 19, none⟩ = some (.slice Ae ne ce) := bC_ DB.out 19 rfl;have hfs_ := bF_ DB.out 19;refine skip_ (w1 := ?_) (by rfl) rfl ?_ ?_
          rotate_left
          ·go_simp;rfl
          refine hK.out _ _ ?_;clear hK K;refine done_ (by kernel_rfl) ?_;refine deed_exit (fun w' => Aside0 (Dd w0 w' gd c rg (.slice (some ad) l.length cu) l typ host gen apt (.slice A1 (ev2.length + 1) c1) (ev2 ++ [(⟨s, why⟩ : S46)])) ∧ Aside0 (w'.heap[gp]? = some (.cells #[.pointer (some ⟨gd, 0, none⟩)] 63 (0, 0))) ∧ Aside0 (w'.heap[gq]? = some (.cells #[.bool whole] 4 (0, 0)))) ⟨⟨⟨DO.out, blk_put DB.out 19 _ rfl, Kd.R_mono (Kd.R_far (p := ⟨gd, 19, none⟩) (Kd.R_types DR.out DB.out (by decide)) (fun _ hk => hk.2) _) (fun _ hk => hk.1), Kd.R_mono (Kd.R_far (p := ⟨gd, 19, none⟩) (Kd.R_types DE.out DB.out (by decide)) (fun _ hk => hk.2) _) (fun _ hk => hk.1), below_set DH.out DO.out⟩⟩, ⟨blk_far BKP.out (p := ⟨gd, 19, none⟩) NGP.out _⟩, ⟨blk_far BKQ.out (p := ⟨gd, 19, none⟩) NGQ.out _⟩⟩ ?_;rintro w11 ⟨D, BKP, BKQ⟩;clear DB DR DE DH DO BKR;go_wp2
          go_roundw
          case rel =>
            have hs_ := SU.out;rw [HQ.out, HP.out] at hs_;refine ⟨i + 1, .slice A1 (ev2.length + 1) c1, HLT.out, deed_next i HI.out, ⟨?_⟩, BKP, BKQ⟩;rw [hs_];have := D.out;rw [EV2.out] at this ⊢;simpa using this
          case measure => exact deed_less i l.length HI.out HLT.out
      · have HQ := aS_ hq
        have hq2 : (s.toList != c.f2.toList) = false := by rw [bne, hq]; rfl
        go_wp2_with (first
  | ((with_reducible refine gate_dst (N := 7) rfl ?_); refine bX_ (N := 7) (cs := #[.string (⟨#[]⟩ : ByteArray), .int .u64 0]) (t := 53) ?hr ?_; (case hr => first | (go_simp; done) | (go_simp; rfl)); intro gr hg w5 hbox hb; have BW := aS_ hb; have GR := aS_ (show wr.heap.size ≤ gr by rw [hg]; exact Nat.le_refl _); have BKR := aS_ hbox; have hcr0 : w5.cell? ⟨gr, 0, none⟩ = some (.string (⟨#[]⟩ : ByteArray)) := bC_ hbox 0 rfl; have hcr1 : w5.cell? ⟨gr, 1, none⟩ = some (.int .u64 0) := bC_ hbox 1 rfl; have hfr0 := bF_ hbox; clear hb hbox hg))
        refine Hand.at_world (fun w' => Aside0 (Below wr.heap.size wr w') ∧ Aside0 (w'.heap[gr]? = some (.cells #[.string s, .int .u64 ky] 53 (0, 0)))) ⟨⟨below_set (below_set BW.out GR.out) GR.out⟩, ⟨blk_put (blk_put BKR.out 0 _ rfl) 1 _ rfl⟩⟩ ?_;rintro w6 ⟨hbw, hbr⟩;clear BW BKR hcr0 hcr1 hfr0;have n1_ := aS_ (D.out.below hbw.out);have BKR := hbr;have xP_ := aS_ (blk_below BKP.out hbw.out);have xQ_ := aS_ (blk_below BKQ.out hbw.out);clear D hbw hbr hx0 hx1 BKP BKQ;have D := n1_;have BKP := xP_;have BKQ := xQ_;clear n1_ xP_ xQ_;have n1_ := aS_ (D.out.below (below_drew (Below.refl _ _)));have n2_ := aS_ (blk_drew BKR.out);have xP_ := aS_ (blk_drew BKP.out);have xQ_ := aS_ (blk_drew BKQ.out);clear D BKR BKP BKQ;have D := n1_;have BKR := n2_;have BKP := xP_;have BKQ := xQ_;clear n1_ n2_ xP_ xQ_;refine start_ (n := 13) (S := fun w' => w'.cell? ⟨gr, 0, none⟩ = some (.string s) ∧ w'.cell? ⟨gr, 1, none⟩ = some (.int .u64 ky) ∧ w'.cell? ⟨gd, 2, none⟩ = some (.string c.f2)) (ds := []) #[false, false, false, false, false, false, false, false, false, false, false, false, false] (by kernel_rfl) rfl rfl ⟨bC_ BKR.out 0 rfl, bC_ BKR.out 1 rfl, bC_ D.out.b 2 rfl⟩ (fun hHeld => ?_);generalize w6.drew = w7 at D BKR BKP BKQ hHeld ⊢;refine qon_ 0 (some 18) (dB 13 1) ?_;refine qon_ 2 (some 20) (dB 13 5) ?_;refine qon_ 3 (some 21) (dB 13 13) ?_;refine qon_ 4 (some 22) (dB 13 29) ?_;refine qon_ 5 (some 23) (dB 13 61) ?_;refine qtk_ 1 (some 19) (dB 13 63) hHeld ?_;refine qtk_ 6 (some 24) (dB 13 127) hHeld ?_;refine qon_ 7 (some 25) (dB 13 255) ?_;refine qon_ 8 (some 26) (dB 13 511) ?_;refine qof_ 9 (some 27) (dB 13 1023) ?_;refine qof_ 10 (some 28) (dB 13 2047) ?_;refine qof_ 11 (some 29) (dB 13 4095) ?_;refine qon_ 12 (some 30) (dB 13 8191) ?_;refine done_ (by kernel_rfl) ?_;go_wp2
        go_roundw
        case rel =>
          have hs_ := SU.out;rw [HQ.out] at hs_;refine ⟨i + 1, .slice Ae ne ce, HLT.out, deed_next i HI.out, ⟨?_⟩, BKP, BKQ⟩;rw [hs_];have := D.out;rw [EV2.out] at this;simpa using this
        case measure => exact deed_less i l.length HI.out HLT.out
    · have hil : i = l.length := by omega
      subst hil;have d3 : decide ((l.length : Int) < (l.length : Int)) = false := decide_eq_false (by omega);go_wp2
      go_end0
      exact ⟨rfl, ⟨_, D.out⟩, BKP, BKQ⟩
theorem tell_all (w0 : World) (gd : Nat)  (c : S31) (rg u ue : Value) (l : List S53) (ev : List S46) (typ : Int) (host : ByteArray) (gen : Int) (apt : Bool) (why : Int) (w : World) (hd : Dd w0 w gd c rg u l typ host gen apt ue ev) (hn : l.length ≤ 1000) (hev : ev.length ≤ 1000)  :
    Calls Tryd.prog 55 #[.pointer (some ⟨gd, 0, none⟩), .int .i64 why, (.func (.func 56) #[] #[])] w fun e w' => e = .returned (.tuple #[]) ∧ Aside0 (∃ ue2, Dd w0 w' gd c rg u l typ host gen apt ue2 (ev ++ told c (fun _ _ => true) why l l.length)) := by
  have hu53 := Tryd.underlying53;have hu46 := Tryd.underlying46;have hu66 := Tryd.underlying66;have hu31 := Tryd.underlying31;have hu27 := Tryd.underlying27;have D := aS_ hd;have HN := aS_ hn;have HEV := aS_ hev;obtain ⟨Au, cu, eu⟩ := Kd.R_slice hd.r;subst eu;clear hd hn hev;have hcd14 : w.cell? ⟨gd, 14, none⟩ = some (.slice Au l.length cu) := bC_ D.out.b 14 rfl;go_enter Tryd.func55, Tryd.ntmps55;go_wp2;clear hcd14
  go_loopw [14] (fun iv wr => ∃ (i : Nat) (ue2 : Value), i ≤ l.length ∧ iv = .int .i64 i ∧ Aside0 (Dd w0 wr gd c rg (.slice Au l.length cu) l typ host gen apt ue2 (ev ++ told c (fun _ _ => true) why l i))) (fun iv _ => l.length - (intOf iv).toNat)
  case atStart => exact ⟨0, _, Nat.zero_le _, rfl, ⟨by rw [show told c (fun _ _ => true) why l 0 = [] from rfl, List.append_nil]; exact D.out⟩⟩
  case round =>
    clear D;obtain ⟨i, ue2, hi, rfl, D⟩ := hrel;by_cases hlt : i < l.length
    · have HI := aS_ (show i ≤ 1000 by have := HN.out; omega);have HLT := aS_ hlt;have p0 : (0 : Int) ≤ (i : Int) := Int.natCast_nonneg i
      have q0 : (i : Int) < (l.length : Int) := by omega
      obtain ⟨ad, ea, hx0, hx1⟩ := at_T53 (Kd.R_reads' D.out.r).2.2 (i : Int) p0 q0;cases ea
      obtain ⟨s, hs⟩ : ∃ s, s = (rd_T53 l i).f0 := ⟨_, rfl⟩
      obtain ⟨ky, hky⟩ : ∃ ky, ky = (rd_T53 l i).f1 := ⟨_, rfl⟩
      have hsucc := told_succ c (fun _ _ => true) why l i hlt;rw [← hs] at hsucc
      (try rw [← hky] at hsucc)
      rw [← hs] at hx0;rw [← hky] at hx1;simp only [Int.toNat_natCast] at hx0 hx1;have d3 : decide ((i : Int) < (l.length : Int)) = true := decide_eq_true q0;have SU := aS_ hsucc;have LE := aS_ (show (ev ++ told c (fun _ _ => true) why l i).length ≤ 2001 by rw [List.length_append]; have := told_le c (fun _ _ => true) why l i; have := HEV.out; have := HI.out; omega)
      obtain ⟨ev2, hev2⟩ : ∃ ev2, ev2 = ev ++ told c (fun _ _ => true) why l i := ⟨_, rfl⟩
      rw [← hev2] at D LE;have EV2 := aS_ hev2;obtain ⟨Ae, ce, ee⟩ := Kd.R_slice D.out.re
      obtain ⟨ne, hne⟩ : ∃ ne, ne = ev2.length := ⟨_, rfl⟩
      rw [← hne] at ee;subst ee;clear hs hky hsucc hev2 hne hlt hi;cases hq : (s.toList == c.f2.toList)
      · have HQ := aS_ hq
        obtain ⟨pb, hpb⟩ : ∃ pb, pb = (fun _ _ => true) s ky := ⟨_, rfl⟩
        have HP := aS_ hpb.symm;clear hpb
        have hq2 : (s.toList != c.f2.toList) = true := by rw [bne, hq]; rfl
        cases pb
        · skip
          exact Bool.noConfusion (show true = false from HP.out)
        · skip
          go_wp2_with (first
  | ((with_reducible refine gate_dst (N := 7) rfl ?_); refine bX_ (N := 7) (cs := #[.string (⟨#[]⟩ : ByteArray), .int .u64 0]) (t := 53) ?hr ?_; (case hr => first | (go_simp; done) | (go_simp; rfl)); intro gr hg w5 hbox hb; have BW := aS_ hb; have GR := aS_ (show wr.heap.size ≤ gr by rw [hg]; exact Nat.le_refl _); have BKR := aS_ hbox; have hcr0 : w5.cell? ⟨gr, 0, none⟩ = some (.string (⟨#[]⟩ : ByteArray)) := bC_ hbox 0 rfl; have hcr1 : w5.cell? ⟨gr, 1, none⟩ = some (.int .u64 0) := bC_ hbox 1 rfl; have hfr0 := bF_ hbox; clear hb hbox hg))
          refine Hand.at_world (fun w' => Aside0 (Below wr.heap.size wr w') ∧ Aside0 (w'.heap[gr]? = some (.cells #[.string s, .int .u64 ky] 53 (0, 0)))) ⟨⟨below_set (below_set BW.out GR.out) GR.out⟩, ⟨blk_put (blk_put BKR.out 0 _ rfl) 1 _ rfl⟩⟩ ?_;rintro w6 ⟨hbw, hbr⟩;clear BW BKR hcr0 hcr1 hfr0;have n1_ := aS_ (D.out.below hbw.out);have BKR := hbr;clear D hbw hbr hx0 hx1;have D := n1_;clear n1_;have n1_ := aS_ (D.out.below (below_drew (Below.refl _ _)));have n2_ := aS_ (blk_drew BKR.out);clear D BKR;have D := n1_;have BKR := n2_;clear n1_ n2_;refine start_ (n := 13) (S := fun w' => w'.cell? ⟨gr, 0, none⟩ = some (.string s) ∧ w'.cell? ⟨gr, 1, none⟩ = some (.int .u64 ky) ∧ w'.cell? ⟨gd, 2, none⟩ = some (.string c.f2)) (ds := []) #[false, false, false, false, false, false, false, false, false, false, false, false, false] (by kernel_rfl) rfl rfl ⟨bC_ BKR.out 0 rfl, bC_ BKR.out 1 rfl, bC_ D.out.b 2 rfl⟩ (fun hHeld => ?_);generalize w6.drew = w7 at D BKR hHeld ⊢;refine qon_ 0 (some 18) (dB 13 1) ?_;refine qon_ 2 (some 20) (dB 13 5) ?_;refine qon_ 3 (some 21) (dB 13 13) ?_;refine qon_ 4 (some 22) (dB 13 29) ?_;refine qon_ 5 (some 23) (dB 13 61) ?_;refine qtk_ 1 (some 19) (dB 13 63) hHeld ?_;refine qtk_ 6 (some 24) (dB 13 127) hHeld ?_;refine qon_ 7 (some 25) (dB 13 255) ?_;refine qon_ 8 (some 26) (dB 13 511) ?_;refine qon_ 9 (some 27) (dB 13 1023) ?_;refine qtk_ 10 (some 28) (dB 13 2047) hHeld ?_;refine one_ (i := 11) (N := some 29) (dB 13 4095) rfl rfl (by kernel_rfl) (by decide) (fun K hK => ?_);refine goesV_ Tryd.func56 (by kernel_rfl) rfl (.tmp 27) #[] #[] rfl #[.agg #[.string s, .int .u64 ky]] (by rfl) rfl rfl (by simp only [List.map_toArray, List.map_cons, List.map_nil]; rfl) ?_
          with_reducible refine (all_calls s ky _).mono ?_
          rintro e_ w8 ⟨rfl, hb⟩;have n1_ := aS_ (D.out.below hb);have n2_ := aS_ (blk_below BKR.out hb);clear D BKR hb;have D := n1_;have BKR := n2_;clear n1_ n2_;refine ⟨_, rfl, ?_⟩;refine hK.out _ _ ⟨bC_ BKR.out 0 rfl, bC_ BKR.out 1 rfl, bC_ D.out.b 2 rfl⟩ (fun hHeld => ?_);clear hK K;refine norm_ (a' := ?_) ?_ ?_
          rotate_left
          ·show Act.put _ (some 29) _ = _
           simp only [Act.put, la_, lb_, lc_, i64_w, i32_w];rfl
          refine qon_ 12 (some 30) (dB 13 8191) ?_;refine done_ (by kernel_rfl) ?_;go_wp2;have n1_ := aS_ (D.out.below (below_drew (Below.refl _ _)));have n2_ := aS_ (blk_drew BKR.out);clear D BKR;have D := n1_;have BKR := n2_;clear n1_ n2_;refine start_ (n := 14) (S := fun w' => w'.cell? ⟨gr, 0, none⟩ = some (.string s) ∧ w'.cell? ⟨gd, 19, none⟩ = some (.slice Ae ne ce)) (ds := [13]) #[false, false, false, false, false, false, false, false, false, false, false, false, false, false] (by kernel_rfl) rfl rfl ⟨bC_ BKR.out 0 rfl, bC_ D.out.b 19 rfl⟩ (fun hHeld => ?_);generalize w8.drew = w10 at D BKR hHeld ⊢;refine qon_ 0 (some 31) (dB 14 1) ?_;refine qon_ 1 (some 32) (dB 14 3) ?_;refine qon_ 2 (some 33) (dB 14 7) ?_;refine qon_ 3 (some 34) (dB 14 15) ?_;refine qon_ 5 (some 36) (dB 14 47) ?_;refine qon_ 7 (some 38) (dB 14 175) ?_;refine qtk_ 4 (some 35) (dB 14 191) hHeld ?_;refine qtk_ 6 (some 37) (dB 14 255) hHeld ?_;refine qon_ 8 (some 39) (dB 14 511) ?_;refine one_ (i := 9) (N := some 40) (dB 14 1023) rfl rfl (by kernel_rfl) (by decide) (fun K hK => ?_);refine deed_value (w1 := ?_) (v := ?_) (by rfl) rfl ?_ ?_
          rotate_left 2
          ·go_simp
           constructor
           ·rfl
           ·rfl
          refine hK.out _ _ ⟨(blk_cell (blk_alloc BKR.out _) 0).trans rfl, (blk_cell (blk_alloc D.out.b _) 19).trans rfl⟩ (fun hHeld => ?_);clear hK K;refine norm_ (a' := ?_) ?_ ?_
          rotate_left
          ·show Act.put _ (some 40) _ = _
           simp only [Act.put, la_, lb_, lc_, i64_w, i32_w];rfl
          refine one_ (i := 10) (N := some 41) (dB 14 2047) rfl rfl (by kernel_rfl) (by decide) (fun K hK => ?_);refine Kd.R_append_step k46 (w0 := w0) w0.heap.size (by rfl) (.tmp 35) (.tmp 40) 36 46 (.agg #[(.string ⟨#[]⟩), (.int .i64 0)]) 24 rfl Tryd.underlying36 info46 rfl (by decide) (by omega) (.slice Ae ne ce) ev2 (⟨s, why⟩ : S46) [.string s, .int .i64 why] (fun _ => True) (fun _ => False) rfl rfl ?aP (fun _ hk => hk.elim) ?aF ?aO ?aB ?aS ?aL ?_
          (case aP => exact k46_mkM _ _ _ (⟨s, why⟩ : S46))
          (case aB => exact D.out.hb)
          (case aF => exact (fun _ _ => trivial))
          (case aO => exact D.out.re)
          (case aS => exact below_size D.out.hb)
          (case aL => have := LE.out; omega)
          intro v1 y1 ho hb hg hat;obtain ⟨A1, c1, e1⟩ := Kd.R_slice ho;subst e1
          have hlen_ : (ev2 ++ [(⟨s, why⟩ : S46)]).length = ev2.length + 1 := by rw [List.length_append]; rfl
          rw [hlen_] at ho
          (try rw [hlen_])
          clear hlen_;have n1_ := aS_ (blk_grown D.out.b hg (Kd.R_ne D.out.re D.out.b (by decide)));have n2_ := aS_ (row_grown D.out.r D.out.re (by decide) hg);have n3_ := aS_ ho;have n4_ := aS_ hb;have n5_ := aS_ D.out.o;have xR_ := aS_ (blk_grown BKR.out hg (Kd.R_ne D.out.re BKR.out (by decide)));clear D BKR ho hb hg hat;have BKR := xR_;clear xR_;have DB := n1_;have DR := n2_;have DE := n3_;have DH := n4_;have DO := n5_;clear n1_ n2_ n3_ n4_ n5_;refine hK.out _ _ ⟨bC_ BKR.out 0 rfl, bC_ DB.out 19 rfl⟩ (fun hHeld => ?_);clear hK K;refine norm_ (a' := ?_) ?_ ?_
          rotate_left
          ·show Act.put _ (some 41) _ = _
           simp only [Act.put, la_, lb_, lc_, i64_w, i32_w];rfl
          refine qon_ 11 (some 42) (dB 14 4095) ?_;refine qon_ 12 (some 43) (dB 14 8191) ?_;refine last_ (i := 13) (N := none) (dB 14 16383) rfl rfl (by kernel_rfl) (by decide) (fun K hK => ?_);have hs_ : y1.cell? ⟨gd, 19, none⟩ = some (.slice Ae ne ce) := bC_ DB.out 19 rfl;have hfs_ := bF_ DB.out 19;refine skip_ (w1 := ?_) (by rfl) rfl ?_ ?_
          rotate_left
          ·go_simp;rfl
          refine hK.out _ _ ?_;clear hK K;refine done_ (by kernel_rfl) ?_;refine deed_exit (fun w' => Aside0 (Dd w0 w' gd c rg (.slice (some ad) l.length cu) l typ host gen apt (.slice A1 (ev2.length + 1) c1) (ev2 ++ [(⟨s, why⟩ : S46)]))) ⟨⟨DO.out, blk_put DB.out 19 _ rfl, Kd.R_mono (Kd.R_far (p := ⟨gd, 19, none⟩) (Kd.R_types DR.out DB.out (by decide)) (fun _ hk => hk.2) _) (fun _ hk => hk.1), Kd.R_mono (Kd.R_far (p := ⟨gd, 19, none⟩) (Kd.R_types DE.out DB.out (by decide)) (fun _ hk => hk.2) _) (fun _ hk => hk.1), below_set DH.out DO.out⟩⟩ ?_;intro w11 D;clear DB DR DE DH DO BKR;go_wp2
          go_roundw
          case rel =>
            have hs_ := SU.out;rw [HQ.out] at hs_;refine ⟨i + 1, .slice A1 (ev2.length + 1) c1, HLT.out, deed_next i HI.out, ⟨?_⟩⟩;rw [hs_];have := D.out;rw [EV2.out] at this ⊢;simpa using this
          case measure => exact deed_less i l.length HI.out HLT.out
      · have HQ := aS_ hq
        have hq2 : (s.toList != c.f2.toList) = false := by rw [bne, hq]; rfl
        go_wp2_with (first
  | ((with_reducible refine gate_dst (N := 7) rfl ?_); refine bX_ (N := 7) (cs := #[.string (⟨#[]⟩ : ByteArray), .int .u64 0]) (t := 53) ?hr ?_; (case hr => first | (go_simp; done) | (go_simp; rfl)); intro gr hg w5 hbox hb; have BW := aS_ hb; have GR := aS_ (show wr.heap.size ≤ gr by rw [hg]; exact Nat.le_refl _); have BKR := aS_ hbox; have hcr0 : w5.cell? ⟨gr, 0, none⟩ = some (.string (⟨#[]⟩ : ByteArray)) := bC_ hbox 0 rfl; have hcr1 : w5.cell? ⟨gr, 1, none⟩ = some (.int .u64 0) := bC_ hbox 1 rfl; have hfr0 := bF_ hbox; clear hb hbox hg))
        refine Hand.at_world (fun w' => Aside0 (Below wr.heap.size wr w') ∧ Aside0 (w'.heap[gr]? = some (.cells #[.string s, .int .u64 ky] 53 (0, 0)))) ⟨⟨below_set (below_set BW.out GR.out) GR.out⟩, ⟨blk_put (blk_put BKR.out 0 _ rfl) 1 _ rfl⟩⟩ ?_;rintro w6 ⟨hbw, hbr⟩;clear BW BKR hcr0 hcr1 hfr0;have n1_ := aS_ (D.out.below hbw.out);have BKR := hbr;clear D hbw hbr hx0 hx1;have D := n1_;clear n1_;have n1_ := aS_ (D.out.below (below_drew (Below.refl _ _)));have n2_ := aS_ (blk_drew BKR.out);clear D BKR;have D := n1_;have BKR := n2_;clear n1_ n2_;refine start_ (n := 13) (S := fun w' => w'.cell? ⟨gr, 0, none⟩ = some (.string s) ∧ w'.cell? ⟨gr, 1, none⟩ = some (.int .u64 ky) ∧ w'.cell? ⟨gd, 2, none⟩ = some (.string c.f2)) (ds := []) #[false, false, false, false, false, false, false, false, false, false, false, false, false] (by kernel_rfl) rfl rfl ⟨bC_ BKR.out 0 rfl, bC_ BKR.out 1 rfl, bC_ D.out.b 2 rfl⟩ (fun hHeld => ?_);generalize w6.drew = w7 at D BKR hHeld ⊢;refine qon_ 0 (some 18) (dB 13 1) ?_;refine qon_ 2 (some 20) (dB 13 5) ?_;refine qon_ 3 (some 21) (dB 13 13) ?_;refine qon_ 4 (some 22) (dB 13 29) ?_;refine qon_ 5 (some 23) (dB 13 61) ?_;refine qtk_ 1 (some 19) (dB 13 63) hHeld ?_;refine qtk_ 6 (some 24) (dB 13 127) hHeld ?_;refine qon_ 7 (some 25) (dB 13 255) ?_;refine qon_ 8 (some 26) (dB 13 511) ?_;refine qof_ 9 (some 27) (dB 13 1023) ?_;refine qof_ 10 (some 28) (dB 13 2047) ?_;refine qof_ 11 (some 29) (dB 13 4095) ?_;refine qon_ 12 (some 30) (dB 13 8191) ?_;refine done_ (by kernel_rfl) ?_;go_wp2
        go_roundw
        case rel =>
          have hs_ := SU.out;rw [HQ.out] at hs_;refine ⟨i + 1, .slice Ae ne ce, HLT.out, deed_next i HI.out, ⟨?_⟩⟩;rw [hs_];have := D.out;rw [EV2.out] at this;simpa using this
        case measure => exact deed_less i l.length HI.out HLT.out
    · have hil : i = l.length := by omega
      subst hil;have d3 : decide ((l.length : Int) < (l.length : Int)) = false := decide_eq_false (by omega);go_wp2
      go_end0
      exact ⟨rfl, ⟨_, D.out⟩⟩
theorem Dd.nilrow {w0 w : World} {gd : Nat} {c : S31} {rg u ue : Value} {l : List S53} {typ : Int} {host : ByteArray} {gen : Int} {apt : Bool} {ev : List S46} (h : Dd w0 w gd c rg u l typ host gen apt ue ev) : Dd w0 (w.setCell ⟨gd, 14, none⟩ (.slice none 0 0)) gd c rg (.slice none 0 0) [] typ host gen apt ue ev :=
  ⟨h.o, blk_put h.b 14 _ rfl, Kd.R_nil _ _ _ _ _, Kd.R_mono (Kd.R_far (p := ⟨gd, 14, none⟩) (Kd.R_types h.re h.b (by decide)) (fun _ hk => hk.2) _) (fun _ hk => hk.1), below_set h.hb h.o⟩
theorem clear_no (k : Nat) (w0 : World) (gd : Nat) (c : S31) (rg u ue : Value) (l : List S53) (ev : List S46) (typ : Int) (host : ByteArray) (gen : Int) (apt : Bool) (kk : Int) (w : World) (hd : Dd w0 w gd c rg u l typ host gen apt ue ev) (hk : resv_Key.f k l typ host gen apt c.f2 = some kk) (ha : (kk != 0 && kk == c.f8) = false) :
  Calls Tryd.prog 33 #[.pointer (some ⟨gd, 0, none⟩)] w fun e w' => e = .returned (.int .i64 2) ∧ Dd w0 w' gd c rg u l typ host gen apt ue ev := by
 have hu66 := Tryd.underlying66;have hu31 := Tryd.underlying31;have hu27 := Tryd.underlying27;have hu24 := Tryd.underlying24;have D := aS_ hd;have HK := aS_ hk;have HA := aS_ ha;clear ha;obtain ⟨Au, cu, eu⟩ := Kd.R_slice hd.r;subst eu;clear hd hk;go_enter Tryd.func33, Tryd.ntmps33
 go_wp2_with (first
  | (go_at_call 57; refine (asks_calls k w0 gd c rg _ _ l ev typ host gen apt kk _ D.out HK.out).mono ?_; rw [HA.out]; rintro e w2 ⟨rfl, hb⟩; have n1_ := aS_ (D.out.below hb); clear D hb; have D := n1_; clear n1_))
 go_ret;exact ⟨rfl, D.out⟩
theorem clear_yes (k : Nat) (w0 : World) (gd : Nat) (c : S31) (rg u ue : Value) (l : List S53) (ev : List S46) (typ : Int) (host : ByteArray) (gen : Int) (apt : Bool) (kk : Int) (w : World) (hd : Dd w0 w gd c rg u l typ host gen apt ue ev) (hk : resv_Key.f k l typ host gen apt c.f2 = some kk) (ha : (kk != 0 && kk == c.f8) = true) (hn : l.length ≤ 1000) (hev : ev.length ≤ 1000) :
  Calls Tryd.prog 33 #[.pointer (some ⟨gd, 0, none⟩)] w fun e w' => e = .returned (.int .i64 1) ∧ ∃ ue2, Dd w0 w' gd c rg (.slice none 0 0) [] 0 (⟨#[]⟩ : ByteArray) ((gen + 1) % 4294967296) apt ue2 (ev ++ told c (fun _ _ => true) 4 l l.length) := by
 have hu66 := Tryd.underlying66;have hu31 := Tryd.underlying31;have hu27 := Tryd.underlying27;have hu24 := Tryd.underlying24;have D := aS_ hd;have HK := aS_ hk;have HA := aS_ ha;clear ha;have HN := aS_ hn;have HEV := aS_ hev;clear hn hev;obtain ⟨Au, cu, eu⟩ := Kd.R_slice hd.r;subst eu;clear hd hk;go_enter Tryd.func33, Tryd.ntmps33
 go_wp2_with (first
  | (go_at_call 57; refine (asks_calls k w0 gd c rg _ _ l ev typ host gen apt kk _ D.out HK.out).mono ?_; rw [HA.out]; rintro e w2 ⟨rfl, hb⟩; have n1_ := aS_ (D.out.below hb); clear D hb; have D := n1_; clear n1_)
  | (go_at_call 55; refine (tell_all w0 gd c rg _ _ l ev typ host gen apt 4 _ D.out HN.out HEV.out).mono ?_; rintro e w3 ⟨rfl, hd_⟩; obtain ⟨ue2, hd2_⟩ := hd_.out; clear D hd_; have D := aS_ hd2_; clear hd2_; have hcd14 : w3.cell? ⟨gd, 14, none⟩ = some (.slice _ l.length _) := bC_ D.out.b 14 rfl; have hfd14 := bF_ D.out.b 14; have hcd15 : w3.cell? ⟨gd, 15, none⟩ = some (.int .i64 typ) := bC_ D.out.b 15 rfl; have hfd15 := bF_ D.out.b 15; have hcd16 : w3.cell? ⟨gd, 16, none⟩ = some (.string host) := bC_ D.out.b 16 rfl; have hfd16 := bF_ D.out.b 16; have hcd17 : w3.cell? ⟨gd, 17, none⟩ = some (.int .u32 gen) := bC_ D.out.b 17 rfl; have hfd17 := bF_ D.out.b 17))
 go_ret;exact ⟨rfl, ue2, (((D.out.nilrow).put 15 _ rfl).put 16 _ rfl).put 17 _ rfl⟩
theorem reserve_wrong (k : Nat) (w0 : World) (gd : Nat) (c : S31) (rg u ue : Value) (l : List S53) (ev : List S46) (typ : Int) (host : ByteArray) (gen : Int) (apt : Bool) (kk : Int) (w : World) (hd : Dd w0 w gd c rg u l typ host gen apt ue ev) (hk : resv_Key.f k l typ host gen apt c.f2 = some kk) (ht : access_Type.f c.f11 = some false) :
  Calls Tryd.prog 31 #[.pointer (some ⟨gd, 0, none⟩)] w fun e w' => e = .returned (.int .i64 5) ∧ Dd w0 w' gd c rg u l typ host gen apt ue ev := by
 have hu66 := Tryd.underlying66;have hu31 := Tryd.underlying31;have hu27 := Tryd.underlying27;have hu24 := Tryd.underlying24;have D := aS_ hd;have HK := aS_ hk;have HT := aS_ ht;clear ht;obtain ⟨Au, cu, eu⟩ := Kd.R_slice hd.r;subst eu;clear hd hk;have hcd11 : w.cell? ⟨gd, 11, none⟩ = some (.int .i64 c.f11) := bC_ D.out.b 11 rfl;go_enter Tryd.func31, Tryd.ntmps31
 go_wp2_with (first
  | (go_at_call 45; refine (access_Type.calls c.f11 false _ HT.out).mono ?_; rintro e w1 ⟨rfl, hd⟩; have n1_ := aS_ (D.out.below hd.below); clear D hd hcd11; have D := n1_; clear n1_))
 go_ret;exact ⟨rfl, D.out⟩
theorem reserve_no (k : Nat) (w0 : World) (gd : Nat) (c : S31) (rg u ue : Value) (l : List S53) (ev : List S46) (typ : Int) (host : ByteArray) (gen : Int) (apt : Bool) (kk : Int) (w : World) (hd : Dd w0 w gd c rg u l typ host gen apt ue ev) (hk : resv_Key.f k l typ host gen apt c.f2 = some kk) (ht : access_Type.f c.f11 = some true) (ha : (kk != 0 && kk == c.f8) = false) :
  Calls Tryd.prog 31 #[.pointer (some ⟨gd, 0, none⟩)] w fun e w' => e = .returned (.int .i64 2) ∧ Dd w0 w' gd c rg u l typ host gen apt ue ev := by
 have hu66 := Tryd.underlying66;have hu31 := Tryd.underlying31;have hu27 := Tryd.underlying27;have hu24 := Tryd.underlying24;have D := aS_ hd;have HK := aS_ hk;have HT := aS_ ht;clear ht;have HA := aS_ ha;clear ha;obtain ⟨Au, cu, eu⟩ := Kd.R_slice hd.r;subst eu;clear hd hk;have hcd11 : w.cell? ⟨gd, 11, none⟩ = some (.int .i64 c.f11) := bC_ D.out.b 11 rfl;go_enter Tryd.func31, Tryd.ntmps31
 go_wp2_with (first
  | (go_at_call 45; refine (access_Type.calls c.f11 true _ HT.out).mono ?_; rintro e w1 ⟨rfl, hd⟩; have n1_ := aS_ (D.out.below hd.below); clear D hd hcd11; have D := n1_; clear n1_)
  | (go_at_call 57; refine (asks_calls k w0 gd c rg _ _ l ev typ host gen apt kk _ D.out HK.out).mono ?_; rw [HA.out]; rintro e w2 ⟨rfl, hb⟩; have n1_ := aS_ (D.out.below hb); clear D hb; have D := n1_; clear n1_))
 go_ret;exact ⟨rfl, D.out⟩
theorem reserve_take (k : Nat) (w0 : World) (gd : Nat) (c : S31) (rg u ue : Value) (l : List S53) (ev : List S46) (typ : Int) (host : ByteArray) (gen : Int) (apt : Bool) (kk : Int) (w : World) (hd : Dd w0 w gd c rg u l typ host gen apt ue ev) (hk : resv_Key.f k l typ host gen apt c.f2 = some kk) (ht : access_Type.f c.f11 = some true) (ha : (kk != 0 && kk == c.f8) = true) (h0 : typ = 0) :
  Calls Tryd.prog 31 #[.pointer (some ⟨gd, 0, none⟩)] w fun e w' => e = .returned (.int .i64 1) ∧ Dd w0 w' gd c rg u l c.f11 (takenBy c) gen apt ue ev := by
 have hu66 := Tryd.underlying66;have hu31 := Tryd.underlying31;have hu27 := Tryd.underlying27;have hu24 := Tryd.underlying24;have D := aS_ hd;have HK := aS_ hk;have HT := aS_ ht;clear ht;have HA := aS_ ha;clear ha;have d0 : (typ == 0) = true := beq_iff_eq.mpr h0;clear h0;obtain ⟨Au, cu, eu⟩ := Kd.R_slice hd.r;subst eu;clear hd hk;have hcd11 : w.cell? ⟨gd, 11, none⟩ = some (.int .i64 c.f11) := bC_ D.out.b 11 rfl;go_enter Tryd.func31, Tryd.ntmps31
 go_wp2_with (first
  | (go_at_call 45; refine (access_Type.calls c.f11 true _ HT.out).mono ?_; rintro e w1 ⟨rfl, hd⟩; have n1_ := aS_ (D.out.below hd.below); clear D hd hcd11; have D := n1_; clear n1_)
  | (go_at_call 57; refine (asks_calls k w0 gd c rg _ _ l ev typ host gen apt kk _ D.out HK.out).mono ?_; rw [HA.out]; rintro e w2 ⟨rfl, hb⟩; have n1_ := aS_ (D.out.below hb); clear D hb; have D := n1_; clear n1_; have hcd15 : w2.cell? ⟨gd, 15, none⟩ = some (.int .i64 typ) := bC_ D.out.b 15 rfl)
  | (go_at_call 58; refine (take_calls w0 gd c rg _ _ l ev typ host gen apt _ D.out).mono ?_; rintro e w3 ⟨rfl, hd⟩; have n1_ := aS_ hd; clear D hd hcd15; have D := n1_; clear n1_))
 go_ret;exact ⟨rfl, D.out⟩
theorem reserve_held (k : Nat) (w0 : World) (gd : Nat) (c : S31) (rg u ue : Value) (l : List S53) (ev : List S46) (typ : Int) (host : ByteArray) (gen : Int) (apt : Bool) (kk : Int) (w : World) (hd : Dd w0 w gd c rg u l typ host gen apt ue ev) (hk : resv_Key.f k l typ host gen apt c.f2 = some kk) (hG : Glob w0) (hh : Bool) (hho : access_Holds.f k l typ host gen apt c.f2 = some hh) (ht : access_Type.f c.f11 = some true) (ha : (kk != 0 && kk == c.f8) = true) (h0 : typ ≠ 0) :
    Calls Tryd.prog 31 #[.pointer (some ⟨gd, 0, none⟩)] w fun e w' => e = .returned (.int .i64 (if (hh && typ == c.f11) = true then 1 else 2)) ∧ Dd w0 w' gd c rg u l typ host gen apt ue ev := by
  have hu66 := Tryd.underlying66;have hu31 := Tryd.underlying31;have hu27 := Tryd.underlying27;have hu24 := Tryd.underlying24;have D := aS_ hd;have HK := aS_ hk;have HT := aS_ ht;clear ht;have HA := aS_ ha;clear ha;have HG := aS_ hG;have HH := aS_ hho;clear hG hho;have d0 : (typ == 0) = false := beq_eq_false_iff_ne.mpr h0;clear h0
  obtain ⟨eq, heq⟩ : ∃ eq, (typ == c.f11) = eq := ⟨_, rfl⟩
  have hne : (typ != c.f11) = !eq := by rw [bne, heq]
  rw [heq];obtain ⟨Au, cu, eu⟩ := Kd.R_slice hd.r;subst eu;clear hd hk
  cases hh <;> cases eq <;> simp only [Bool.not_true, Bool.not_false] at hne
  · skip
    have hcd11 : w.cell? ⟨gd, 11, none⟩ = some (.int .i64 c.f11) := bC_ D.out.b 11 rfl;go_enter Tryd.func31, Tryd.ntmps31
    go_wp2_with (first
      | (go_at_call 45; refine (access_Type.calls c.f11 true _ HT.out).mono ?_; rintro e w1 ⟨rfl, hd⟩; have n1_ := aS_ (D.out.below hd.below); clear D hd hcd11; have D := n1_; clear n1_)
      | (go_at_call 57; refine (asks_calls k w0 gd c rg _ _ l ev typ host gen apt kk _ D.out HK.out).mono ?_; rw [HA.out]; rintro e w2 ⟨rfl, hb⟩; have n1_ := aS_ (D.out.below hb); clear D hb; have D := n1_; clear n1_; have hcd15 : w2.cell? ⟨gd, 15, none⟩ = some (.int .i64 typ) := bC_ D.out.b 15 rfl))
    clear hcd15;have n1_ := aS_ (D.out.below (below_drew (Below.refl _ _)));clear D;have D := n1_;clear n1_;refine start_ (n := 26) (S := fun w' => w'.cell? ⟨gd, 14, none⟩ = some (.slice Au l.length cu) ∧ w'.cell? ⟨gd, 15, none⟩ = some (.int .i64 typ) ∧ w'.cell? ⟨gd, 16, none⟩ = some (.string host) ∧ w'.cell? ⟨gd, 17, none⟩ = some (.int .u32 gen) ∧ w'.cell? ⟨gd, 18, none⟩ = some (.bool apt) ∧ w'.cell? ⟨gd, 2, none⟩ = some (.string c.f2) ∧ w'.cell? ⟨gd, 11, none⟩ = some (.int .i64 c.f11)) (ds := []) #[false, false, false, false, false, false, false, false, false, false, false, false, false, false, false, false, false, false, false, false, false, false, false, false, false, false] (by kernel_rfl) rfl rfl ⟨bC_ D.out.b 14 rfl, bC_ D.out.b 15 rfl, bC_ D.out.b 16 rfl, bC_ D.out.b 17 rfl, bC_ D.out.b 18 rfl, bC_ D.out.b 2 rfl, bC_ D.out.b 11 rfl⟩ (fun hHeld => ?_);generalize w2.drew = w3 at D hHeld ⊢;refine qon_ 0 (some 26) (dB 26 1) ?_;refine qon_ 1 (some 27) (dB 26 3) ?_;refine qon_ 2 (some 28) (dB 26 7) ?_;refine qon_ 4 (some 30) (dB 26 23) ?_;refine qon_ 5 (some 31) (dB 26 55) ?_;refine qon_ 6 (some 32) (dB 26 119) ?_;refine qon_ 7 (some 33) (dB 26 247) ?_;refine qtk_ 3 (some 29) (dB 26 255) hHeld ?_;refine qtk_ 8 (some 34) (dB 26 511) hHeld ?_;refine one_ (i := 9) (N := some 35) (dB 26 1023) rfl rfl (by kernel_rfl) (by decide) (fun K hK => ?_);refine goes_ Tryd.func29 (by kernel_rfl) rfl #[.agg #[.slice Au l.length cu, .int .i64 typ, .string host, .int .u32 gen, .bool apt], .string c.f2] (by rfl) rfl rfl (by simp only [List.map_toArray, List.map_cons, List.map_nil]; rfl) ?_
    with_reducible refine (access_Holds.calls k Au cu l typ host gen apt c.f2 false _ (Kd.R_reads' D.out.r).2.2 (Kd.R_reads' D.out.r).2.1 (Glob.keep HG.out D.out.hb) HH.out).mono ?_
    rintro e_ w4 ⟨rfl, hb⟩;have n1_ := aS_ (D.out.below hb);clear D hb;have D := n1_;clear n1_;refine ⟨_, rfl, ?_⟩;refine hK.out _ _ ⟨bC_ D.out.b 14 rfl, bC_ D.out.b 15 rfl, bC_ D.out.b 16 rfl, bC_ D.out.b 17 rfl, bC_ D.out.b 18 rfl, bC_ D.out.b 2 rfl, bC_ D.out.b 11 rfl⟩ (fun hHeld => ?_);clear hK K;refine norm_ (a' := ?_) ?_ ?_
    rotate_left
    ·show Act.put _ (some 35) _ = _
     simp only [Act.put, la_, lb_, lc_, i64_w, i32_w];rfl
    refine qon_ 10 (some 36) (dB 26 2047) ?_;refine qon_ 11 (some 37) (dB 26 4095) ?_;refine qof_ 12 (some 38) (dB 26 8191) ?_;refine qof_ 13 (some 39) (dB 26 16383) ?_;refine qof_ 14 (some 40) (dB 26 32767) ?_;refine qof_ 15 (some 41) (dB 26 65535) ?_;refine qof_ 16 (some 42) (dB 26 131071) ?_;refine qof_ 17 (some 43) (dB 26 262143) ?_;refine qof_ 18 (some 44) (dB 26 524287) ?_;refine qof_ 19 (some 45) (dB 26 1048575) ?_;refine qof_ 20 (some 46) (dB 26 2097151) ?_;refine qof_ 21 (some 47) (dB 26 4194303) ?_;refine qof_ 22 (some 48) (dB 26 8388607) ?_;refine qof_ 23 (some 49) (dB 26 16777215) ?_;refine qon_ 24 (some 50) (dB 26 33554431) ?_;refine qon_ 25 (some 25) (dB 26 67108863) ?_;refine done_ (by kernel_rfl) ?_;go_wp2;go_ret;exact ⟨rfl, D.out⟩
  · skip
    have hcd11 : w.cell? ⟨gd, 11, none⟩ = some (.int .i64 c.f11) := bC_ D.out.b 11 rfl;go_enter Tryd.func31, Tryd.ntmps31
    go_wp2_with (first
      | (go_at_call 45; refine (access_Type.calls c.f11 true _ HT.out).mono ?_; rintro e w1 ⟨rfl, hd⟩; have n1_ := aS_ (D.out.below hd.below); clear D hd hcd11; have D := n1_; clear n1_)
      | (go_at_call 57; refine (asks_calls k w0 gd c rg _ _ l ev typ host gen apt kk _ D.out HK.out).mono ?_; rw [HA.out]; rintro e w2 ⟨rfl, hb⟩; have n1_ := aS_ (D.out.below hb); clear D hb; have D := n1_; clear n1_; have hcd15 : w2.cell? ⟨gd, 15, none⟩ = some (.int .i64 typ) := bC_ D.out.b 15 rfl))
    clear hcd15;have n1_ := aS_ (D.out.below (below_drew (Below.refl _ _)));clear D;have D := n1_;clear n1_;refine start_ (n := 26) (S := fun w' => w'.cell? ⟨gd, 14, none⟩ = some (.slice Au l.length cu) ∧ w'.cell? ⟨gd, 15, none⟩ = some (.int .i64 typ) ∧ w'.cell? ⟨gd, 16, none⟩ = some (.string host) ∧ w'.cell? ⟨gd, 17, none⟩ = some (.int .u32 gen) ∧ w'.cell? ⟨gd, 18, none⟩ = some (.bool apt) ∧ w'.cell? ⟨gd, 2, none⟩ = some (.string c.f2) ∧ w'.cell? ⟨gd, 11, none⟩ = some (.int .i64 c.f11)) (ds := []) #[false, false, false, false, false, false, false, false, false, false, false, false, false, false, false, false, false, false, false, false, false, false, false, false, false, false] (by kernel_rfl) rfl rfl ⟨bC_ D.out.b 14 rfl, bC_ D.out.b 15 rfl, bC_ D.out.b 16 rfl, bC_ D.out.b 17 rfl, bC_ D.out.b 18 rfl, bC_ D.out.b 2 rfl, bC_ D.out.b 11 rfl⟩ (fun hHeld => ?_);generalize w2.drew = w3 at D hHeld ⊢;refine qon_ 0 (some 26) (dB 26 1) ?_;refine qon_ 1 (some 27) (dB 26 3) ?_;refine qon_ 2 (some 28) (dB 26 7) ?_;refine qon_ 4 (some 30) (dB 26 23) ?_;refine qon_ 5 (some 31) (dB 26 55) ?_;refine qon_ 6 (some 32) (dB 26 119) ?_;refine qon_ 7 (some 33) (dB 26 247) ?_;refine qtk_ 3 (some 29) (dB 26 255) hHeld ?_;refine qtk_ 8 (some 34) (dB 26 511) hHeld ?_;refine one_ (i := 9) (N := some 35) (dB 26 1023) rfl rfl (by kernel_rfl) (by decide) (fun K hK => ?_);refine goes_ Tryd.func29 (by kernel_rfl) rfl #[.agg #[.slice Au l.length cu, .int .i64 typ, .string host, .int .u32 gen, .bool apt], .string c.f2] (by rfl) rfl rfl (by simp only [List.map_toArray, List.map_cons, List.map_nil]; rfl) ?_
    with_reducible refine (access_Holds.calls k Au cu l typ host gen apt c.f2 false _ (Kd.R_reads' D.out.r).2.2 (Kd.R_reads' D.out.r).2.1 (Glob.keep HG.out D.out.hb) HH.out).mono ?_
    rintro e_ w4 ⟨rfl, hb⟩;have n1_ := aS_ (D.out.below hb);clear D hb;have D := n1_;clear n1_;refine ⟨_, rfl, ?_⟩;refine hK.out _ _ ⟨bC_ D.out.b 14 rfl, bC_ D.out.b 15 rfl, bC_ D.out.b 16 rfl, bC_ D.out.b 17 rfl, bC_ D.out.b 18 rfl, bC_ D.out.b 2 rfl, bC_ D.out.b 11 rfl⟩ (fun hHeld => ?_);clear hK K;refine norm_ (a' := ?_) ?_ ?_
    rotate_left
    ·show Act.put _ (some 35) _ = _
     simp only [Act.put, la_, lb_, lc_, i64_w, i32_w];rfl
    refine qon_ 10 (some 36) (dB 26 2047) ?_;refine qon_ 11 (some 37) (dB 26 4095) ?_;refine qof_ 12 (some 38) (dB 26 8191) ?_;refine qof_ 13 (some 39) (dB 26 16383) ?_;refine qof_ 14 (some 40) (dB 26 32767) ?_;refine qof_ 15 (some 41) (dB 26 65535) ?_;refine qof_ 16 (some 42) (dB 26 131071) ?_;refine qof_ 17 (some 43) (dB 26 262143) ?_;refine qof_ 18 (some 44) (dB 26 524287) ?_;refine qof_ 19 (some 45) (dB 26 1048575) ?_;refine qof_ 20 (some 46) (dB 26 2097151) ?_;refine qof_ 21 (some 47) (dB 26 4194303) ?_;refine qof_ 22 (some 48) (dB 26 8388607) ?_;refine qof_ 23 (some 49) (dB 26 16777215) ?_;refine qon_ 24 (some 50) (dB 26 33554431) ?_;refine qon_ 25 (some 25) (dB 26 67108863) ?_;refine done_ (by kernel_rfl) ?_;go_wp2;go_ret;exact ⟨rfl, D.out⟩
  · skip
    have hcd11 : w.cell? ⟨gd, 11, none⟩ = some (.int .i64 c.f11) := bC_ D.out.b 11 rfl;go_enter Tryd.func31, Tryd.ntmps31
    go_wp2_with (first
      | (go_at_call 45; refine (access_Type.calls c.f11 true _ HT.out).mono ?_; rintro e w1 ⟨rfl, hd⟩; have n1_ := aS_ (D.out.below hd.below); clear D hd hcd11; have D := n1_; clear n1_)
      | (go_at_call 57; refine (asks_calls k w0 gd c rg _ _ l ev typ host gen apt kk _ D.out HK.out).mono ?_; rw [HA.out]; rintro e w2 ⟨rfl, hb⟩; have n1_ := aS_ (D.out.below hb); clear D hb; have D := n1_; clear n1_; have hcd15 : w2.cell? ⟨gd, 15, none⟩ = some (.int .i64 typ) := bC_ D.out.b 15 rfl))
    clear hcd15;have n1_ := aS_ (D.out.below (below_drew (Below.refl _ _)));clear D;have D := n1_;clear n1_;refine start_ (n := 26) (S := fun w' => w'.cell? ⟨gd, 14, none⟩ = some (.slice Au l.length cu) ∧ w'.cell? ⟨gd, 15, none⟩ = some (.int .i64 typ) ∧ w'.cell? ⟨gd, 16, none⟩ = some (.string host) ∧ w'.cell? ⟨gd, 17, none⟩ = some (.int .u32 gen) ∧ w'.cell? ⟨gd, 18, none⟩ = some (.bool apt) ∧ w'.cell? ⟨gd, 2, none⟩ = some (.string c.f2) ∧ w'.cell? ⟨gd, 11, none⟩ = some (.int .i64 c.f11)) (ds := []) #[false, false, false, false, false, false, false, false, false, false, false, false, false, false, false, false, false, false, false, false, false, false, false, false, false, false] (by kernel_rfl) rfl rfl ⟨bC_ D.out.b 14 rfl, bC_ D.out.b 15 rfl, bC_ D.out.b 16 rfl, bC_ D.out.b 17 rfl, bC_ D.out.b 18 rfl, bC_ D.out.b 2 rfl, bC_ D.out.b 11 rfl⟩ (fun hHeld => ?_);generalize w2.drew = w3 at D hHeld ⊢;refine qon_ 0 (some 26) (dB 26 1) ?_;refine qon_ 1 (some 27) (dB 26 3) ?_;refine qon_ 2 (some 28) (dB 26 7) ?_;refine qon_ 4 (some 30) (dB 26 23) ?_;refine qon_ 5 (some 31) (dB 26 55) ?_;refine qon_ 6 (some 32) (dB 26 119) ?_;refine qon_ 7 (some 33) (dB 26 247) ?_;refine qtk_ 3 (some 29) (dB 26 255) hHeld ?_;refine qtk_ 8 (some 34) (dB 26 511) hHeld ?_;refine one_ (i := 9) (N := some 35) (dB 26 1023) rfl rfl (by kernel_rfl) (by decide) (fun K hK => ?_);refine goes_ Tryd.func29 (by kernel_rfl) rfl #[.agg #[.slice Au l.length cu, .int .i64 typ, .string host, .int .u32 gen, .bool apt], .string c.f2] (by rfl) rfl rfl (by simp only [List.map_toArray, List.map_cons, List.map_nil]; rfl) ?_
    with_reducible refine (access_Holds.calls k Au cu l typ host gen apt c.f2 true _ (Kd.R_reads' D.out.r).2.2 (Kd.R_reads' D.out.r).2.1 (Glob.keep HG.out D.out.hb) HH.out).mono ?_
    rintro e_ w4 ⟨rfl, hb⟩;have n1_ := aS_ (D.out.below hb);clear D hb;have D := n1_;clear n1_;refine ⟨_, rfl, ?_⟩;refine hK.out _ _ ⟨bC_ D.out.b 14 rfl, bC_ D.out.b 15 rfl, bC_ D.out.b 16 rfl, bC_ D.out.b 17 rfl, bC_ D.out.b 18 rfl, bC_ D.out.b 2 rfl, bC_ D.out.b 11 rfl⟩ (fun hHeld => ?_);clear hK K;refine norm_ (a' := ?_) ?_ ?_
    rotate_left
    ·show Act.put _ (some 35) _ = _
     simp only [Act.put, la_, lb_, lc_, i64_w, i32_w];rfl
    refine qon_ 10 (some 36) (dB 26 2047) ?_;refine qon_ 11 (some 37) (dB 26 4095) ?_;refine qon_ 12 (some 38) (dB 26 8191) ?_;refine qon_ 13 (some 39) (dB 26 16383) ?_;refine qon_ 14 (some 40) (dB 26 32767) ?_;refine qon_ 15 (some 41) (dB 26 65535) ?_;refine qon_ 16 (some 42) (dB 26 131071) ?_;refine qon_ 18 (some 44) (dB 26 393215) ?_;refine qon_ 19 (some 45) (dB 26 917503) ?_;refine qon_ 20 (some 46) (dB 26 1966079) ?_;refine qon_ 21 (some 47) (dB 26 4063231) ?_;refine qtk_ 17 (some 43) (dB 26 4194303) hHeld ?_;refine qtk_ 22 (some 48) (dB 26 8388607) hHeld ?_;refine qon_ 23 (some 49) (dB 26 16777215) ?_;refine qon_ 24 (some 50) (dB 26 33554431) ?_;refine qon_ 25 (some 25) (dB 26 67108863) ?_;refine done_ (by kernel_rfl) ?_;go_wp2;go_ret;exact ⟨rfl, D.out⟩
  · skip
    have hcd11 : w.cell? ⟨gd, 11, none⟩ = some (.int .i64 c.f11) := bC_ D.out.b 11 rfl;go_enter Tryd.func31, Tryd.ntmps31
    go_wp2_with (first
      | (go_at_call 45; refine (access_Type.calls c.f11 true _ HT.out).mono ?_; rintro e w1 ⟨rfl, hd⟩; have n1_ := aS_ (D.out.below hd.below); clear D hd hcd11; have D := n1_; clear n1_)
      | (go_at_call 57; refine (asks_calls k w0 gd c rg _ _ l ev typ host gen apt kk _ D.out HK.out).mono ?_; rw [HA.out]; rintro e w2 ⟨rfl, hb⟩; have n1_ := aS_ (D.out.below hb); clear D hb; have D := n1_; clear n1_; have hcd15 : w2.cell? ⟨gd, 15, none⟩ = some (.int .i64 typ) := bC_ D.out.b 15 rfl))
    clear hcd15;have n1_ := aS_ (D.out.below (below_drew (Below.refl _ _)));clear D;have D := n1_;clear n1_;refine start_ (n := 26) (S := fun w' => w'.cell? ⟨gd, 14, none⟩ = some (.slice Au l.length cu) ∧ w'.cell? ⟨gd, 15, none⟩ = some (.int .i64 typ) ∧ w'.cell? ⟨gd, 16, none⟩ = some (.string host) ∧ w'.cell? ⟨gd, 17, none⟩ = some (.int .u32 gen) ∧ w'.cell? ⟨gd, 18, none⟩ = some (.bool apt) ∧ w'.cell? ⟨gd, 2, none⟩ = some (.string c.f2) ∧ w'.cell? ⟨gd, 11, none⟩ = some (.int .i64 c.f11)) (ds := []) #[false, false, false, false, false, false, false, false, false, false, false, false, false, false, false, false, false, false, false, false, false, false, false, false, false, false] (by kernel_rfl) rfl rfl ⟨bC_ D.out.b 14 rfl, bC_ D.out.b 15 rfl, bC_ D.out.b 16 rfl, bC_ D.out.b 17 rfl, bC_ D.out.b 18 rfl, bC_ D.out.b 2 rfl, bC_ D.out.b 11 rfl⟩ (fun hHeld => ?_);generalize w2.drew = w3 at D hHeld ⊢;refine qon_ 0 (some 26) (dB 26 1) ?_;refine qon_ 1 (some 27) (dB 26 3) ?_;refine qon_ 2 (some 28) (dB 26 7) ?_;refine qon_ 4 (some 30) (dB 26 23) ?_;refine qon_ 5 (some 31) (dB 26 55) ?_;refine qon_ 6 (some 32) (dB 26 119) ?_;refine qon_ 7 (some 33) (dB 26 247) ?_;refine qtk_ 3 (some 29) (dB 26 255) hHeld ?_;refine qtk_ 8 (some 34) (dB 26 511) hHeld ?_;refine one_ (i := 9) (N := some 35) (dB 26 1023) rfl rfl (by kernel_rfl) (by decide) (fun K hK => ?_);refine goes_ Tryd.func29 (by kernel_rfl) rfl #[.agg #[.slice Au l.length cu, .int .i64 typ, .string host, .int .u32 gen, .bool apt], .string c.f2] (by rfl) rfl rfl (by simp only [List.map_toArray, List.map_cons, List.map_nil]; rfl) ?_
    with_reducible refine (access_Holds.calls k Au cu l typ host gen apt c.f2 true _ (Kd.R_reads' D.out.r).2.2 (Kd.R_reads' D.out.r).2.1 (Glob.keep HG.out D.out.hb) HH.out).mono ?_
    rintro e_ w4 ⟨rfl, hb⟩;have n1_ := aS_ (D.out.below hb);clear D hb;have D := n1_;clear n1_;refine ⟨_, rfl, ?_⟩;refine hK.out _ _ ⟨bC_ D.out.b 14 rfl, bC_ D.out.b 15 rfl, bC_ D.out.b 16 rfl, bC_ D.out.b 17 rfl, bC_ D.out.b 18 rfl, bC_ D.out.b 2 rfl, bC_ D.out.b 11 rfl⟩ (fun hHeld => ?_);clear hK K;refine norm_ (a' := ?_) ?_ ?_
    rotate_left
    ·show Act.put _ (some 35) _ = _
     simp only [Act.put, la_, lb_, lc_, i64_w, i32_w];rfl
    refine qon_ 10 (some 36) (dB 26 2047) ?_;refine qon_ 11 (some 37) (dB 26 4095) ?_;refine qon_ 12 (some 38) (dB 26 8191) ?_;refine qon_ 13 (some 39) (dB 26 16383) ?_;refine qon_ 14 (some 40) (dB 26 32767) ?_;refine qon_ 15 (some 41) (dB 26 65535) ?_;refine qon_ 16 (some 42) (dB 26 131071) ?_;refine qon_ 18 (some 44) (dB 26 393215) ?_;refine qon_ 19 (some 45) (dB 26 917503) ?_;refine qon_ 20 (some 46) (dB 26 1966079) ?_;refine qon_ 21 (some 47) (dB 26 4063231) ?_;refine qtk_ 17 (some 43) (dB 26 4194303) hHeld ?_;refine qtk_ 22 (some 48) (dB 26 8388607) hHeld ?_;refine qon_ 23 (some 49) (dB 26 16777215) ?_;refine qon_ 24 (some 50) (dB 26 33554431) ?_;refine qon_ 25 (some 25) (dB 26 67108863) ?_;refine done_ (by kernel_rfl) ?_;go_wp2;go_ret;exact ⟨rfl, D.out⟩
theorem release_no (k : Nat) (w0 : World) (gd : Nat) (c : S31) (rg u ue : Value) (l : List S53) (ev : List S46) (typ : Int) (host : ByteArray) (gen : Int) (apt : Bool) (kk : Int) (w : World) (hd : Dd w0 w gd c rg u l typ host gen apt ue ev) (hk : resv_Key.f k l typ host gen apt c.f2 = some kk) (ha : (kk != 0 && kk == c.f8) = false) :
  Calls Tryd.prog 32 #[.pointer (some ⟨gd, 0, none⟩)] w fun e w' => e = .returned (.int .i64 2) ∧ Dd w0 w' gd c rg u l typ host gen apt ue ev := by
 have hu66 := Tryd.underlying66;have hu31 := Tryd.underlying31;have hu27 := Tryd.underlying27;have hu24 := Tryd.underlying24;have D := aS_ hd;have HK := aS_ hk;have HA := aS_ ha;clear ha;obtain ⟨Au, cu, eu⟩ := Kd.R_slice hd.r;subst eu;clear hd hk;go_enter Tryd.func32, Tryd.ntmps32
 go_wp2_with (first
  | (go_at_call 57; refine (asks_calls k w0 gd c rg _ _ l ev typ host gen apt kk _ D.out HK.out).mono ?_; rw [HA.out]; rintro e w2 ⟨rfl, hb⟩; have n1_ := aS_ (D.out.below hb); clear D hb; have D := n1_; clear n1_))
 go_ret;exact ⟨rfl, D.out⟩
theorem release_free (k : Nat) (w0 : World) (gd : Nat) (c : S31) (rg u ue : Value) (l : List S53) (ev : List S46) (typ : Int) (host : ByteArray) (gen : Int) (apt : Bool) (kk : Int) (w : World) (hd : Dd w0 w gd c rg u l typ host gen apt ue ev) (hk : resv_Key.f k l typ host gen apt c.f2 = some kk) (hG : Glob w0) (hho : access_Holds.f k l typ host gen apt c.f2 = some false) (ha : (kk != 0 && kk == c.f8) = true) :
    Calls Tryd.prog 32 #[.pointer (some ⟨gd, 0, none⟩)] w fun e w' => e = .returned (.int .i64 1) ∧ Dd w0 w' gd c rg u l typ host gen apt ue ev := by
  have hu66 := Tryd.underlying66;have hu31 := Tryd.underlying31;have hu27 := Tryd.underlying27;have hu24 := Tryd.underlying24;have D := aS_ hd;have HK := aS_ hk;have HA := aS_ ha;clear ha;have HG := aS_ hG;have HH := aS_ hho;clear hG hho;obtain ⟨Au, cu, eu⟩ := Kd.R_slice hd.r;subst eu;clear hd hk;go_enter Tryd.func32, Tryd.ntmps32
  go_wp2_with (first
    | (go_at_call 57; refine (asks_calls k w0 gd c rg _ _ l ev typ host gen apt kk _ D.out HK.out).mono ?_; rw [HA.out]; rintro e w2 ⟨rfl, hb⟩; have n1_ := aS_ (D.out.below hb); clear D hb; have D := n1_; clear n1_))
  have n1_ := aS_ (D.out.below (below_drew (Below.refl _ _)));clear D;have D := n1_;clear n1_;refine start_ (n := 12) (S := fun w' => w'.cell? ⟨gd, 14, none⟩ = some (.slice Au l.length cu) ∧ w'.cell? ⟨gd, 15, none⟩ = some (.int .i64 typ) ∧ w'.cell? ⟨gd, 16, none⟩ = some (.string host) ∧ w'.cell? ⟨gd, 17, none⟩ = some (.int .u32 gen) ∧ w'.cell? ⟨gd, 18, none⟩ = some (.bool apt) ∧ w'.cell? ⟨gd, 2, none⟩ = some (.string c.f2)) (ds := []) #[false, false, false, false, false, false, false, false, false, false, false, false] (by kernel_rfl) rfl rfl ⟨bC_ D.out.b 14 rfl, bC_ D.out.b 15 rfl, bC_ D.out.b 16 rfl, bC_ D.out.b 17 rfl, bC_ D.out.b 18 rfl, bC_ D.out.b 2 rfl⟩ (fun hHeld => ?_);generalize w2.drew = w3 at D hHeld ⊢;refine qon_ 0 (some 9) (dB 12 1) ?_;refine qon_ 1 (some 10) (dB 12 3) ?_;refine qon_ 2 (some 11) (dB 12 7) ?_;refine qon_ 4 (some 13) (dB 12 23) ?_;refine qon_ 5 (some 14) (dB 12 55) ?_;refine qon_ 6 (some 15) (dB 12 119) ?_;refine qon_ 7 (some 16) (dB 12 247) ?_;refine qtk_ 3 (some 12) (dB 12 255) hHeld ?_;refine qtk_ 8 (some 17) (dB 12 511) hHeld ?_;refine one_ (i := 9) (N := some 18) (dB 12 1023) rfl rfl (by kernel_rfl) (by decide) (fun K hK => ?_);refine goes_ Tryd.func29 (by kernel_rfl) rfl #[.agg #[.slice Au l.length cu, .int .i64 typ, .string host, .int .u32 gen, .bool apt], .string c.f2] (by rfl) rfl rfl (by simp only [List.map_toArray, List.map_cons, List.map_nil]; rfl) ?_
  with_reducible refine (access_Holds.calls k Au cu l typ host gen apt c.f2 false _ (Kd.R_reads' D.out.r).2.2 (Kd.R_reads' D.out.r).2.1 (Glob.keep HG.out D.out.hb) HH.out).mono ?_
  rintro e_ w4 ⟨rfl, hb⟩;have n1_ := aS_ (D.out.below hb);clear D hb;have D := n1_;clear n1_;refine ⟨_, rfl, ?_⟩;refine hK.out _ _ ⟨bC_ D.out.b 14 rfl, bC_ D.out.b 15 rfl, bC_ D.out.b 16 rfl, bC_ D.out.b 17 rfl, bC_ D.out.b 18 rfl, bC_ D.out.b 2 rfl⟩ (fun hHeld => ?_);clear hK K;refine norm_ (a' := ?_) ?_ ?_
  rotate_left
  ·show Act.put _ (some 18) _ = _
   simp only [Act.put, la_, lb_, lc_, i64_w, i32_w];rfl
  refine qon_ 10 (some 19) (dB 12 2047) ?_;refine qon_ 11 (some 8) (dB 12 4095) ?_;refine done_ (by kernel_rfl) ?_;go_wp2;go_ret;exact ⟨rfl, D.out⟩
theorem release_wrong (k : Nat) (w0 : World) (gd : Nat) (c : S31) (rg u ue : Value) (l : List S53) (ev : List S46) (typ : Int) (host : ByteArray) (gen : Int) (apt : Bool) (kk : Int) (w : World) (hd : Dd w0 w gd c rg u l typ host gen apt ue ev) (hk : resv_Key.f k l typ host gen apt c.f2 = some kk) (hG : Glob w0) (hho : access_Holds.f k l typ host gen apt c.f2 = some true) (ha : (kk != 0 && kk == c.f8) = true) (hne : (typ != c.f11) = true) :
    Calls Tryd.prog 32 #[.pointer (some ⟨gd, 0, none⟩)] w fun e w' => e = .returned (.int .i64 5) ∧ Dd w0 w' gd c rg u l typ host gen apt ue ev := by
  have hu66 := Tryd.underlying66;have hu31 := Tryd.underlying31;have hu27 := Tryd.underlying27;have hu24 := Tryd.underlying24;have D := aS_ hd;have HK := aS_ hk;have HA := aS_ ha;clear ha;have HG := aS_ hG;have HH := aS_ hho;clear hG hho;obtain ⟨Au, cu, eu⟩ := Kd.R_slice hd.r;subst eu;clear hd hk;go_enter Tryd.func32, Tryd.ntmps32
  go_wp2_with (first
    | (go_at_call 57; refine (asks_calls k w0 gd c rg _ _ l ev typ host gen apt kk _ D.out HK.out).mono ?_; rw [HA.out]; rintro e w2 ⟨rfl, hb⟩; have n1_ := aS_ (D.out.below hb); clear D hb; have D := n1_; clear n1_))
  have n1_ := aS_ (D.out.below (below_drew (Below.refl _ _)));clear D;have D := n1_;clear n1_;refine start_ (n := 12) (S := fun w' => w'.cell? ⟨gd, 14, none⟩ = some (.slice Au l.length cu) ∧ w'.cell? ⟨gd, 15, none⟩ = some (.int .i64 typ) ∧ w'.cell? ⟨gd, 16, none⟩ = some (.string host) ∧ w'.cell? ⟨gd, 17, none⟩ = some (.int .u32 gen) ∧ w'.cell? ⟨gd, 18, none⟩ = some (.bool apt) ∧ w'.cell? ⟨gd, 2, none⟩ = some (.string c.f2)) (ds := []) #[false, false, false, false, false, false, false, false, false, false, false, false] (by kernel_rfl) rfl rfl ⟨bC_ D.out.b 14 rfl, bC_ D.out.b 15 rfl, bC_ D.out.b 16 rfl, bC_ D.out.b 17 rfl, bC_ D.out.b 18 rfl, bC_ D.out.b 2 rfl⟩ (fun hHeld => ?_);generalize w2.drew = w3 at D hHeld ⊢;refine qon_ 0 (some 9) (dB 12 1) ?_;refine qon_ 1 (some 10) (dB 12 3) ?_;refine qon_ 2 (some 11) (dB 12 7) ?_;refine qon_ 4 (some 13) (dB 12 23) ?_;refine qon_ 5 (some 14) (dB 12 55) ?_;refine qon_ 6 (some 15) (dB 12 119) ?_;refine qon_ 7 (some 16) (dB 12 247) ?_;refine qtk_ 3 (some 12) (dB 12 255) hHeld ?_;refine qtk_ 8 (some 17) (dB 12 511) hHeld ?_;refine one_ (i := 9) (N := some 18) (dB 12 1023) rfl rfl (by kernel_rfl) (by decide) (fun K hK => ?_);refine goes_ Tryd.func29 (by kernel_rfl) rfl #[.agg #[.slice Au l.length cu, .int .i64 typ, .string host, .int .u32 gen, .bool apt], .string c.f2] (by rfl) rfl rfl (by simp only [List.map_toArray, List.map_cons, List.map_nil]; rfl) ?_
  with_reducible refine (access_Holds.calls k Au cu l typ host gen apt c.f2 true _ (Kd.R_reads' D.out.r).2.2 (Kd.R_reads' D.out.r).2.1 (Glob.keep HG.out D.out.hb) HH.out).mono ?_
  rintro e_ w4 ⟨rfl, hb⟩;have n1_ := aS_ (D.out.below hb);clear D hb;have D := n1_;clear n1_;refine ⟨_, rfl, ?_⟩;refine hK.out _ _ ⟨bC_ D.out.b 14 rfl, bC_ D.out.b 15 rfl, bC_ D.out.b 16 rfl, bC_ D.out.b 17 rfl, bC_ D.out.b 18 rfl, bC_ D.out.b 2 rfl⟩ (fun hHeld => ?_);clear hK K;refine norm_ (a' := ?_) ?_ ?_
  rotate_left
  ·show Act.put _ (some 18) _ = _
   simp only [Act.put, la_, lb_, lc_, i64_w, i32_w];rfl
  refine qon_ 10 (some 19) (dB 12 2047) ?_;refine qon_ 11 (some 8) (dB 12 4095) ?_;refine done_ (by kernel_rfl) ?_;go_wp2;have n1_ := aS_ (D.out.below (below_drew (Below.refl _ _)));clear D;have D := n1_;clear n1_;refine start_ (n := 13) (S := fun w' => w'.cell? ⟨gd, 15, none⟩ = some (.int .i64 typ) ∧ w'.cell? ⟨gd, 11, none⟩ = some (.int .i64 c.f11)) (ds := []) #[false, false, false, false, false, false, false, false, false, false, false, false, false] (by kernel_rfl) rfl rfl ⟨bC_ D.out.b 15 rfl, bC_ D.out.b 11 rfl⟩ (fun hHeld => ?_);generalize w4.drew = w5 at D hHeld ⊢;refine qon_ 0 (some 21) (dB 13 1) ?_;refine qon_ 1 (some 22) (dB 13 3) ?_;refine qon_ 2 (some 23) (dB 13 7) ?_;refine qon_ 3 (some 24) (dB 13 15) ?_;refine qon_ 4 (some 25) (dB 13 31) ?_;refine qon_ 6 (some 27) (dB 13 95) ?_;refine qon_ 7 (some 28) (dB 13 223) ?_;refine qon_ 8 (some 29) (dB 13 479) ?_;refine qon_ 9 (some 30) (dB 13 991) ?_;refine qtk_ 5 (some 26) (dB 13 1023) hHeld ?_;refine qtk_ 10 (some 31) (dB 13 2047) hHeld ?_;refine qon_ 11 (some 32) (dB 13 4095) ?_;refine qon_ 12 (some 20) (dB 13 8191) ?_;refine done_ (by kernel_rfl) ?_;go_wp2;go_ret;exact ⟨rfl, D.out⟩
def silent (typ : Int) : Bool := typ == 1 || typ == 2
theorem release_yes (k : Nat) (w0 : World) (gd : Nat) (c : S31) (rg u ue : Value) (l : List S53) (ev : List S46) (typ : Int) (host : ByteArray) (gen : Int) (apt : Bool) (kk : Int) (w : World) (hd : Dd w0 w gd c rg u l typ host gen apt ue ev) (hk : resv_Key.f k l typ host gen apt c.f2 = some kk) (hG : Glob w0) (hho : access_Holds.f k l typ host gen apt c.f2 = some true) (ha : (kk != 0 && kk == c.f8) = true) (hne : (typ != c.f11) = false) (hn : l.length ≤ 1000) (hev : ev.length ≤ 1000) :
    Calls Tryd.prog 32 #[.pointer (some ⟨gd, 0, none⟩)] w fun e w' => e = .returned (.int .i64 1) ∧ ∃ ue2, Dd w0 w' gd c rg u l 0 (⟨#[]⟩ : ByteArray) gen apt ue2 (ev ++ (if silent typ = true then [] else told c (fun _ _ => true) 3 l l.length)) := by
  have hu66 := Tryd.underlying66;have hu31 := Tryd.underlying31;have hu27 := Tryd.underlying27;have hu24 := Tryd.underlying24;have D := aS_ hd;have HK := aS_ hk;have HA := aS_ ha;clear ha;have HG := aS_ hG;have HH := aS_ hho;clear hG hho;have HN := aS_ hn;have HEV := aS_ hev;clear hn hev;obtain ⟨Au, cu, eu⟩ := Kd.R_slice hd.r;subst eu;clear hd hk
  obtain ⟨n1, hn1⟩ : ∃ n1, (typ != 1) = n1 := ⟨_, rfl⟩
  obtain ⟨n2, hn2⟩ : ∃ n2, (typ != 2) = n2 := ⟨_, rfl⟩
  have hs : silent typ = (!n1 || !n2) := by unfold silent; rw [← hn1, ← hn2]; simp [bne]
  rw [hs];clear hs;cases n1
  · simp only [Bool.not_false, Bool.true_or, if_true];go_enter Tryd.func32, Tryd.ntmps32
    go_wp2_with (first
      | (go_at_call 57; refine (asks_calls k w0 gd c rg _ _ l ev typ host gen apt kk _ D.out HK.out).mono ?_; rw [HA.out]; rintro e w2 ⟨rfl, hb⟩; have n1_ := aS_ (D.out.below hb); clear D hb; have D := n1_; clear n1_))
    have n1_ := aS_ (D.out.below (below_drew (Below.refl _ _)));clear D;have D := n1_;clear n1_;refine start_ (n := 12) (S := fun w' => w'.cell? ⟨gd, 14, none⟩ = some (.slice Au l.length cu) ∧ w'.cell? ⟨gd, 15, none⟩ = some (.int .i64 typ) ∧ w'.cell? ⟨gd, 16, none⟩ = some (.string host) ∧ w'.cell? ⟨gd, 17, none⟩ = some (.int .u32 gen) ∧ w'.cell? ⟨gd, 18, none⟩ = some (.bool apt) ∧ w'.cell? ⟨gd, 2, none⟩ = some (.string c.f2)) (ds := []) #[false, false, false, false, false, false, false, false, false, false, false, false] (by kernel_rfl) rfl rfl ⟨bC_ D.out.b 14 rfl, bC_ D.out.b 15 rfl, bC_ D.out.b 16 rfl, bC_ D.out.b 17 rfl, bC_ D.out.b 18 rfl, bC_ D.out.b 2 rfl⟩ (fun hHeld => ?_);generalize w2.drew = w3 at D hHeld ⊢;refine qon_ 0 (some 9) (dB 12 1) ?_;refine qon_ 1 (some 10) (dB 12 3) ?_;refine qon_ 2 (some 11) (dB 12 7) ?_;refine qon_ 4 (some 13) (dB 12 23) ?_;refine qon_ 5 (some 14) (dB 12 55) ?_;refine qon_ 6 (some 15) (dB 12 119) ?_;refine qon_ 7 (some 16) (dB 12 247) ?_;refine qtk_ 3 (some 12) (dB 12 255) hHeld ?_;refine qtk_ 8 (some 17) (dB 12 511) hHeld ?_;refine one_ (i := 9) (N := some 18) (dB 12 1023) rfl rfl (by kernel_rfl) (by decide) (fun K hK => ?_);refine goes_ Tryd.func29 (by kernel_rfl) rfl #[.agg #[.slice Au l.length cu, .int .i64 typ, .string host, .int .u32 gen, .bool apt], .string c.f2] (by rfl) rfl rfl (by simp only [List.map_toArray, List.map_cons, List.map_nil]; rfl) ?_
    with_reducible refine (access_Holds.calls k Au cu l typ host gen apt c.f2 true _ (Kd.R_reads' D.out.r).2.2 (Kd.R_reads' D.out.r).2.1 (Glob.keep HG.out D.out.hb) HH.out).mono ?_
    rintro e_ w4 ⟨rfl, hb⟩;have n1_ := aS_ (D.out.below hb);clear D hb;have D := n1_;clear n1_;refine ⟨_, rfl, ?_⟩;refine hK.out _ _ ⟨bC_ D.out.b 14 rfl, bC_ D.out.b 15 rfl, bC_ D.out.b 16 rfl, bC_ D.out.b 17 rfl, bC_ D.out.b 18 rfl, bC_ D.out.b 2 rfl⟩ (fun hHeld => ?_);clear hK K;refine norm_ (a' := ?_) ?_ ?_
    rotate_left
    ·show Act.put _ (some 18) _ = _
     simp only [Act.put, la_, lb_, lc_, i64_w, i32_w];rfl
    refine qon_ 10 (some 19) (dB 12 2047) ?_;refine qon_ 11 (some 8) (dB 12 4095) ?_;refine done_ (by kernel_rfl) ?_;go_wp2;have n1_ := aS_ (D.out.below (below_drew (Below.refl _ _)));clear D;have D := n1_;clear n1_;refine start_ (n := 13) (S := fun w' => w'.cell? ⟨gd, 15, none⟩ = some (.int .i64 typ) ∧ w'.cell? ⟨gd, 11, none⟩ = some (.int .i64 c.f11)) (ds := []) #[false, false, false, false, false, false, false, false, false, false, false, false, false] (by kernel_rfl) rfl rfl ⟨bC_ D.out.b 15 rfl, bC_ D.out.b 11 rfl⟩ (fun hHeld => ?_);generalize w4.drew = w5 at D hHeld ⊢;refine qon_ 0 (some 21) (dB 13 1) ?_;refine qon_ 1 (some 22) (dB 13 3) ?_;refine qon_ 2 (some 23) (dB 13 7) ?_;refine qon_ 3 (some 24) (dB 13 15) ?_;refine qon_ 4 (some 25) (dB 13 31) ?_;refine qon_ 6 (some 27) (dB 13 95) ?_;refine qon_ 7 (some 28) (dB 13 223) ?_;refine qon_ 8 (some 29) (dB 13 479) ?_;refine qon_ 9 (some 30) (dB 13 991) ?_;refine qtk_ 5 (some 26) (dB 13 1023) hHeld ?_;refine qtk_ 10 (some 31) (dB 13 2047) hHeld ?_;refine qon_ 11 (some 32) (dB 13 4095) ?_;refine qon_ 12 (some 20) (dB 13 8191) ?_;refine done_ (by kernel_rfl) ?_;have hcd15 : w5.cell? ⟨gd, 15, none⟩ = some (.int .i64 typ) := bC_ D.out.b 15 rfl; have hcd16 : w5.cell? ⟨gd, 16, none⟩ = some (.string host) := bC_ D.out.b 16 rfl; have hfd15 := bF_ D.out.b 15; have hfd16 := bF_ D.out.b 16;go_wp2;go_ret;exact ⟨rfl, _, by rw [List.append_nil]; exact (D.out.put 15 _ rfl).put 16 _ rfl⟩
  · cases n2
    · simp only [Bool.not_false, Bool.or_true, if_true];go_enter Tryd.func32, Tryd.ntmps32
      go_wp2_with (first
        | (go_at_call 57; refine (asks_calls k w0 gd c rg _ _ l ev typ host gen apt kk _ D.out HK.out).mono ?_; rw [HA.out]; rintro e w2 ⟨rfl, hb⟩; have n1_ := aS_ (D.out.below hb); clear D hb; have D := n1_; clear n1_))
      have n1_ := aS_ (D.out.below (below_drew (Below.refl _ _)));clear D;have D := n1_;clear n1_;refine start_ (n := 12) (S := fun w' => w'.cell? ⟨gd, 14, none⟩ = some (.slice Au l.length cu) ∧ w'.cell? ⟨gd, 15, none⟩ = some (.int .i64 typ) ∧ w'.cell? ⟨gd, 16, none⟩ = some (.string host) ∧ w'.cell? ⟨gd, 17, none⟩ = some (.int .u32 gen) ∧ w'.cell? ⟨gd, 18, none⟩ = some (.bool apt) ∧ w'.cell? ⟨gd, 2, none⟩ = some (.string c.f2)) (ds := []) #[false, false, false, false, false, false, false, false, false, false, false, false] (by kernel_rfl) rfl rfl ⟨bC_ D.out.b 14 rfl, bC_ D.out.b 15 rfl, bC_ D.out.b 16 rfl, bC_ D.out.b 17 rfl, bC_ D.out.b 18 rfl, bC_ D.out.b 2 rfl⟩ (fun hHeld => ?_);generalize w2.drew = w3 at D hHeld ⊢;refine qon_ 0 (some 9) (dB 12 1) ?_;refine qon_ 1 (some 10) (dB 12 3) ?_;refine qon_ 2 (some 11) (dB 12 7) ?_;refine qon_ 4 (some 13) (dB 12 23) ?_;refine qon_ 5 (some 14) (dB 12 55) ?_;refine qon_ 6 (some 15) (dB 12 119) ?_;refine qon_ 7 (some 16) (dB 12 247) ?_;refine qtk_ 3 (some 12) (dB 12 255) hHeld ?_;refine qtk_ 8 (some 17) (dB 12 511) hHeld ?_;refine one_ (i := 9) (N := some 18) (dB 12 1023) rfl rfl (by kernel_rfl) (by decide) (fun K hK => ?_);refine goes_ Tryd.func29 (by kernel_rfl) rfl #[.agg #[.slice Au l.length cu, .int .i64 typ, .string host, .int .u32 gen, .bool apt], .string c.f2] (by rfl) rfl rfl (by simp only [List.map_toArray, List.map_cons, List.map_nil]; rfl) ?_
      with_reducible refine (access_Holds.calls k Au cu l typ host gen apt c.f2 true _ (Kd.R_reads' D.out.r).2.2 (Kd.R_reads' D.out.r).2.1 (Glob.keep HG.out D.out.hb) HH.out).mono ?_
      rintro e_ w4 ⟨rfl, hb⟩;have n1_ := aS_ (D.out.below hb);clear D hb;have D := n1_;clear n1_;refine ⟨_, rfl, ?_⟩;refine hK.out _ _ ⟨bC_ D.out.b 14 rfl, bC_ D.out.b 15 rfl, bC_ D.out.b 16 rfl, bC_ D.out.b 17 rfl, bC_ D.out.b 18 rfl, bC_ D.out.b 2 rfl⟩ (fun hHeld => ?_);clear hK K;refine norm_ (a' := ?_) ?_ ?_
      rotate_left
      ·show Act.put _ (some 18) _ = _
       simp only [Act.put, la_, lb_, lc_, i64_w, i32_w];rfl
      refine qon_ 10 (some 19) (dB 12 2047) ?_;refine qon_ 11 (some 8) (dB 12 4095) ?_;refine done_ (by kernel_rfl) ?_;go_wp2;have n1_ := aS_ (D.out.below (below_drew (Below.refl _ _)));clear D;have D := n1_;clear n1_;refine start_ (n := 13) (S := fun w' => w'.cell? ⟨gd, 15, none⟩ = some (.int .i64 typ) ∧ w'.cell? ⟨gd, 11, none⟩ = some (.int .i64 c.f11)) (ds := []) #[false, false, false, false, false, false, false, false, false, false, false, false, false] (by kernel_rfl) rfl rfl ⟨bC_ D.out.b 15 rfl, bC_ D.out.b 11 rfl⟩ (fun hHeld => ?_);generalize w4.drew = w5 at D hHeld ⊢;refine qon_ 0 (some 21) (dB 13 1) ?_;refine qon_ 1 (some 22) (dB 13 3) ?_;refine qon_ 2 (some 23) (dB 13 7) ?_;refine qon_ 3 (some 24) (dB 13 15) ?_;refine qon_ 4 (some 25) (dB 13 31) ?_;refine qon_ 6 (some 27) (dB 13 95) ?_;refine qon_ 7 (some 28) (dB 13 223) ?_;refine qon_ 8 (some 29) (dB 13 479) ?_;refine qon_ 9 (some 30) (dB 13 991) ?_;refine qtk_ 5 (some 26) (dB 13 1023) hHeld ?_;refine qtk_ 10 (some 31) (dB 13 2047) hHeld ?_;refine qon_ 11 (some 32) (dB 13 4095) ?_;refine qon_ 12 (some 20) (dB 13 8191) ?_;refine done_ (by kernel_rfl) ?_;have hcd15 : w5.cell? ⟨gd, 15, none⟩ = some (.int .i64 typ) := bC_ D.out.b 15 rfl; have hcd16 : w5.cell? ⟨gd, 16, none⟩ = some (.string host) := bC_ D.out.b 16 rfl; have hfd15 := bF_ D.out.b 15; have hfd16 := bF_ D.out.b 16;go_wp2;go_ret;exact ⟨rfl, _, by rw [List.append_nil]; exact (D.out.put 15 _ rfl).put 16 _ rfl⟩
    · simp only [Bool.not_true, Bool.or_false, Bool.false_eq_true, if_false];go_enter Tryd.func32, Tryd.ntmps32
      go_wp2_with (first
        | (go_at_call 57; refine (asks_calls k w0 gd c rg _ _ l ev typ host gen apt kk _ D.out HK.out).mono ?_; rw [HA.out]; rintro e w2 ⟨rfl, hb⟩; have n1_ := aS_ (D.out.below hb); clear D hb; have D := n1_; clear n1_))
      have n1_ := aS_ (D.out.below (below_drew (Below.refl _ _)));clear D;have D := n1_;clear n1_;refine start_ (n := 12) (S := fun w' => w'.cell? ⟨gd, 14, none⟩ = some (.slice Au l.length cu) ∧ w'.cell? ⟨gd, 15, none⟩ = some (.int .i64 typ) ∧ w'.cell? ⟨gd, 16, none⟩ = some (.string host) ∧ w'.cell? ⟨gd, 17, none⟩ = some (.int .u32 gen) ∧ w'.cell? ⟨gd, 18, none⟩ = some (.bool apt) ∧ w'.cell? ⟨gd, 2, none⟩ = some (.string c.f2)) (ds := []) #[false, false, false, false, false, false, false, false, false, false, false, false] (by kernel_rfl) rfl rfl ⟨bC_ D.out.b 14 rfl, bC_ D.out.b 15 rfl, bC_ D.out.b 16 rfl, bC_ D.out.b 17 rfl, bC_ D.out.b 18 rfl, bC_ D.out.b 2 rfl⟩ (fun hHeld => ?_);generalize w2.drew = w3 at D hHeld ⊢;refine qon_ 0 (some 9) (dB 12 1) ?_;refine qon_ 1 (some 10) (dB 12 3) ?_;refine qon_ 2 (some 11) (dB 12 7) ?_;refine qon_ 4 (some 13) (dB 12 23) ?_;refine qon_ 5 (some 14) (dB 12 55) ?_;refine qon_ 6 (some 15) (dB 12 119) ?_;refine qon_ 7 (some 16) (dB 12 247) ?_;refine qtk_ 3 (some 12) (dB 12 255) hHeld ?_;refine qtk_ 8 (some 17) (dB 12 511) hHeld ?_;refine one_ (i := 9) (N := some 18) (dB 12 1023) rfl rfl (by kernel_rfl) (by decide) (fun K hK => ?_);refine goes_ Tryd.func29 (by kernel_rfl) rfl #[.agg #[.slice Au l.length cu, .int .i64 typ, .string host, .int .u32 gen, .bool apt], .string c.f2] (by rfl) rfl rfl (by simp only [List.map_toArray, List.map_cons, List.map_nil]; rfl) ?_
      with_reducible refine (access_Holds.calls k Au cu l typ host gen apt c.f2 true _ (Kd.R_reads' D.out.r).2.2 (Kd.R_reads' D.out.r).2.1 (Glob.keep HG.out D.out.hb) HH.out).mono ?_
      rintro e_ w4 ⟨rfl, hb⟩;have n1_ := aS_ (D.out.below hb);clear D hb;have D := n1_;clear n1_;refine ⟨_, rfl, ?_⟩;refine hK.out _ _ ⟨bC_ D.out.b 14 rfl, bC_ D.out.b 15 rfl, bC_ D.out.b 16 rfl, bC_ D.out.b 17 rfl, bC_ D.out.b 18 rfl, bC_ D.out.b 2 rfl⟩ (fun hHeld => ?_);clear hK K;refine norm_ (a' := ?_) ?_ ?_
      rotate_left
      ·show Act.put _ (some 18) _ = _
       simp only [Act.put, la_, lb_, lc_, i64_w, i32_w];rfl
      refine qon_ 10 (some 19) (dB 12 2047) ?_;refine qon_ 11 (some 8) (dB 12 4095) ?_;refine done_ (by kernel_rfl) ?_;go_wp2;have n1_ := aS_ (D.out.below (below_drew (Below.refl _ _)));clear D;have D := n1_;clear n1_;refine start_ (n := 13) (S := fun w' => w'.cell? ⟨gd, 15, none⟩ = some (.int .i64 typ) ∧ w'.cell? ⟨gd, 11, none⟩ = some (.int .i64 c.f11)) (ds := []) #[false, false, false, false, false, false, false, false, false, false, false, false, false] (by kernel_rfl) rfl rfl ⟨bC_ D.out.b 15 rfl, bC_ D.out.b 11 rfl⟩ (fun hHeld => ?_);generalize w4.drew = w5 at D hHeld ⊢;refine qon_ 0 (some 21) (dB 13 1) ?_;refine qon_ 1 (some 22) (dB 13 3) ?_;refine qon_ 2 (some 23) (dB 13 7) ?_;refine qon_ 3 (some 24) (dB 13 15) ?_;refine qon_ 4 (some 25) (dB 13 31) ?_;refine qon_ 6 (some 27) (dB 13 95) ?_;refine qon_ 7 (some 28) (dB 13 223) ?_;refine qon_ 8 (some 29) (dB 13 479) ?_;refine qon_ 9 (some 30) (dB 13 991) ?_;refine qtk_ 5 (some 26) (dB 13 1023) hHeld ?_;refine qtk_ 10 (some 31) (dB 13 2047) hHeld ?_;refine qon_ 11 (some 32) (dB 13 4095) ?_;refine qon_ 12 (some 20) (dB 13 8191) ?_;refine done_ (by kernel_rfl) ?_;have hcd15 : w5.cell? ⟨gd, 15, none⟩ = some (.int .i64 typ) := bC_ D.out.b 15 rfl; have hcd16 : w5.cell? ⟨gd, 16, none⟩ = some (.string host) := bC_ D.out.b 16 rfl; have hfd15 := bF_ D.out.b 15; have hfd16 := bF_ D.out.b 16
      go_wp2_with (first
        | (go_at_call 55; refine (tell_all w0 gd c rg _ _ l ev typ host gen apt 3 _ D.out HN.out HEV.out).mono ?_; rintro e w3 ⟨rfl, hd_⟩; obtain ⟨ue2, hd2_⟩ := hd_.out; clear D hd_; have D := aS_ hd2_; clear hd2_; clear hcd15 hcd16 hfd15 hfd16; have hcd15 : w3.cell? ⟨gd, 15, none⟩ = some (.int .i64 typ) := bC_ D.out.b 15 rfl; have hcd16 : w3.cell? ⟨gd, 16, none⟩ = some (.string host) := bC_ D.out.b 16 rfl; have hfd15 := bF_ D.out.b 15; have hfd16 := bF_ D.out.b 16))
      go_ret;exact ⟨rfl, _, (D.out.put 15 _ rfl).put 16 _ rfl⟩
end Go.Proofs.YtjogkfcjlljjcaaDoor.P
