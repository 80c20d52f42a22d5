-- joined by this session's wip/tools/pack.py: words of the kit's print, cut to what the claim names; functions printed by a patched copy of the printer; walks and lemmas of this session; Lean checks it
import Derived.Test.YtjogkfcjlljjcaaDoorBa5
import Derived.Maps.Own
import Derived.Maps.OwnOps
import Derived.Maps.OwnSet
import Derived.Maps.Views
import Derived.Carry
import Derived.Lib.SliceRun
import Derived.Deep.QuietTactic
import Derived.BigQuiet
import Derived.OwnWalk
import Derived.Laws.BytesArg
import Derived.Laws.BitsLemmas
import Derived.OpenShut
namespace Go.Proofs.YtjogkfcjlljjcaaDoor.P
open Go.RowKit Go.Proofs.YtjogkfcjlljjcaaDoorW.PrintWords Go.Proofs.YtjogkfcjlljjcaaDoorW.PrintLast Go.Proofs.YtjogkfcjlljjcaaDoorW.PrintMore
attribute [local go_sem] max2_int min2_int max_two min_two max_three min_three max_four min_four   -- for this text's walks alone
set_option linter.unusedVariables false
set_option linter.unusedSimpArgs false
set_option linter.unnecessarySimpa false
def fnR (v : Value) : Option (DataW Nat × List MemPlace) := match v with
  | .func (.func n) first cap => if first = #[] ∧ cap = #[] then some (.lit (.int .i64 (n : Int)), []) else none
  | _ => some (.lit (.int .i64 0), [])
theorem fnR_mk (n : Nat) : fnR (.func (.func n) #[] #[]) = some (.lit (.int .i64 (n : Int)), []) := rfl
theorem fnR_inv {v : Value} {n : Nat} {ps : List MemPlace} (hn : n ≠ 0) (h : fnR v = some (.lit (.int .i64 (n : Int)), ps)) : v = .func (.func n) #[] #[] := by
  unfold fnR at h
  split at h
  · split at h
    · rename_i hc
      obtain ⟨rfl, rfl⟩ := hc
      injection h with h
      injection h with h _
      injection h with h
      injection h with _ h
      rw [Int.ofNat_inj.mp h]
    · cases h
  · injection h with h
    injection h with h _
    injection h with h
    injection h with _ h
    exact absurd (Int.ofNat_inj.mp h.symm) hn
theorem below_turned {B b : Nat} {w0 w w1 : World} (h : Below B w0 w) (ht : w.mapTurned w1 b) (hb : B ≤ b) : Below B w0 w1 := by
  have hg := ht.grown
  refine ⟨hg.os.trans h.os, hg.tape.trans h.tape, hg.output.trans h.output, Nat.le_trans h.size hg.size, fun k hk => ?_⟩
  by_cases hlt : k < w.heap.size
  · exact (hg.block k hlt (fun e => by injection e with e; omega)).trans (h.block k hk)
  · have h1 := h.block k hk
    obtain ⟨es, clock, es', clock', hm, rfl⟩ := ht
    have hs : (ChangeMaps.setBlock w b (.map es' clock')).heap[k]? = w.heap[k]? := by
      simp only [ChangeMaps.setBlock]
      exact Array.getElem?_setIfInBounds_ne (by omega)
    exact hs.trans h1
def doD : DataW Nat := ((((((DataW.map []).put (.int .i64 8) (.lit (.int .i64 (30 : Nat)))).put (.int .i64 9) (.lit (.int .i64 (31 : Nat)))).put (.int .i64 10) (.lit (.int .i64 (32 : Nat)))).put (.int .i64 11) (.lit (.int .i64 (33 : Nat)))).put (.int .i64 12) (.lit (.int .i64 (34 : Nat))))
theorem doD_has (op : Int) : Maps.has doD (.int .i64 op) = decide (8 ≤ op ∧ op ≤ 12) := by
  have e : doD = .map [(.int .i64 8, .lit (.int .i64 (30 : Nat))), (.int .i64 9, .lit (.int .i64 (31 : Nat))), (.int .i64 10, .lit (.int .i64 (32 : Nat))), (.int .i64 11, .lit (.int .i64 (33 : Nat))), (.int .i64 12, .lit (.int .i64 (34 : Nat)))] := by rfl
  rw [e]
  simp only [Maps.has, List.any_cons, List.any_nil, Lit.sameKey, true_and, Bool.or_false]
  rw [Bool.eq_iff_iff]
  simp only [Bool.or_eq_true, decide_eq_true_eq]
  omega
theorem doD_at (op : Int) (n : Nat) (h : op = 8 ∧ n = 30 ∨ op = 9 ∧ n = 31 ∨ op = 10 ∧ n = 32 ∨ op = 11 ∧ n = 33 ∨ op = 12 ∧ n = 34) (z : DataW Nat) : doD.atKey (.int .i64 op) z = .lit (.int .i64 (n : Int)) := by
  rcases h with ⟨rfl, rfl⟩ | ⟨rfl, rfl⟩ | ⟨rfl, rfl⟩ | ⟨rfl, rfl⟩ | ⟨rfl, rfl⟩ <;> rfl
theorem do_map (w : World) (op : Int) (hop : (Lit.int .i64 op).wf = true) :
    ∃ w1 w2 w3 w4 w5 v, (Instr.mapUpdate 64 (.map (some w.heap.size)) (.int .i64 8) (.func (.func 30) #[] #[])).run Tryd.prog (w.alloc (.map #[] 0)) = .ok () w1
      ∧ (Instr.mapUpdate 64 (.map (some w.heap.size)) (.int .i64 9) (.func (.func 31) #[] #[])).run Tryd.prog w1 = .ok () w2
      ∧ (Instr.mapUpdate 64 (.map (some w.heap.size)) (.int .i64 10) (.func (.func 32) #[] #[])).run Tryd.prog w2 = .ok () w3
      ∧ (Instr.mapUpdate 64 (.map (some w.heap.size)) (.int .i64 11) (.func (.func 33) #[] #[])).run Tryd.prog w3 = .ok () w4
      ∧ (Instr.mapUpdate 64 (.map (some w.heap.size)) (.int .i64 12) (.func (.func 34) #[] #[])).run Tryd.prog w4 = .ok () w5
      ∧ (Instr.lookup 64 (.map (some w.heap.size)) (.int .i64 op) true).run Tryd.prog w5 = .ok (.tuple #[v, .bool (decide (8 ≤ op ∧ op ≤ 12))]) w5
      ∧ Below w.heap.size w w5
      ∧ ∀ n : Nat, (op = 8 ∧ n = 30 ∨ op = 9 ∧ n = 31 ∨ op = 10 ∧ n = 32 ∨ op = 11 ∧ n = 33 ∨ op = 12 ∧ n = 34) → v = .func (.func n) #[] #[] := by
  have K : Maps.Keyed Tryd.prog 3 := Maps.int_keyed Tryd.underlying3
  have hk : ∀ i : Int, (Lit.int .i64 i).wf = true → keyOf Tryd.prog 3 (.int .i64 i) = some (.int .i64 i) := fun i h => Maps.keyOf_int_mk Tryd.underlying3 h
  have o0 := World.ownsMap_made w Tryd.prog 3 fnR
  obtain ⟨w1, r1, o1, t1⟩ := o0.store K Tryd.underlying64 (by decide) (hk 8 (by decide)) (fnR_mk 30)
  obtain ⟨w2, r2, o2, t2⟩ := o1.store K Tryd.underlying64 (by decide) (hk 9 (by decide)) (fnR_mk 31)
  obtain ⟨w3, r3, o3, t3⟩ := o2.store K Tryd.underlying64 (by decide) (hk 10 (by decide)) (fnR_mk 32)
  obtain ⟨w4, r4, o4, t4⟩ := o3.store K Tryd.underlying64 (by decide) (hk 11 (by decide)) (fnR_mk 33)
  obtain ⟨w5, r5, o5, t5⟩ := o4.store K Tryd.underlying64 (by decide) (hk 12 (by decide)) (fnR_mk 34)
  have hz : (zeroValue 60).run Tryd.prog w5 = .ok .nilFunc w5 := by kernel_rfl
  obtain ⟨v, ps, hl, hv⟩ := o5.look_ok K Tryd.underlying64 hz rfl (hk op hop)
  refine ⟨w1, w2, w3, w4, w5, v, r1, r2, r3, r4, r5, ?_, ?_, ?_⟩
  · rw [← doD_has op]
    exact hl
  · exact below_turned (below_turned (below_turned (below_turned (below_turned (below_alloc (Below.refl _ _) _) t1 (Nat.le_refl _)) t2 (Nat.le_refl _)) t3 (Nat.le_refl _)) t4 (Nat.le_refl _)) t5 (Nat.le_refl _)
  · intro n h
    have e := doD_at op n h (.lit (.int .i64 0))
    have hn : n ≠ 0 := by omega
    refine fnR_inv hn (ps := ps) ?_
    rw [← e]
    exact hv
theorem results_do {P : Program} {fn : Func} {p t u : Tmp} {ty : TypeId} (h : fn.results = #[.cell p ty, .tmp t, .tmp u]) (tmps : Array Value) (w : World) (g : Nat) (tb : TypeId) (cs : Array Value) (fr : Nat × Nat) (d : TypeDesc)
    (hp : tmps.getD p undef = .pointer (some ⟨g, 0, none⟩)) (hg : w.heap[g]? = some (.cells cs tb fr)) (hu : P.underlying ty = some d) (hd : (match d with | .struct _ | .array _ _ => true | _ => false) = true) (hi : (P.info? ty).map (·.size) = some cs.size) :
    (results fn tmps).run P w = .ok (.tuple #[.agg cs, tmps.getD t undef, tmps.getD u undef]) w := by
  have hp' : tmps[p]?.getD undef = .pointer (some ⟨g, 0, none⟩) := by simpa using hp
  simp [results, h, hp', asAddr, run_loadVar_row w g tb ty cs fr d hg hu hd hi]
theorem R_re {α : Type} {d : Kd α} {e base base' : Nat} {w : World} {ok ok' : Nat → Prop} {v : Value} {xs : List α} (hM : ∀ {b b' : Nat} {o o' : Nat → Prop} {x : α} {cs : List Value}, d.M w b o x cs → d.M w b' o' x cs) (h : d.R e w base ok v xs) (hb : base' ≤ base) (hok : ∀ k, v.ownBlock = some k → base ≤ k → ok' k) : d.R e w base' ok' v xs := by
  have hbase : ∀ k, v.ownBlock = some k → base ≤ k := fun k hk => by
    obtain ⟨_, inner, ⟨_, ho⟩, _⟩ := h
    rcases ho with ⟨rfl, _⟩ | ⟨g, cap, cur, rfl, hg, _⟩
    · cases hk
    · injection hk with hk
      rw [← hk]
      exact hg
  obtain ⟨_, inner, ho, hr⟩ := Kd.R_lower h hb
  exact ⟨fun k hk => hok k hk (hbase k hk), inner, ho, hr.1, fun j p hj => hM (hr.2 j p hj)⟩
theorem R_re53 {e base base' : Nat} {w : World} {ok ok' : Nat → Prop} {v : Value} {xs : List S53} (h : Kd.R k53 e w base ok v xs) (hb : base' ≤ base) (hok : ∀ k, v.ownBlock = some k → base ≤ k → ok' k) : Kd.R k53 e w base' ok' v xs :=
  R_re (fun h => by have := k53_openM h; subst this; exact k53_mkM _ _ _ _) h hb hok
theorem R_re46 {e base base' : Nat} {w : World} {ok ok' : Nat → Prop} {v : Value} {xs : List S46} (h : Kd.R k46 e w base ok v xs) (hb : base' ≤ base) (hok : ∀ k, v.ownBlock = some k → base ≤ k → ok' k) : Kd.R k46 e w base' ok' v xs :=
  R_re (fun h => by have := k46_openM h; subst this; exact k46_mkM _ _ _ _) h hb hok
theorem value_event {P : Program} {ops : Array Oper} {rest : List Oper} {o : Oper} {a : Act} {Q : Exit → Act → World → Prop} {w : World} (hgd : o.guard = none) {f : FuncId} {fn : Func} {x : Operand} {xs_ : Array Operand} {ts : Array TypeId} (hf : P.funcs[f]? = some fn) (hname : (fn.name == "runtime.NumGoroutine") = false) (hb : fn.body.isSome = true) (hop : o.op = .call { callee := .value x, args := xs_, argTypes := ts }) (first cap : Array Value) (hv : a.eval x = .func (.func f) first cap) (args : Array Value) (hargs : first ++ xs_.map a.eval ++ cap = args)
    (h : Calls P f args w fun e w' => ∃ v, e = .returned v ∧ wpList P ops Q rest (a.put o.dst v) w') : wpList P ops Q (o :: rest) a w := by
  refine wpList_plain hgd fun K hK => ?_
  have he := enters_ hf hname hb args w
  unfold Oper.wp
  rw [show (execOp a.eval o).run P w = .ok (.enter f args) w from by unfold execOp; simp [hop, resolve, Deferred.ofValue, invoke, hv, hargs, he], Oper.upon_enter]
  exact h.mono fun e w' hh => by
    obtain ⟨v, rfl, hk⟩ := hh
    exact hK _ _ hk
theorem rows_apart {α β : Type} {d : Kd α} {d2 : Kd β} {e e2 base base2 : Nat} {w : World} {ok ok2 : Nat → Prop} {v v2 : Value} {xs : List α} {ys : List β} (h : d.R e w base ok v xs) (h2 : d2.R e2 w base2 ok2 v2 ys) (he : e ≠ e2) (k : Nat) (hk : v.ownBlock = some k) : some k ≠ v2.ownBlock := by
  intro z
  obtain ⟨_, i1, ho1, _⟩ := h
  obtain ⟨_, i2, ho2, _⟩ := h2
  obtain ⟨c1, h1⟩ := own_typed ho1 k hk
  obtain ⟨c2, h2⟩ := own_typed ho2 k z.symm
  rw [h1] at h2
  injection h2 with h2
  injection h2 with _ h2
  exact he h2
theorem row_put5 {α : Type} {d : Kd α} {e base g t : Nat} {w : World} {ok : Nat → Prop} {v : Value} {xs : List α} {cells : Array Value} (h : d.R e w base ok v xs) (hb : w.heap[g]? = some (.cells cells t (0, 0))) (ht : ∀ q, q ∈ e :: d.E → q ≠ t) (a b c f i : Value) :
    d.R e (((((w.setCell ⟨g, 0, none⟩ a).setCell ⟨g, 1, none⟩ b).setCell ⟨g, 2, none⟩ c).setCell ⟨g, 3, none⟩ f).setCell ⟨g, 4, none⟩ i) base ok v xs :=
  Kd.R_set (Kd.R_set (Kd.R_set (Kd.R_set (Kd.R_set h hb ht 0 a) (blk_put hb 0 a rfl) ht 1 b) (blk_put (blk_put hb 0 a rfl) 1 b rfl) ht 2 c) (blk_put (blk_put (blk_put hb 0 a rfl) 1 b rfl) 2 c rfl) ht 3 f) (blk_put (blk_put (blk_put (blk_put hb 0 a rfl) 1 b rfl) 2 c rfl) 3 f rfl) ht 4 i
set_option maxHeartbeats 8000000 in
set_option maxRecDepth 100000 in
theorem do_op (k : Nat) (P : Nat → Prop) (A0 : Option Addr) (c0 : Nat) (l : List S53) (typ : Int) (host : ByteArray) (gen : Int) (apt : Bool) (c : S31) (rg : Value) (w : World) (hs : Kd.V k53 53 w w.heap.size (fun k_ => P k_) (.slice A0 l.length c0) l) (hG : Glob w) (hop : (Lit.int .i64 c.f0).wf = true) (hno : decide (8 ≤ c.f0 ∧ c.f0 ≤ 12) = false) :
    Calls Tryd.prog 15 #[.agg #[.slice A0 l.length c0, .int .i64 typ, .string host, .int .u32 gen, .bool apt], .agg #[.int .i64 c.f0, .int .i64 c.f1, .string c.f2, .int .i64 c.f3, .int .i64 c.f4, .string c.f5, .bool c.f6, rg, .int .u64 c.f8, .int .u64 c.f9, .int .u64 c.f10, .int .i64 c.f11, .bool c.f12, .int .i64 c.f13]] w fun e w' => ∃ v0_ v5_ : Value, e = .returned (.tuple #[.agg #[v0_, .int .i64 typ, .string host, .int .u32 gen, .bool apt], v5_, .int .i64 5]) ∧ Kd.V k53 53 w' w.heap.size (fun k_ => (P k_ ∨ w.heap.size ≤ k_) ∧ some k_ ≠ (v5_ : Value).ownBlock) v0_ l ∧ Kd.R k46 46 w' w.heap.size (fun k_ => (w.heap.size ≤ k_)) v5_ [] ∧ Below w.heap.size w w' := by
  have hu27 := Tryd.underlying27
  have hu24 := Tryd.underlying24
  have hu31 := Tryd.underlying31
  have hu66 := Tryd.underlying66
  have hmm := @run_makeMap Tryd.prog
  have HS := Aside0.mk hs
  have HG := Aside0.mk hG
  have HOP := Aside0.mk hop
  have HLE := Aside0.mk (Kd.V_reads' hs).2.1
  have HB := Aside0.mk (Below.refl w.heap.size w)
  clear hs hG hop
  have HIN := Aside0.mk hno
  clear hno
  go_enter Tryd.func15, Tryd.ntmps15
  go_wp2_with (first
    | ((with_reducible refine gate_dst (N := 2) rfl ?_); refine box_event ?hg (N := 2) ?hd (cs := #[.slice A0 l.length c0, .int .i64 typ, .string host, .int .u32 gen, .bool apt]) (t := 27) ?hr ?_; (case hd => rfl); (case hg => rfl); (case hr => first | (go_simp; done) | (go_simp; rfl)); intro g2 hg w2 hbox hb; have nb_ := Aside0.mk (below_step HB.out hb); clear HB; have HB := nb_; clear nb_; have BK2 := Aside0.mk hbox; clear hb hbox hg)
    | ((with_reducible refine gate_dst (N := 3) rfl ?_); refine box_event ?hg (N := 3) ?hd (cs := #[.int .i64 c.f0, .int .i64 c.f1, .string c.f2, .int .i64 c.f3, .int .i64 c.f4, .string c.f5, .bool c.f6, rg, .int .u64 c.f8, .int .u64 c.f9, .int .u64 c.f10, .int .i64 c.f11, .bool c.f12, .int .i64 c.f13]) (t := 31) ?hr ?_; (case hd => rfl); (case hg => rfl); (case hr => first | (go_simp; done) | (go_simp; rfl)); intro g3 hg w3 hbox hb; have N32 := Aside0.mk (show g2 ≠ g3 by rw [hg]; exact Nat.ne_of_lt (blk_lt BK2.out)); have n2_ := Aside0.mk (blk_below BK2.out hb); have nb_ := Aside0.mk (below_step HB.out hb); clear HB BK2; have BK2 := n2_; clear n2_; have HB := nb_; clear nb_; have BK3 := Aside0.mk hbox; clear hb hbox hg)
    | ((with_reducible refine gate_dst (N := 4) rfl ?_); refine box_event ?hg (N := 4) ?hd (cs := #[.slice none 0 0, .int .i64 0, .string (⟨#[]⟩ : ByteArray), .int .u32 0, .bool false]) (t := 27) ?hr ?_; (case hd => rfl); (case hg => rfl); (case hr => first | (go_simp; done) | (go_simp; rfl)); intro g4 hg w4 hbox hb; have N42 := Aside0.mk (show g2 ≠ g4 by rw [hg]; exact Nat.ne_of_lt (blk_lt BK2.out)); have G4 := Aside0.mk (show w.heap.size ≤ g4 by rw [hg]; exact below_size HB.out); have n2_ := Aside0.mk (blk_below BK2.out hb); have n3_ := Aside0.mk (blk_below BK3.out hb); have nb_ := Aside0.mk (below_step HB.out hb); clear HB BK2 BK3; have BK2 := n2_; clear n2_; have BK3 := n3_; clear n3_; have HB := nb_; clear nb_; have BK4 := Aside0.mk hbox; clear hb hbox hg; obtain ⟨m1, m2, m3, m4, m5, fv, r1, r2, r3, r4, r5, rl, hb, hfv⟩ := do_map w4 c.f0 HOP.out; rw [HIN.out] at rl; have n2_ := Aside0.mk (blk_below BK2.out hb); have n3_ := Aside0.mk (blk_below BK3.out hb); have n4_ := Aside0.mk (blk_below BK4.out hb); have nb_ := Aside0.mk (below_step HB.out hb); clear HB BK2 BK3 BK4; have BK2 := n2_; clear n2_; have BK3 := n3_; clear n3_; have BK4 := n4_; clear n4_; have HB := nb_; clear nb_; clear hb hfv; have hct0 : m5.cell? ⟨g2, 0, none⟩ = some (.slice A0 l.length c0) := (blk_cell BK2.out 0).trans rfl; have hct1 : m5.cell? ⟨g2, 1, none⟩ = some (.int .i64 typ) := (blk_cell BK2.out 1).trans rfl; have hct2 : m5.cell? ⟨g2, 2, none⟩ = some (.string host) := (blk_cell BK2.out 2).trans rfl; have hct3 : m5.cell? ⟨g2, 3, none⟩ = some (.int .u32 gen) := (blk_cell BK2.out 3).trans rfl; have hct4 : m5.cell? ⟨g2, 4, none⟩ = some (.bool apt) := (blk_cell BK2.out 4).trans rfl; have hcc0 : m5.cell? ⟨g3, 0, none⟩ = some (.int .i64 c.f0) := (blk_cell BK3.out 0).trans rfl; have hcc2 : m5.cell? ⟨g3, 2, none⟩ = some (.string c.f2) := (blk_cell BK3.out 2).trans rfl; have hcr0 : m5.cell? ⟨g4, 0, none⟩ = some (.slice none 0 0) := (blk_cell BK4.out 0).trans rfl; have hfr0 := blk_frozen BK4.out 0; have hcr1 : m5.cell? ⟨g4, 1, none⟩ = some (.int .i64 0) := (blk_cell BK4.out 1).trans rfl; have hfr1 := blk_frozen BK4.out 1; have hcr2 : m5.cell? ⟨g4, 2, none⟩ = some (.string (⟨#[]⟩ : ByteArray)) := (blk_cell BK4.out 2).trans rfl; have hfr2 := blk_frozen BK4.out 2; have hcr3 : m5.cell? ⟨g4, 3, none⟩ = some (.int .u32 0) := (blk_cell BK4.out 3).trans rfl; have hfr3 := blk_frozen BK4.out 3; have hcr4 : m5.cell? ⟨g4, 4, none⟩ = some (.bool false) := (blk_cell BK4.out 4).trans rfl; have hfr4 := blk_frozen BK4.out 4))
  (try simp only [Exit.inBlock, Exit.then])
  refine bodyPost_ret (results_do rfl _ _ g4 27 #[.slice A0 l.length c0, .int .i64 typ, .string host, .int .u32 gen, .bool apt] (0, 0) _ rfl (by refine blk_put (blk_put (blk_put (blk_put (blk_put BK4.out 0 _ rfl) 1 _ rfl) 2 _ rfl) 3 _ rfl) 4 _ rfl) hu27 rfl rfl) rfl ?_
  exact ⟨_, _, rfl, Kd.V_mono (Kd.V_apart_nil (Kd.V_below HS.out ((below_set (below_set (below_set (below_set (below_set HB.out G4.out) G4.out) G4.out) G4.out) G4.out)))) (fun k_ hk_ => ⟨Or.inl hk_.1, hk_.2⟩), Kd.R_nil _ _ _ _ _, (below_set (below_set (below_set (below_set (below_set HB.out G4.out) G4.out) G4.out) G4.out) G4.out)⟩
set_option maxHeartbeats 8000000 in
set_option maxRecDepth 100000 in
theorem do_good (k : Nat) (P : Nat → Prop) (A0 : Option Addr) (c0 : Nat) (l : List S53) (typ : Int) (host : ByteArray) (gen : Int) (apt : Bool) (c : S31) (rg : Value) (w : World) (hs : Kd.V k53 53 w w.heap.size (fun k_ => P k_) (.slice A0 l.length c0) l) (hG : Glob w) (hop : (Lit.int .i64 c.f0).wf = true) (n_ : Nat) (hfn : c.f0 = 8 ∧ n_ = 30 ∨ c.f0 = 9 ∧ n_ = 31 ∨ c.f0 = 10 ∧ n_ = 32 ∨ c.f0 = 11 ∧ n_ = 33 ∨ c.f0 = 12 ∧ n_ = 34) (hgd : resv_Good.f l typ host gen apt = some false) :
    Calls Tryd.prog 15 #[.agg #[.slice A0 l.length c0, .int .i64 typ, .string host, .int .u32 gen, .bool apt], .agg #[.int .i64 c.f0, .int .i64 c.f1, .string c.f2, .int .i64 c.f3, .int .i64 c.f4, .string c.f5, .bool c.f6, rg, .int .u64 c.f8, .int .u64 c.f9, .int .u64 c.f10, .int .i64 c.f11, .bool c.f12, .int .i64 c.f13]] w fun e w' => ∃ v0_ v5_ : Value, e = .returned (.tuple #[.agg #[v0_, .int .i64 typ, .string host, .int .u32 gen, .bool apt], v5_, .int .i64 5]) ∧ Kd.V k53 53 w' w.heap.size (fun k_ => (P k_ ∨ w.heap.size ≤ k_) ∧ some k_ ≠ (v5_ : Value).ownBlock) v0_ l ∧ Kd.R k46 46 w' w.heap.size (fun k_ => (w.heap.size ≤ k_)) v5_ [] ∧ Below w.heap.size w w' := by
  have hu27 := Tryd.underlying27
  have hu24 := Tryd.underlying24
  have hu31 := Tryd.underlying31
  have hu66 := Tryd.underlying66
  have hmm := @run_makeMap Tryd.prog
  have HS := Aside0.mk hs
  have HG := Aside0.mk hG
  have HOP := Aside0.mk hop
  have HLE := Aside0.mk (Kd.V_reads' hs).2.1
  have HB := Aside0.mk (Below.refl w.heap.size w)
  clear hs hG hop
  have HFN := Aside0.mk hfn
  have HIN := Aside0.mk (show decide (8 ≤ c.f0 ∧ c.f0 ≤ 12) = true from decide_eq_true (by omega))
  clear hfn
  have HGD := Aside0.mk hgd
  clear hgd
  go_enter Tryd.func15, Tryd.ntmps15
  go_wp2_with (first
    | ((with_reducible refine gate_dst (N := 2) rfl ?_); refine box_event ?hg (N := 2) ?hd (cs := #[.slice A0 l.length c0, .int .i64 typ, .string host, .int .u32 gen, .bool apt]) (t := 27) ?hr ?_; (case hd => rfl); (case hg => rfl); (case hr => first | (go_simp; done) | (go_simp; rfl)); intro g2 hg w2 hbox hb; have nb_ := Aside0.mk (below_step HB.out hb); clear HB; have HB := nb_; clear nb_; have BK2 := Aside0.mk hbox; clear hb hbox hg)
    | ((with_reducible refine gate_dst (N := 3) rfl ?_); refine box_event ?hg (N := 3) ?hd (cs := #[.int .i64 c.f0, .int .i64 c.f1, .string c.f2, .int .i64 c.f3, .int .i64 c.f4, .string c.f5, .bool c.f6, rg, .int .u64 c.f8, .int .u64 c.f9, .int .u64 c.f10, .int .i64 c.f11, .bool c.f12, .int .i64 c.f13]) (t := 31) ?hr ?_; (case hd => rfl); (case hg => rfl); (case hr => first | (go_simp; done) | (go_simp; rfl)); intro g3 hg w3 hbox hb; have N32 := Aside0.mk (show g2 ≠ g3 by rw [hg]; exact Nat.ne_of_lt (blk_lt BK2.out)); have n2_ := Aside0.mk (blk_below BK2.out hb); have nb_ := Aside0.mk (below_step HB.out hb); clear HB BK2; have BK2 := n2_; clear n2_; have HB := nb_; clear nb_; have BK3 := Aside0.mk hbox; clear hb hbox hg)
    | ((with_reducible refine gate_dst (N := 4) rfl ?_); refine box_event ?hg (N := 4) ?hd (cs := #[.slice none 0 0, .int .i64 0, .string (⟨#[]⟩ : ByteArray), .int .u32 0, .bool false]) (t := 27) ?hr ?_; (case hd => rfl); (case hg => rfl); (case hr => first | (go_simp; done) | (go_simp; rfl)); intro g4 hg w4 hbox hb; have N42 := Aside0.mk (show g2 ≠ g4 by rw [hg]; exact Nat.ne_of_lt (blk_lt BK2.out)); have G4 := Aside0.mk (show w.heap.size ≤ g4 by rw [hg]; exact below_size HB.out); have n2_ := Aside0.mk (blk_below BK2.out hb); have n3_ := Aside0.mk (blk_below BK3.out hb); have nb_ := Aside0.mk (below_step HB.out hb); clear HB BK2 BK3; have BK2 := n2_; clear n2_; have BK3 := n3_; clear n3_; have HB := nb_; clear nb_; have BK4 := Aside0.mk hbox; clear hb hbox hg; obtain ⟨m1, m2, m3, m4, m5, fv, r1, r2, r3, r4, r5, rl, hb, hfv⟩ := do_map w4 c.f0 HOP.out; rw [hfv _ HFN.out, HIN.out] at rl; have n2_ := Aside0.mk (blk_below BK2.out hb); have n3_ := Aside0.mk (blk_below BK3.out hb); have n4_ := Aside0.mk (blk_below BK4.out hb); have nb_ := Aside0.mk (below_step HB.out hb); clear HB BK2 BK3 BK4; have BK2 := n2_; clear n2_; have BK3 := n3_; clear n3_; have BK4 := n4_; clear n4_; have HB := nb_; clear nb_; clear hb hfv; have hct0 : m5.cell? ⟨g2, 0, none⟩ = some (.slice A0 l.length c0) := (blk_cell BK2.out 0).trans rfl; have hct1 : m5.cell? ⟨g2, 1, none⟩ = some (.int .i64 typ) := (blk_cell BK2.out 1).trans rfl; have hct2 : m5.cell? ⟨g2, 2, none⟩ = some (.string host) := (blk_cell BK2.out 2).trans rfl; have hct3 : m5.cell? ⟨g2, 3, none⟩ = some (.int .u32 gen) := (blk_cell BK2.out 3).trans rfl; have hct4 : m5.cell? ⟨g2, 4, none⟩ = some (.bool apt) := (blk_cell BK2.out 4).trans rfl; have hcc0 : m5.cell? ⟨g3, 0, none⟩ = some (.int .i64 c.f0) := (blk_cell BK3.out 0).trans rfl; have hcc2 : m5.cell? ⟨g3, 2, none⟩ = some (.string c.f2) := (blk_cell BK3.out 2).trans rfl; have hcr0 : m5.cell? ⟨g4, 0, none⟩ = some (.slice none 0 0) := (blk_cell BK4.out 0).trans rfl; have hfr0 := blk_frozen BK4.out 0; have hcr1 : m5.cell? ⟨g4, 1, none⟩ = some (.int .i64 0) := (blk_cell BK4.out 1).trans rfl; have hfr1 := blk_frozen BK4.out 1; have hcr2 : m5.cell? ⟨g4, 2, none⟩ = some (.string (⟨#[]⟩ : ByteArray)) := (blk_cell BK4.out 2).trans rfl; have hfr2 := blk_frozen BK4.out 2; have hcr3 : m5.cell? ⟨g4, 3, none⟩ = some (.int .u32 0) := (blk_cell BK4.out 3).trans rfl; have hfr3 := blk_frozen BK4.out 3; have hcr4 : m5.cell? ⟨g4, 4, none⟩ = some (.bool false) := (blk_cell BK4.out 4).trans rfl; have hfr4 := blk_frozen BK4.out 4)
    | (go_at_call 21; refine (resv_Good.calls A0 c0 l typ host gen apt false _ (Kd.C_below (Kd.V_reads' HS.out).2.2 HB.out) HLE.out HGD.out).mono ?_; rintro e w5 ⟨rfl, hb⟩; have n2_ := Aside0.mk (blk_below BK2.out hb); have n3_ := Aside0.mk (blk_below BK3.out hb); have n4_ := Aside0.mk (blk_below BK4.out hb); have nb_ := Aside0.mk (below_step HB.out hb); clear HB BK2 BK3 BK4; have BK2 := n2_; clear n2_; have BK3 := n3_; clear n3_; have BK4 := n4_; clear n4_; have HB := nb_; clear nb_; clear hb hcc0 hcc2; clear hct0 hct1 hct2 hct3 hct4; clear hcr0 hfr0 hcr1 hfr1 hcr2 hfr2 hcr3 hfr3 hcr4 hfr4; have hct0 : w5.cell? ⟨g2, 0, none⟩ = some (.slice A0 l.length c0) := (blk_cell BK2.out 0).trans rfl; have hct1 : w5.cell? ⟨g2, 1, none⟩ = some (.int .i64 typ) := (blk_cell BK2.out 1).trans rfl; have hct2 : w5.cell? ⟨g2, 2, none⟩ = some (.string host) := (blk_cell BK2.out 2).trans rfl; have hct3 : w5.cell? ⟨g2, 3, none⟩ = some (.int .u32 gen) := (blk_cell BK2.out 3).trans rfl; have hct4 : w5.cell? ⟨g2, 4, none⟩ = some (.bool apt) := (blk_cell BK2.out 4).trans rfl; have hcc0 : w5.cell? ⟨g3, 0, none⟩ = some (.int .i64 c.f0) := (blk_cell BK3.out 0).trans rfl; have hcc1 : w5.cell? ⟨g3, 1, none⟩ = some (.int .i64 c.f1) := (blk_cell BK3.out 1).trans rfl; have hcc2 : w5.cell? ⟨g3, 2, none⟩ = some (.string c.f2) := (blk_cell BK3.out 2).trans rfl; have hcc3 : w5.cell? ⟨g3, 3, none⟩ = some (.int .i64 c.f3) := (blk_cell BK3.out 3).trans rfl; have hcc4 : w5.cell? ⟨g3, 4, none⟩ = some (.int .i64 c.f4) := (blk_cell BK3.out 4).trans rfl; have hcc5 : w5.cell? ⟨g3, 5, none⟩ = some (.string c.f5) := (blk_cell BK3.out 5).trans rfl; have hcc6 : w5.cell? ⟨g3, 6, none⟩ = some (.bool c.f6) := (blk_cell BK3.out 6).trans rfl; have hcc7 : w5.cell? ⟨g3, 7, none⟩ = some (rg) := (blk_cell BK3.out 7).trans rfl; have hcc8 : w5.cell? ⟨g3, 8, none⟩ = some (.int .u64 c.f8) := (blk_cell BK3.out 8).trans rfl; have hcc9 : w5.cell? ⟨g3, 9, none⟩ = some (.int .u64 c.f9) := (blk_cell BK3.out 9).trans rfl; have hcc10 : w5.cell? ⟨g3, 10, none⟩ = some (.int .u64 c.f10) := (blk_cell BK3.out 10).trans rfl; have hcc11 : w5.cell? ⟨g3, 11, none⟩ = some (.int .i64 c.f11) := (blk_cell BK3.out 11).trans rfl; have hcc12 : w5.cell? ⟨g3, 12, none⟩ = some (.bool c.f12) := (blk_cell BK3.out 12).trans rfl; have hcc13 : w5.cell? ⟨g3, 13, none⟩ = some (.int .i64 c.f13) := (blk_cell BK3.out 13).trans rfl; have hcr0 : w5.cell? ⟨g4, 0, none⟩ = some (.slice none 0 0) := (blk_cell BK4.out 0).trans rfl; have hfr0 := blk_frozen BK4.out 0; have hcr1 : w5.cell? ⟨g4, 1, none⟩ = some (.int .i64 0) := (blk_cell BK4.out 1).trans rfl; have hfr1 := blk_frozen BK4.out 1; have hcr2 : w5.cell? ⟨g4, 2, none⟩ = some (.string (⟨#[]⟩ : ByteArray)) := (blk_cell BK4.out 2).trans rfl; have hfr2 := blk_frozen BK4.out 2; have hcr3 : w5.cell? ⟨g4, 3, none⟩ = some (.int .u32 0) := (blk_cell BK4.out 3).trans rfl; have hfr3 := blk_frozen BK4.out 3; have hcr4 : w5.cell? ⟨g4, 4, none⟩ = some (.bool false) := (blk_cell BK4.out 4).trans rfl; have hfr4 := blk_frozen BK4.out 4))
  (try simp only [Exit.inBlock, Exit.then])
  refine bodyPost_ret (results_do rfl _ _ g4 27 #[.slice A0 l.length c0, .int .i64 typ, .string host, .int .u32 gen, .bool apt] (0, 0) _ rfl (by refine blk_put (blk_put (blk_put (blk_put (blk_put BK4.out 0 _ rfl) 1 _ rfl) 2 _ rfl) 3 _ rfl) 4 _ rfl) hu27 rfl rfl) rfl ?_
  exact ⟨_, _, rfl, Kd.V_mono (Kd.V_apart_nil (Kd.V_below HS.out ((below_set (below_set (below_set (below_set (below_set HB.out G4.out) G4.out) G4.out) G4.out) G4.out)))) (fun k_ hk_ => ⟨Or.inl hk_.1, hk_.2⟩), Kd.R_nil _ _ _ _ _, (below_set (below_set (below_set (below_set (below_set HB.out G4.out) G4.out) G4.out) G4.out) G4.out)⟩
set_option maxHeartbeats 8000000 in
set_option maxRecDepth 100000 in
theorem do_name (k : Nat) (P : Nat → Prop) (A0 : Option Addr) (c0 : Nat) (l : List S53) (typ : Int) (host : ByteArray) (gen : Int) (apt : Bool) (c : S31) (rg : Value) (w : World) (hs : Kd.V k53 53 w w.heap.size (fun k_ => P k_) (.slice A0 l.length c0) l) (hG : Glob w) (hop : (Lit.int .i64 c.f0).wf = true) (n_ : Nat) (hfn : c.f0 = 8 ∧ n_ = 30 ∨ c.f0 = 9 ∧ n_ = 31 ∨ c.f0 = 10 ∧ n_ = 32 ∨ c.f0 = 11 ∧ n_ = 33 ∨ c.f0 = 12 ∧ n_ = 34) (hgd : resv_Good.f l typ host gen apt = some true) (hnm : names_Name.f c.f2 = some false) :
    Calls Tryd.prog 15 #[.agg #[.slice A0 l.length c0, .int .i64 typ, .string host, .int .u32 gen, .bool apt], .agg #[.int .i64 c.f0, .int .i64 c.f1, .string c.f2, .int .i64 c.f3, .int .i64 c.f4, .string c.f5, .bool c.f6, rg, .int .u64 c.f8, .int .u64 c.f9, .int .u64 c.f10, .int .i64 c.f11, .bool c.f12, .int .i64 c.f13]] w fun e w' => ∃ v0_ v5_ : Value, e = .returned (.tuple #[.agg #[v0_, .int .i64 typ, .string host, .int .u32 gen, .bool apt], v5_, .int .i64 5]) ∧ Kd.V k53 53 w' w.heap.size (fun k_ => (P k_ ∨ w.heap.size ≤ k_) ∧ some k_ ≠ (v5_ : Value).ownBlock) v0_ l ∧ Kd.R k46 46 w' w.heap.size (fun k_ => (w.heap.size ≤ k_)) v5_ [] ∧ Below w.heap.size w w' := by
  have hu27 := Tryd.underlying27
  have hu24 := Tryd.underlying24
  have hu31 := Tryd.underlying31
  have hu66 := Tryd.underlying66
  have hmm := @run_makeMap Tryd.prog
  have HS := Aside0.mk hs
  have HG := Aside0.mk hG
  have HOP := Aside0.mk hop
  have HLE := Aside0.mk (Kd.V_reads' hs).2.1
  have HB := Aside0.mk (Below.refl w.heap.size w)
  clear hs hG hop
  have HFN := Aside0.mk hfn
  have HIN := Aside0.mk (show decide (8 ≤ c.f0 ∧ c.f0 ≤ 12) = true from decide_eq_true (by omega))
  clear hfn
  have HGD := Aside0.mk hgd
  have HNM := Aside0.mk hnm
  clear hgd hnm
  go_enter Tryd.func15, Tryd.ntmps15
  go_wp2_with (first
    | ((with_reducible refine gate_dst (N := 2) rfl ?_); refine box_event ?hg (N := 2) ?hd (cs := #[.slice A0 l.length c0, .int .i64 typ, .string host, .int .u32 gen, .bool apt]) (t := 27) ?hr ?_; (case hd => rfl); (case hg => rfl); (case hr => first | (go_simp; done) | (go_simp; rfl)); intro g2 hg w2 hbox hb; have nb_ := Aside0.mk (below_step HB.out hb); clear HB; have HB := nb_; clear nb_; have BK2 := Aside0.mk hbox; clear hb hbox hg)
    | ((with_reducible refine gate_dst (N := 3) rfl ?_); refine box_event ?hg (N := 3) ?hd (cs := #[.int .i64 c.f0, .int .i64 c.f1, .string c.f2, .int .i64 c.f3, .int .i64 c.f4, .string c.f5, .bool c.f6, rg, .int .u64 c.f8, .int .u64 c.f9, .int .u64 c.f10, .int .i64 c.f11, .bool c.f12, .int .i64 c.f13]) (t := 31) ?hr ?_; (case hd => rfl); (case hg => rfl); (case hr => first | (go_simp; done) | (go_simp; rfl)); intro g3 hg w3 hbox hb; have N32 := Aside0.mk (show g2 ≠ g3 by rw [hg]; exact Nat.ne_of_lt (blk_lt BK2.out)); have n2_ := Aside0.mk (blk_below BK2.out hb); have nb_ := Aside0.mk (below_step HB.out hb); clear HB BK2; have BK2 := n2_; clear n2_; have HB := nb_; clear nb_; have BK3 := Aside0.mk hbox; clear hb hbox hg)
    | ((with_reducible refine gate_dst (N := 4) rfl ?_); refine box_event ?hg (N := 4) ?hd (cs := #[.slice none 0 0, .int .i64 0, .string (⟨#[]⟩ : ByteArray), .int .u32 0, .bool false]) (t := 27) ?hr ?_; (case hd => rfl); (case hg => rfl); (case hr => first | (go_simp; done) | (go_simp; rfl)); intro g4 hg w4 hbox hb; have N42 := Aside0.mk (show g2 ≠ g4 by rw [hg]; exact Nat.ne_of_lt (blk_lt BK2.out)); have G4 := Aside0.mk (show w.heap.size ≤ g4 by rw [hg]; exact below_size HB.out); have n2_ := Aside0.mk (blk_below BK2.out hb); have n3_ := Aside0.mk (blk_below BK3.out hb); have nb_ := Aside0.mk (below_step HB.out hb); clear HB BK2 BK3; have BK2 := n2_; clear n2_; have BK3 := n3_; clear n3_; have HB := nb_; clear nb_; have BK4 := Aside0.mk hbox; clear hb hbox hg; obtain ⟨m1, m2, m3, m4, m5, fv, r1, r2, r3, r4, r5, rl, hb, hfv⟩ := do_map w4 c.f0 HOP.out; rw [hfv _ HFN.out, HIN.out] at rl; have n2_ := Aside0.mk (blk_below BK2.out hb); have n3_ := Aside0.mk (blk_below BK3.out hb); have n4_ := Aside0.mk (blk_below BK4.out hb); have nb_ := Aside0.mk (below_step HB.out hb); clear HB BK2 BK3 BK4; have BK2 := n2_; clear n2_; have BK3 := n3_; clear n3_; have BK4 := n4_; clear n4_; have HB := nb_; clear nb_; clear hb hfv; have hct0 : m5.cell? ⟨g2, 0, none⟩ = some (.slice A0 l.length c0) := (blk_cell BK2.out 0).trans rfl; have hct1 : m5.cell? ⟨g2, 1, none⟩ = some (.int .i64 typ) := (blk_cell BK2.out 1).trans rfl; have hct2 : m5.cell? ⟨g2, 2, none⟩ = some (.string host) := (blk_cell BK2.out 2).trans rfl; have hct3 : m5.cell? ⟨g2, 3, none⟩ = some (.int .u32 gen) := (blk_cell BK2.out 3).trans rfl; have hct4 : m5.cell? ⟨g2, 4, none⟩ = some (.bool apt) := (blk_cell BK2.out 4).trans rfl; have hcc0 : m5.cell? ⟨g3, 0, none⟩ = some (.int .i64 c.f0) := (blk_cell BK3.out 0).trans rfl; have hcc2 : m5.cell? ⟨g3, 2, none⟩ = some (.string c.f2) := (blk_cell BK3.out 2).trans rfl; have hcr0 : m5.cell? ⟨g4, 0, none⟩ = some (.slice none 0 0) := (blk_cell BK4.out 0).trans rfl; have hfr0 := blk_frozen BK4.out 0; have hcr1 : m5.cell? ⟨g4, 1, none⟩ = some (.int .i64 0) := (blk_cell BK4.out 1).trans rfl; have hfr1 := blk_frozen BK4.out 1; have hcr2 : m5.cell? ⟨g4, 2, none⟩ = some (.string (⟨#[]⟩ : ByteArray)) := (blk_cell BK4.out 2).trans rfl; have hfr2 := blk_frozen BK4.out 2; have hcr3 : m5.cell? ⟨g4, 3, none⟩ = some (.int .u32 0) := (blk_cell BK4.out 3).trans rfl; have hfr3 := blk_frozen BK4.out 3; have hcr4 : m5.cell? ⟨g4, 4, none⟩ = some (.bool false) := (blk_cell BK4.out 4).trans rfl; have hfr4 := blk_frozen BK4.out 4)
    | (go_at_call 21; refine (resv_Good.calls A0 c0 l typ host gen apt true _ (Kd.C_below (Kd.V_reads' HS.out).2.2 HB.out) HLE.out HGD.out).mono ?_; rintro e w5 ⟨rfl, hb⟩; have n2_ := Aside0.mk (blk_below BK2.out hb); have n3_ := Aside0.mk (blk_below BK3.out hb); have n4_ := Aside0.mk (blk_below BK4.out hb); have nb_ := Aside0.mk (below_step HB.out hb); clear HB BK2 BK3 BK4; have BK2 := n2_; clear n2_; have BK3 := n3_; clear n3_; have BK4 := n4_; clear n4_; have HB := nb_; clear nb_; clear hb hcc0 hcc2; clear hct0 hct1 hct2 hct3 hct4; clear hcr0 hfr0 hcr1 hfr1 hcr2 hfr2 hcr3 hfr3 hcr4 hfr4; have hct0 : w5.cell? ⟨g2, 0, none⟩ = some (.slice A0 l.length c0) := (blk_cell BK2.out 0).trans rfl; have hct1 : w5.cell? ⟨g2, 1, none⟩ = some (.int .i64 typ) := (blk_cell BK2.out 1).trans rfl; have hct2 : w5.cell? ⟨g2, 2, none⟩ = some (.string host) := (blk_cell BK2.out 2).trans rfl; have hct3 : w5.cell? ⟨g2, 3, none⟩ = some (.int .u32 gen) := (blk_cell BK2.out 3).trans rfl; have hct4 : w5.cell? ⟨g2, 4, none⟩ = some (.bool apt) := (blk_cell BK2.out 4).trans rfl; have hcc0 : w5.cell? ⟨g3, 0, none⟩ = some (.int .i64 c.f0) := (blk_cell BK3.out 0).trans rfl; have hcc1 : w5.cell? ⟨g3, 1, none⟩ = some (.int .i64 c.f1) := (blk_cell BK3.out 1).trans rfl; have hcc2 : w5.cell? ⟨g3, 2, none⟩ = some (.string c.f2) := (blk_cell BK3.out 2).trans rfl; have hcc3 : w5.cell? ⟨g3, 3, none⟩ = some (.int .i64 c.f3) := (blk_cell BK3.out 3).trans rfl; have hcc4 : w5.cell? ⟨g3, 4, none⟩ = some (.int .i64 c.f4) := (blk_cell BK3.out 4).trans rfl; have hcc5 : w5.cell? ⟨g3, 5, none⟩ = some (.string c.f5) := (blk_cell BK3.out 5).trans rfl; have hcc6 : w5.cell? ⟨g3, 6, none⟩ = some (.bool c.f6) := (blk_cell BK3.out 6).trans rfl; have hcc7 : w5.cell? ⟨g3, 7, none⟩ = some (rg) := (blk_cell BK3.out 7).trans rfl; have hcc8 : w5.cell? ⟨g3, 8, none⟩ = some (.int .u64 c.f8) := (blk_cell BK3.out 8).trans rfl; have hcc9 : w5.cell? ⟨g3, 9, none⟩ = some (.int .u64 c.f9) := (blk_cell BK3.out 9).trans rfl; have hcc10 : w5.cell? ⟨g3, 10, none⟩ = some (.int .u64 c.f10) := (blk_cell BK3.out 10).trans rfl; have hcc11 : w5.cell? ⟨g3, 11, none⟩ = some (.int .i64 c.f11) := (blk_cell BK3.out 11).trans rfl; have hcc12 : w5.cell? ⟨g3, 12, none⟩ = some (.bool c.f12) := (blk_cell BK3.out 12).trans rfl; have hcc13 : w5.cell? ⟨g3, 13, none⟩ = some (.int .i64 c.f13) := (blk_cell BK3.out 13).trans rfl; have hcr0 : w5.cell? ⟨g4, 0, none⟩ = some (.slice none 0 0) := (blk_cell BK4.out 0).trans rfl; have hfr0 := blk_frozen BK4.out 0; have hcr1 : w5.cell? ⟨g4, 1, none⟩ = some (.int .i64 0) := (blk_cell BK4.out 1).trans rfl; have hfr1 := blk_frozen BK4.out 1; have hcr2 : w5.cell? ⟨g4, 2, none⟩ = some (.string (⟨#[]⟩ : ByteArray)) := (blk_cell BK4.out 2).trans rfl; have hfr2 := blk_frozen BK4.out 2; have hcr3 : w5.cell? ⟨g4, 3, none⟩ = some (.int .u32 0) := (blk_cell BK4.out 3).trans rfl; have hfr3 := blk_frozen BK4.out 3; have hcr4 : w5.cell? ⟨g4, 4, none⟩ = some (.bool false) := (blk_cell BK4.out 4).trans rfl; have hfr4 := blk_frozen BK4.out 4)
    | (go_at_call 35; refine (names_Name.calls c.f2 false _ HNM.out).mono ?_; rintro e w6 ⟨rfl, hb⟩; have n2_ := Aside0.mk (blk_below BK2.out hb); have n3_ := Aside0.mk (blk_below BK3.out hb); have n4_ := Aside0.mk (blk_below BK4.out hb); have nb_ := Aside0.mk (below_step HB.out hb); clear HB BK2 BK3 BK4; have BK2 := n2_; clear n2_; have BK3 := n3_; clear n3_; have BK4 := n4_; clear n4_; have HB := nb_; clear nb_; clear hb; clear hct0 hct1 hct2 hct3 hct4; clear hcc0 hcc1 hcc2 hcc3 hcc4 hcc5 hcc6 hcc7 hcc8 hcc9 hcc10 hcc11 hcc12 hcc13; clear hcr0 hfr0 hcr1 hfr1 hcr2 hfr2 hcr3 hfr3 hcr4 hfr4; have hct0 : w6.cell? ⟨g2, 0, none⟩ = some (.slice A0 l.length c0) := (blk_cell BK2.out 0).trans rfl; have hct1 : w6.cell? ⟨g2, 1, none⟩ = some (.int .i64 typ) := (blk_cell BK2.out 1).trans rfl; have hct2 : w6.cell? ⟨g2, 2, none⟩ = some (.string host) := (blk_cell BK2.out 2).trans rfl; have hct3 : w6.cell? ⟨g2, 3, none⟩ = some (.int .u32 gen) := (blk_cell BK2.out 3).trans rfl; have hct4 : w6.cell? ⟨g2, 4, none⟩ = some (.bool apt) := (blk_cell BK2.out 4).trans rfl; have hcc0 : w6.cell? ⟨g3, 0, none⟩ = some (.int .i64 c.f0) := (blk_cell BK3.out 0).trans rfl; have hcc1 : w6.cell? ⟨g3, 1, none⟩ = some (.int .i64 c.f1) := (blk_cell BK3.out 1).trans rfl; have hcc2 : w6.cell? ⟨g3, 2, none⟩ = some (.string c.f2) := (blk_cell BK3.out 2).trans rfl; have hcc3 : w6.cell? ⟨g3, 3, none⟩ = some (.int .i64 c.f3) := (blk_cell BK3.out 3).trans rfl; have hcc4 : w6.cell? ⟨g3, 4, none⟩ = some (.int .i64 c.f4) := (blk_cell BK3.out 4).trans rfl; have hcc5 : w6.cell? ⟨g3, 5, none⟩ = some (.string c.f5) := (blk_cell BK3.out 5).trans rfl; have hcc6 : w6.cell? ⟨g3, 6, none⟩ = some (.bool c.f6) := (blk_cell BK3.out 6).trans rfl; have hcc7 : w6.cell? ⟨g3, 7, none⟩ = some (rg) := (blk_cell BK3.out 7).trans rfl; have hcc8 : w6.cell? ⟨g3, 8, none⟩ = some (.int .u64 c.f8) := (blk_cell BK3.out 8).trans rfl; have hcc9 : w6.cell? ⟨g3, 9, none⟩ = some (.int .u64 c.f9) := (blk_cell BK3.out 9).trans rfl; have hcc10 : w6.cell? ⟨g3, 10, none⟩ = some (.int .u64 c.f10) := (blk_cell BK3.out 10).trans rfl; have hcc11 : w6.cell? ⟨g3, 11, none⟩ = some (.int .i64 c.f11) := (blk_cell BK3.out 11).trans rfl; have hcc12 : w6.cell? ⟨g3, 12, none⟩ = some (.bool c.f12) := (blk_cell BK3.out 12).trans rfl; have hcc13 : w6.cell? ⟨g3, 13, none⟩ = some (.int .i64 c.f13) := (blk_cell BK3.out 13).trans rfl; have hcr0 : w6.cell? ⟨g4, 0, none⟩ = some (.slice none 0 0) := (blk_cell BK4.out 0).trans rfl; have hfr0 := blk_frozen BK4.out 0; have hcr1 : w6.cell? ⟨g4, 1, none⟩ = some (.int .i64 0) := (blk_cell BK4.out 1).trans rfl; have hfr1 := blk_frozen BK4.out 1; have hcr2 : w6.cell? ⟨g4, 2, none⟩ = some (.string (⟨#[]⟩ : ByteArray)) := (blk_cell BK4.out 2).trans rfl; have hfr2 := blk_frozen BK4.out 2; have hcr3 : w6.cell? ⟨g4, 3, none⟩ = some (.int .u32 0) := (blk_cell BK4.out 3).trans rfl; have hfr3 := blk_frozen BK4.out 3; have hcr4 : w6.cell? ⟨g4, 4, none⟩ = some (.bool false) := (blk_cell BK4.out 4).trans rfl; have hfr4 := blk_frozen BK4.out 4))
  (try simp only [Exit.inBlock, Exit.then])
  refine bodyPost_ret (results_do rfl _ _ g4 27 #[.slice A0 l.length c0, .int .i64 typ, .string host, .int .u32 gen, .bool apt] (0, 0) _ rfl (by refine blk_put (blk_put (blk_put (blk_put (blk_put BK4.out 0 _ rfl) 1 _ rfl) 2 _ rfl) 3 _ rfl) 4 _ rfl) hu27 rfl rfl) rfl ?_
  exact ⟨_, _, rfl, Kd.V_mono (Kd.V_apart_nil (Kd.V_below HS.out ((below_set (below_set (below_set (below_set (below_set HB.out G4.out) G4.out) G4.out) G4.out) G4.out)))) (fun k_ hk_ => ⟨Or.inl hk_.1, hk_.2⟩), Kd.R_nil _ _ _ _ _, (below_set (below_set (below_set (below_set (below_set HB.out G4.out) G4.out) G4.out) G4.out) G4.out)⟩
set_option maxHeartbeats 8000000 in
set_option maxRecDepth 100000 in
theorem do_no (k : Nat) (P : Nat → Prop) (A0 : Option Addr) (c0 : Nat) (l : List S53) (typ : Int) (host : ByteArray) (gen : Int) (apt : Bool) (c : S31) (rg : Value) (w : World) (hs : Kd.V k53 53 w w.heap.size (fun k_ => P k_) (.slice A0 l.length c0) l) (hG : Glob w) (hop : (Lit.int .i64 c.f0).wf = true) (n_ : Nat) (hfn : c.f0 = 8 ∧ n_ = 30 ∨ c.f0 = 9 ∧ n_ = 31 ∨ c.f0 = 10 ∧ n_ = 32 ∨ c.f0 = 11 ∧ n_ = 33 ∨ c.f0 = 12 ∧ n_ = 34) (fnF : Func) (hf1 : Tryd.prog.funcs[n_]? = some fnF) (hf2 : (fnF.name == "runtime.NumGoroutine") = false) (hf3 : fnF.body.isSome = true) (hgd : resv_Good.f l typ host gen apt = some true) (hnm : names_Name.f c.f2 = some true) (hn : l.length ≤ 1000) (code : Int) (hc1 : (code != 1) = true) (hcall : ∀ (wB w1 : World) (gd : Nat) (u : Value), Glob wB → Dd wB w1 gd c rg u l typ host gen apt (.slice none 0 0) [] → Calls Tryd.prog n_ #[.pointer (some ⟨gd, 0, none⟩)] w1 fun e w' => e = .returned (.int .i64 code) ∧ Dd wB w' gd c rg u l typ host gen apt (.slice none 0 0) []) :
    Calls Tryd.prog 15 #[.agg #[.slice A0 l.length c0, .int .i64 typ, .string host, .int .u32 gen, .bool apt], .agg #[.int .i64 c.f0, .int .i64 c.f1, .string c.f2, .int .i64 c.f3, .int .i64 c.f4, .string c.f5, .bool c.f6, rg, .int .u64 c.f8, .int .u64 c.f9, .int .u64 c.f10, .int .i64 c.f11, .bool c.f12, .int .i64 c.f13]] w fun e w' => ∃ v0_ v5_ : Value, e = .returned (.tuple #[.agg #[v0_, .int .i64 typ, .string host, .int .u32 gen, .bool apt], v5_, .int .i64 code]) ∧ Kd.V k53 53 w' w.heap.size (fun k_ => (P k_ ∨ w.heap.size ≤ k_) ∧ some k_ ≠ (v5_ : Value).ownBlock) v0_ l ∧ Kd.R k46 46 w' w.heap.size (fun k_ => (w.heap.size ≤ k_)) v5_ [] ∧ Below w.heap.size w w' := by
  have hu27 := Tryd.underlying27
  have hu24 := Tryd.underlying24
  have hu31 := Tryd.underlying31
  have hu66 := Tryd.underlying66
  have hmm := @run_makeMap Tryd.prog
  have HS := Aside0.mk hs
  have HG := Aside0.mk hG
  have HOP := Aside0.mk hop
  have HLE := Aside0.mk (Kd.V_reads' hs).2.1
  have HB := Aside0.mk (Below.refl w.heap.size w)
  clear hs hG hop
  have HFN := Aside0.mk hfn
  have HIN := Aside0.mk (show decide (8 ≤ c.f0 ∧ c.f0 ≤ 12) = true from decide_eq_true (by omega))
  clear hfn
  have HGD := Aside0.mk hgd
  have HNM := Aside0.mk hnm
  have HN := Aside0.mk hn
  have HCALL := Aside0.mk hcall
  have HF1 := Aside0.mk hf1
  have HF2 := Aside0.mk hf2
  have HF3 := Aside0.mk hf3
  clear hgd hnm hn hcall hf1 hf2 hf3
  go_enter Tryd.func15, Tryd.ntmps15
  go_wp2_with (first
    | ((with_reducible refine gate_dst (N := 2) rfl ?_); refine box_event ?hg (N := 2) ?hd (cs := #[.slice A0 l.length c0, .int .i64 typ, .string host, .int .u32 gen, .bool apt]) (t := 27) ?hr ?_; (case hd => rfl); (case hg => rfl); (case hr => first | (go_simp; done) | (go_simp; rfl)); intro g2 hg w2 hbox hb; have nb_ := Aside0.mk (below_step HB.out hb); clear HB; have HB := nb_; clear nb_; have BK2 := Aside0.mk hbox; clear hb hbox hg)
    | ((with_reducible refine gate_dst (N := 3) rfl ?_); refine box_event ?hg (N := 3) ?hd (cs := #[.int .i64 c.f0, .int .i64 c.f1, .string c.f2, .int .i64 c.f3, .int .i64 c.f4, .string c.f5, .bool c.f6, rg, .int .u64 c.f8, .int .u64 c.f9, .int .u64 c.f10, .int .i64 c.f11, .bool c.f12, .int .i64 c.f13]) (t := 31) ?hr ?_; (case hd => rfl); (case hg => rfl); (case hr => first | (go_simp; done) | (go_simp; rfl)); intro g3 hg w3 hbox hb; have N32 := Aside0.mk (show g2 ≠ g3 by rw [hg]; exact Nat.ne_of_lt (blk_lt BK2.out)); have n2_ := Aside0.mk (blk_below BK2.out hb); have nb_ := Aside0.mk (below_step HB.out hb); clear HB BK2; have BK2 := n2_; clear n2_; have HB := nb_; clear nb_; have BK3 := Aside0.mk hbox; clear hb hbox hg)
    | ((with_reducible refine gate_dst (N := 4) rfl ?_); refine box_event ?hg (N := 4) ?hd (cs := #[.slice none 0 0, .int .i64 0, .string (⟨#[]⟩ : ByteArray), .int .u32 0, .bool false]) (t := 27) ?hr ?_; (case hd => rfl); (case hg => rfl); (case hr => first | (go_simp; done) | (go_simp; rfl)); intro g4 hg w4 hbox hb; have N42 := Aside0.mk (show g2 ≠ g4 by rw [hg]; exact Nat.ne_of_lt (blk_lt BK2.out)); have G4 := Aside0.mk (show w.heap.size ≤ g4 by rw [hg]; exact below_size HB.out); have n2_ := Aside0.mk (blk_below BK2.out hb); have n3_ := Aside0.mk (blk_below BK3.out hb); have nb_ := Aside0.mk (below_step HB.out hb); clear HB BK2 BK3; have BK2 := n2_; clear n2_; have BK3 := n3_; clear n3_; have HB := nb_; clear nb_; have BK4 := Aside0.mk hbox; clear hb hbox hg; obtain ⟨m1, m2, m3, m4, m5, fv, r1, r2, r3, r4, r5, rl, hb, hfv⟩ := do_map w4 c.f0 HOP.out; rw [hfv _ HFN.out, HIN.out] at rl; have n2_ := Aside0.mk (blk_below BK2.out hb); have n3_ := Aside0.mk (blk_below BK3.out hb); have n4_ := Aside0.mk (blk_below BK4.out hb); have nb_ := Aside0.mk (below_step HB.out hb); clear HB BK2 BK3 BK4; have BK2 := n2_; clear n2_; have BK3 := n3_; clear n3_; have BK4 := n4_; clear n4_; have HB := nb_; clear nb_; clear hb hfv; have hct0 : m5.cell? ⟨g2, 0, none⟩ = some (.slice A0 l.length c0) := (blk_cell BK2.out 0).trans rfl; have hct1 : m5.cell? ⟨g2, 1, none⟩ = some (.int .i64 typ) := (blk_cell BK2.out 1).trans rfl; have hct2 : m5.cell? ⟨g2, 2, none⟩ = some (.string host) := (blk_cell BK2.out 2).trans rfl; have hct3 : m5.cell? ⟨g2, 3, none⟩ = some (.int .u32 gen) := (blk_cell BK2.out 3).trans rfl; have hct4 : m5.cell? ⟨g2, 4, none⟩ = some (.bool apt) := (blk_cell BK2.out 4).trans rfl; have hcc0 : m5.cell? ⟨g3, 0, none⟩ = some (.int .i64 c.f0) := (blk_cell BK3.out 0).trans rfl; have hcc2 : m5.cell? ⟨g3, 2, none⟩ = some (.string c.f2) := (blk_cell BK3.out 2).trans rfl; have hcr0 : m5.cell? ⟨g4, 0, none⟩ = some (.slice none 0 0) := (blk_cell BK4.out 0).trans rfl; have hfr0 := blk_frozen BK4.out 0; have hcr1 : m5.cell? ⟨g4, 1, none⟩ = some (.int .i64 0) := (blk_cell BK4.out 1).trans rfl; have hfr1 := blk_frozen BK4.out 1; have hcr2 : m5.cell? ⟨g4, 2, none⟩ = some (.string (⟨#[]⟩ : ByteArray)) := (blk_cell BK4.out 2).trans rfl; have hfr2 := blk_frozen BK4.out 2; have hcr3 : m5.cell? ⟨g4, 3, none⟩ = some (.int .u32 0) := (blk_cell BK4.out 3).trans rfl; have hfr3 := blk_frozen BK4.out 3; have hcr4 : m5.cell? ⟨g4, 4, none⟩ = some (.bool false) := (blk_cell BK4.out 4).trans rfl; have hfr4 := blk_frozen BK4.out 4)
    | (go_at_call 21; refine (resv_Good.calls A0 c0 l typ host gen apt true _ (Kd.C_below (Kd.V_reads' HS.out).2.2 HB.out) HLE.out HGD.out).mono ?_; rintro e w5 ⟨rfl, hb⟩; have n2_ := Aside0.mk (blk_below BK2.out hb); have n3_ := Aside0.mk (blk_below BK3.out hb); have n4_ := Aside0.mk (blk_below BK4.out hb); have nb_ := Aside0.mk (below_step HB.out hb); clear HB BK2 BK3 BK4; have BK2 := n2_; clear n2_; have BK3 := n3_; clear n3_; have BK4 := n4_; clear n4_; have HB := nb_; clear nb_; clear hb hcc0 hcc2; clear hct0 hct1 hct2 hct3 hct4; clear hcr0 hfr0 hcr1 hfr1 hcr2 hfr2 hcr3 hfr3 hcr4 hfr4; have hct0 : w5.cell? ⟨g2, 0, none⟩ = some (.slice A0 l.length c0) := (blk_cell BK2.out 0).trans rfl; have hct1 : w5.cell? ⟨g2, 1, none⟩ = some (.int .i64 typ) := (blk_cell BK2.out 1).trans rfl; have hct2 : w5.cell? ⟨g2, 2, none⟩ = some (.string host) := (blk_cell BK2.out 2).trans rfl; have hct3 : w5.cell? ⟨g2, 3, none⟩ = some (.int .u32 gen) := (blk_cell BK2.out 3).trans rfl; have hct4 : w5.cell? ⟨g2, 4, none⟩ = some (.bool apt) := (blk_cell BK2.out 4).trans rfl; have hcc0 : w5.cell? ⟨g3, 0, none⟩ = some (.int .i64 c.f0) := (blk_cell BK3.out 0).trans rfl; have hcc1 : w5.cell? ⟨g3, 1, none⟩ = some (.int .i64 c.f1) := (blk_cell BK3.out 1).trans rfl; have hcc2 : w5.cell? ⟨g3, 2, none⟩ = some (.string c.f2) := (blk_cell BK3.out 2).trans rfl; have hcc3 : w5.cell? ⟨g3, 3, none⟩ = some (.int .i64 c.f3) := (blk_cell BK3.out 3).trans rfl; have hcc4 : w5.cell? ⟨g3, 4, none⟩ = some (.int .i64 c.f4) := (blk_cell BK3.out 4).trans rfl; have hcc5 : w5.cell? ⟨g3, 5, none⟩ = some (.string c.f5) := (blk_cell BK3.out 5).trans rfl; have hcc6 : w5.cell? ⟨g3, 6, none⟩ = some (.bool c.f6) := (blk_cell BK3.out 6).trans rfl; have hcc7 : w5.cell? ⟨g3, 7, none⟩ = some (rg) := (blk_cell BK3.out 7).trans rfl; have hcc8 : w5.cell? ⟨g3, 8, none⟩ = some (.int .u64 c.f8) := (blk_cell BK3.out 8).trans rfl; have hcc9 : w5.cell? ⟨g3, 9, none⟩ = some (.int .u64 c.f9) := (blk_cell BK3.out 9).trans rfl; have hcc10 : w5.cell? ⟨g3, 10, none⟩ = some (.int .u64 c.f10) := (blk_cell BK3.out 10).trans rfl; have hcc11 : w5.cell? ⟨g3, 11, none⟩ = some (.int .i64 c.f11) := (blk_cell BK3.out 11).trans rfl; have hcc12 : w5.cell? ⟨g3, 12, none⟩ = some (.bool c.f12) := (blk_cell BK3.out 12).trans rfl; have hcc13 : w5.cell? ⟨g3, 13, none⟩ = some (.int .i64 c.f13) := (blk_cell BK3.out 13).trans rfl; have hcr0 : w5.cell? ⟨g4, 0, none⟩ = some (.slice none 0 0) := (blk_cell BK4.out 0).trans rfl; have hfr0 := blk_frozen BK4.out 0; have hcr1 : w5.cell? ⟨g4, 1, none⟩ = some (.int .i64 0) := (blk_cell BK4.out 1).trans rfl; have hfr1 := blk_frozen BK4.out 1; have hcr2 : w5.cell? ⟨g4, 2, none⟩ = some (.string (⟨#[]⟩ : ByteArray)) := (blk_cell BK4.out 2).trans rfl; have hfr2 := blk_frozen BK4.out 2; have hcr3 : w5.cell? ⟨g4, 3, none⟩ = some (.int .u32 0) := (blk_cell BK4.out 3).trans rfl; have hfr3 := blk_frozen BK4.out 3; have hcr4 : w5.cell? ⟨g4, 4, none⟩ = some (.bool false) := (blk_cell BK4.out 4).trans rfl; have hfr4 := blk_frozen BK4.out 4)
    | (go_at_call 35; refine (names_Name.calls c.f2 true _ HNM.out).mono ?_; rintro e w6 ⟨rfl, hb⟩; have n2_ := Aside0.mk (blk_below BK2.out hb); have n3_ := Aside0.mk (blk_below BK3.out hb); have n4_ := Aside0.mk (blk_below BK4.out hb); have nb_ := Aside0.mk (below_step HB.out hb); clear HB BK2 BK3 BK4; have BK2 := n2_; clear n2_; have BK3 := n3_; clear n3_; have BK4 := n4_; clear n4_; have HB := nb_; clear nb_; clear hb; clear hct0 hct1 hct2 hct3 hct4; clear hcc0 hcc1 hcc2 hcc3 hcc4 hcc5 hcc6 hcc7 hcc8 hcc9 hcc10 hcc11 hcc12 hcc13; clear hcr0 hfr0 hcr1 hfr1 hcr2 hfr2 hcr3 hfr3 hcr4 hfr4; have hct0 : w6.cell? ⟨g2, 0, none⟩ = some (.slice A0 l.length c0) := (blk_cell BK2.out 0).trans rfl; have hct1 : w6.cell? ⟨g2, 1, none⟩ = some (.int .i64 typ) := (blk_cell BK2.out 1).trans rfl; have hct2 : w6.cell? ⟨g2, 2, none⟩ = some (.string host) := (blk_cell BK2.out 2).trans rfl; have hct3 : w6.cell? ⟨g2, 3, none⟩ = some (.int .u32 gen) := (blk_cell BK2.out 3).trans rfl; have hct4 : w6.cell? ⟨g2, 4, none⟩ = some (.bool apt) := (blk_cell BK2.out 4).trans rfl; have hcc0 : w6.cell? ⟨g3, 0, none⟩ = some (.int .i64 c.f0) := (blk_cell BK3.out 0).trans rfl; have hcc1 : w6.cell? ⟨g3, 1, none⟩ = some (.int .i64 c.f1) := (blk_cell BK3.out 1).trans rfl; have hcc2 : w6.cell? ⟨g3, 2, none⟩ = some (.string c.f2) := (blk_cell BK3.out 2).trans rfl; have hcc3 : w6.cell? ⟨g3, 3, none⟩ = some (.int .i64 c.f3) := (blk_cell BK3.out 3).trans rfl; have hcc4 : w6.cell? ⟨g3, 4, none⟩ = some (.int .i64 c.f4) := (blk_cell BK3.out 4).trans rfl; have hcc5 : w6.cell? ⟨g3, 5, none⟩ = some (.string c.f5) := (blk_cell BK3.out 5).trans rfl; have hcc6 : w6.cell? ⟨g3, 6, none⟩ = some (.bool c.f6) := (blk_cell BK3.out 6).trans rfl; have hcc7 : w6.cell? ⟨g3, 7, none⟩ = some (rg) := (blk_cell BK3.out 7).trans rfl; have hcc8 : w6.cell? ⟨g3, 8, none⟩ = some (.int .u64 c.f8) := (blk_cell BK3.out 8).trans rfl; have hcc9 : w6.cell? ⟨g3, 9, none⟩ = some (.int .u64 c.f9) := (blk_cell BK3.out 9).trans rfl; have hcc10 : w6.cell? ⟨g3, 10, none⟩ = some (.int .u64 c.f10) := (blk_cell BK3.out 10).trans rfl; have hcc11 : w6.cell? ⟨g3, 11, none⟩ = some (.int .i64 c.f11) := (blk_cell BK3.out 11).trans rfl; have hcc12 : w6.cell? ⟨g3, 12, none⟩ = some (.bool c.f12) := (blk_cell BK3.out 12).trans rfl; have hcc13 : w6.cell? ⟨g3, 13, none⟩ = some (.int .i64 c.f13) := (blk_cell BK3.out 13).trans rfl; have hcr0 : w6.cell? ⟨g4, 0, none⟩ = some (.slice none 0 0) := (blk_cell BK4.out 0).trans rfl; have hfr0 := blk_frozen BK4.out 0; have hcr1 : w6.cell? ⟨g4, 1, none⟩ = some (.int .i64 0) := (blk_cell BK4.out 1).trans rfl; have hfr1 := blk_frozen BK4.out 1; have hcr2 : w6.cell? ⟨g4, 2, none⟩ = some (.string (⟨#[]⟩ : ByteArray)) := (blk_cell BK4.out 2).trans rfl; have hfr2 := blk_frozen BK4.out 2; have hcr3 : w6.cell? ⟨g4, 3, none⟩ = some (.int .u32 0) := (blk_cell BK4.out 3).trans rfl; have hfr3 := blk_frozen BK4.out 3; have hcr4 : w6.cell? ⟨g4, 4, none⟩ = some (.bool false) := (blk_cell BK4.out 4).trans rfl; have hfr4 := blk_frozen BK4.out 4)
    | ((with_reducible refine gate_dst (N := 36) rfl ?_); refine box_event ?hg (N := 36) ?hd (cs := #[.int .i64 c.f0, .int .i64 c.f1, .string c.f2, .int .i64 c.f3, .int .i64 c.f4, .string c.f5, .bool c.f6, rg, .int .u64 c.f8, .int .u64 c.f9, .int .u64 c.f10, .int .i64 c.f11, .bool c.f12, .int .i64 c.f13, .slice A0 l.length c0, .int .i64 typ, .string host, .int .u32 gen, .bool apt, .slice none 0 0]) (t := 66) ?hr ?_; (case hd => rfl); (case hg => rfl); (case hr => first | (go_simp; done) | (go_simp; rfl)); intro gd hg w7 hbox hb; have OB := Aside0.mk (show w6.heap.size ≤ gd by rw [hg]; exact Nat.le_refl _); have ND4 := Aside0.mk (show gd ≠ g4 by rw [hg]; exact Nat.ne_of_gt (blk_lt BK4.out)); have HBB := Aside0.mk hb; have HB7 := Aside0.mk (below_step HB.out hb); have BKD := Aside0.mk hbox; clear hct0 hct1 hct2 hct3 hct4; clear hcc0 hcc1 hcc2 hcc3 hcc4 hcc5 hcc6 hcc7 hcc8 hcc9 hcc10 hcc11 hcc12 hcc13; clear hcr0 hfr0 hcr1 hfr1 hcr2 hfr2 hcr3 hfr3 hcr4 hfr4; have hct0 : w7.cell? ⟨g2, 0, none⟩ = some (.slice A0 l.length c0) := (blk_cell (blk_below BK2.out hb) 0).trans rfl; clear hb hbox hg)
    | (go_at_call 36; refine (clone_calls A0 c0 l _ (Kd.C_below (Kd.V_reads' HS.out).2.2 HB7.out) HN.out).mono ?_; rintro e w8 ⟨u, rfl, hr, hb⟩; have n1_ := Aside0.mk (blk_below BKD.out hb); have n2_ := Aside0.mk (below_step HBB.out hb); have RR := Aside0.mk (Kd.R_lower hr (below_size HBB.out)); obtain ⟨Au, cu, eu⟩ := Kd.R_slice hr; subst eu; clear BKD HBB HB7 hb hr hct0; have BKD := n1_; have HBB := n2_; clear n1_ n2_; have hcd14 : w8.cell? ⟨gd, 14, none⟩ = some (.slice A0 l.length c0) := (blk_cell BKD.out 14).trans rfl; have hfd14 := blk_frozen BKD.out 14)
    | ((with_reducible refine gate_dst (N := 46) rfl ?_); refine value_event rfl HF1.out HF2.out HF3.out rfl #[] #[] rfl #[.pointer (some ⟨gd, 0, none⟩)] (by simp only [List.map_toArray, List.map_cons, List.map_nil]; rfl) ?_; refine deed_call (fun w' => Aside0 (Dd w6 w' gd c rg (.slice Au l.length cu) l typ host gen apt (.slice none 0 0) [])) ⟨⟨OB.out, blk_put BKD.out 14 _ rfl, Kd.R_mono (Kd.R_far (p := ⟨gd, 14, none⟩) (Kd.R_types RR.out BKD.out (by decide)) (fun _ hk => hk.2) _) (fun _ hk => hk.1), Kd.R_nil _ _ _ _ _, below_set HBB.out OB.out⟩⟩ ?_; intro w9 D9; clear RR BKD HBB hcd14 hfd14; refine (HCALL.out w6 w9 gd _ (Glob.keep HG.out HB.out) D9.out).mono ?_; clear D9; rintro e w10 ⟨rfl, hd_⟩; have n1_ := Aside0.mk (blk_below BK2.out hd_.hb); have n2_ := Aside0.mk (blk_below BK4.out hd_.hb); have n3_ := Aside0.mk (below_step HB.out hd_.hb); clear BK2 BK4 HB hd_; have BK2 := n1_; have BK4 := n2_; have HB := n3_; clear n1_ n2_ n3_; have hct0 : w10.cell? ⟨g2, 0, none⟩ = some (.slice A0 l.length c0) := (blk_cell BK2.out 0).trans rfl; have hct1 : w10.cell? ⟨g2, 1, none⟩ = some (.int .i64 typ) := (blk_cell BK2.out 1).trans rfl; have hct2 : w10.cell? ⟨g2, 2, none⟩ = some (.string host) := (blk_cell BK2.out 2).trans rfl; have hct3 : w10.cell? ⟨g2, 3, none⟩ = some (.int .u32 gen) := (blk_cell BK2.out 3).trans rfl; have hct4 : w10.cell? ⟨g2, 4, none⟩ = some (.bool apt) := (blk_cell BK2.out 4).trans rfl; have hcr0 : w10.cell? ⟨g4, 0, none⟩ = some (.slice none 0 0) := (blk_cell BK4.out 0).trans rfl; have hfr0 := blk_frozen BK4.out 0; have hcr1 : w10.cell? ⟨g4, 1, none⟩ = some (.int .i64 0) := (blk_cell BK4.out 1).trans rfl; have hfr1 := blk_frozen BK4.out 1; have hcr2 : w10.cell? ⟨g4, 2, none⟩ = some (.string (⟨#[]⟩ : ByteArray)) := (blk_cell BK4.out 2).trans rfl; have hfr2 := blk_frozen BK4.out 2; have hcr3 : w10.cell? ⟨g4, 3, none⟩ = some (.int .u32 0) := (blk_cell BK4.out 3).trans rfl; have hfr3 := blk_frozen BK4.out 3; have hcr4 : w10.cell? ⟨g4, 4, none⟩ = some (.bool false) := (blk_cell BK4.out 4).trans rfl; have hfr4 := blk_frozen BK4.out 4; refine ⟨_, rfl, ?_⟩))
  (try simp only [Exit.inBlock, Exit.then])
  refine bodyPost_ret (results_do rfl _ _ g4 27 #[.slice A0 l.length c0, .int .i64 typ, .string host, .int .u32 gen, .bool apt] (0, 0) _ rfl (by refine blk_put (blk_put (blk_put (blk_put (blk_put BK4.out 0 _ rfl) 1 _ rfl) 2 _ rfl) 3 _ rfl) 4 _ rfl) hu27 rfl rfl) rfl ?_
  exact ⟨_, _, rfl, Kd.V_mono (Kd.V_apart_nil (Kd.V_below HS.out ((below_set (below_set (below_set (below_set (below_set HB.out G4.out) G4.out) G4.out) G4.out) G4.out)))) (fun k_ hk_ => ⟨Or.inl hk_.1, hk_.2⟩), Kd.R_nil _ _ _ _ _, (below_set (below_set (below_set (below_set (below_set HB.out G4.out) G4.out) G4.out) G4.out) G4.out)⟩
set_option maxHeartbeats 8000000 in
set_option maxRecDepth 100000 in
theorem do_yes (k : Nat) (P : Nat → Prop) (A0 : Option Addr) (c0 : Nat) (l : List S53) (typ : Int) (host : ByteArray) (gen : Int) (apt : Bool) (c : S31) (rg : Value) (w : World) (hs : Kd.V k53 53 w w.heap.size (fun k_ => P k_) (.slice A0 l.length c0) l) (hG : Glob w) (hop : (Lit.int .i64 c.f0).wf = true) (n_ : Nat) (hfn : c.f0 = 8 ∧ n_ = 30 ∨ c.f0 = 9 ∧ n_ = 31 ∨ c.f0 = 10 ∧ n_ = 32 ∨ c.f0 = 11 ∧ n_ = 33 ∨ c.f0 = 12 ∧ n_ = 34) (fnF : Func) (hf1 : Tryd.prog.funcs[n_]? = some fnF) (hf2 : (fnF.name == "runtime.NumGoroutine") = false) (hf3 : fnF.body.isSome = true) (hgd : resv_Good.f l typ host gen apt = some true) (hnm : names_Name.f c.f2 = some true) (hn : l.length ≤ 1000) (l2 : List S53) (typ2 : Int) (host2 : ByteArray) (gen2 : Int) (apt2 : Bool) (ev2 : List S46) (hcall : ∀ (wB w1 : World) (gd : Nat) (u : Value), Glob wB → Dd wB w1 gd c rg u l typ host gen apt (.slice none 0 0) [] → Calls Tryd.prog n_ #[.pointer (some ⟨gd, 0, none⟩)] w1 fun e w' => e = .returned (.int .i64 1) ∧ ∃ u2 ue2, Dd wB w' gd c rg u2 l2 typ2 host2 gen2 apt2 ue2 ev2) :
    Calls Tryd.prog 15 #[.agg #[.slice A0 l.length c0, .int .i64 typ, .string host, .int .u32 gen, .bool apt], .agg #[.int .i64 c.f0, .int .i64 c.f1, .string c.f2, .int .i64 c.f3, .int .i64 c.f4, .string c.f5, .bool c.f6, rg, .int .u64 c.f8, .int .u64 c.f9, .int .u64 c.f10, .int .i64 c.f11, .bool c.f12, .int .i64 c.f13]] w fun e w' => ∃ v0_ v5_ : Value, e = .returned (.tuple #[.agg #[v0_, .int .i64 typ2, .string host2, .int .u32 gen2, .bool apt2], v5_, .int .i64 1]) ∧ Kd.V k53 53 w' w.heap.size (fun k_ => (P k_ ∨ w.heap.size ≤ k_) ∧ some k_ ≠ (v5_ : Value).ownBlock) v0_ l2 ∧ Kd.R k46 46 w' w.heap.size (fun k_ => (w.heap.size ≤ k_)) v5_ ev2 ∧ Below w.heap.size w w' := by
  have hu27 := Tryd.underlying27
  have hu24 := Tryd.underlying24
  have hu31 := Tryd.underlying31
  have hu66 := Tryd.underlying66
  have hmm := @run_makeMap Tryd.prog
  have HS := Aside0.mk hs
  have HG := Aside0.mk hG
  have HOP := Aside0.mk hop
  have HLE := Aside0.mk (Kd.V_reads' hs).2.1
  have HB := Aside0.mk (Below.refl w.heap.size w)
  clear hs hG hop
  have HFN := Aside0.mk hfn
  have HIN := Aside0.mk (show decide (8 ≤ c.f0 ∧ c.f0 ≤ 12) = true from decide_eq_true (by omega))
  clear hfn
  have HGD := Aside0.mk hgd
  have HNM := Aside0.mk hnm
  have HN := Aside0.mk hn
  have HCALL := Aside0.mk hcall
  have HF1 := Aside0.mk hf1
  have HF2 := Aside0.mk hf2
  have HF3 := Aside0.mk hf3
  clear hgd hnm hn hcall hf1 hf2 hf3
  go_enter Tryd.func15, Tryd.ntmps15
  go_wp2_with (first
    | ((with_reducible refine gate_dst (N := 2) rfl ?_); refine box_event ?hg (N := 2) ?hd (cs := #[.slice A0 l.length c0, .int .i64 typ, .string host, .int .u32 gen, .bool apt]) (t := 27) ?hr ?_; (case hd => rfl); (case hg => rfl); (case hr => first | (go_simp; done) | (go_simp; rfl)); intro g2 hg w2 hbox hb; have nb_ := Aside0.mk (below_step HB.out hb); clear HB; have HB := nb_; clear nb_; have BK2 := Aside0.mk hbox; clear hb hbox hg)
    | ((with_reducible refine gate_dst (N := 3) rfl ?_); refine box_event ?hg (N := 3) ?hd (cs := #[.int .i64 c.f0, .int .i64 c.f1, .string c.f2, .int .i64 c.f3, .int .i64 c.f4, .string c.f5, .bool c.f6, rg, .int .u64 c.f8, .int .u64 c.f9, .int .u64 c.f10, .int .i64 c.f11, .bool c.f12, .int .i64 c.f13]) (t := 31) ?hr ?_; (case hd => rfl); (case hg => rfl); (case hr => first | (go_simp; done) | (go_simp; rfl)); intro g3 hg w3 hbox hb; have N32 := Aside0.mk (show g2 ≠ g3 by rw [hg]; exact Nat.ne_of_lt (blk_lt BK2.out)); have n2_ := Aside0.mk (blk_below BK2.out hb); have nb_ := Aside0.mk (below_step HB.out hb); clear HB BK2; have BK2 := n2_; clear n2_; have HB := nb_; clear nb_; have BK3 := Aside0.mk hbox; clear hb hbox hg)
    | ((with_reducible refine gate_dst (N := 4) rfl ?_); refine box_event ?hg (N := 4) ?hd (cs := #[.slice none 0 0, .int .i64 0, .string (⟨#[]⟩ : ByteArray), .int .u32 0, .bool false]) (t := 27) ?hr ?_; (case hd => rfl); (case hg => rfl); (case hr => first | (go_simp; done) | (go_simp; rfl)); intro g4 hg w4 hbox hb; have N42 := Aside0.mk (show g2 ≠ g4 by rw [hg]; exact Nat.ne_of_lt (blk_lt BK2.out)); have G4 := Aside0.mk (show w.heap.size ≤ g4 by rw [hg]; exact below_size HB.out); have n2_ := Aside0.mk (blk_below BK2.out hb); have n3_ := Aside0.mk (blk_below BK3.out hb); have nb_ := Aside0.mk (below_step HB.out hb); clear HB BK2 BK3; have BK2 := n2_; clear n2_; have BK3 := n3_; clear n3_; have HB := nb_; clear nb_; have BK4 := Aside0.mk hbox; clear hb hbox hg; obtain ⟨m1, m2, m3, m4, m5, fv, r1, r2, r3, r4, r5, rl, hb, hfv⟩ := do_map w4 c.f0 HOP.out; rw [hfv _ HFN.out, HIN.out] at rl; have n2_ := Aside0.mk (blk_below BK2.out hb); have n3_ := Aside0.mk (blk_below BK3.out hb); have n4_ := Aside0.mk (blk_below BK4.out hb); have nb_ := Aside0.mk (below_step HB.out hb); clear HB BK2 BK3 BK4; have BK2 := n2_; clear n2_; have BK3 := n3_; clear n3_; have BK4 := n4_; clear n4_; have HB := nb_; clear nb_; clear hb hfv; have hct0 : m5.cell? ⟨g2, 0, none⟩ = some (.slice A0 l.length c0) := (blk_cell BK2.out 0).trans rfl; have hct1 : m5.cell? ⟨g2, 1, none⟩ = some (.int .i64 typ) := (blk_cell BK2.out 1).trans rfl; have hct2 : m5.cell? ⟨g2, 2, none⟩ = some (.string host) := (blk_cell BK2.out 2).trans rfl; have hct3 : m5.cell? ⟨g2, 3, none⟩ = some (.int .u32 gen) := (blk_cell BK2.out 3).trans rfl; have hct4 : m5.cell? ⟨g2, 4, none⟩ = some (.bool apt) := (blk_cell BK2.out 4).trans rfl; have hcc0 : m5.cell? ⟨g3, 0, none⟩ = some (.int .i64 c.f0) := (blk_cell BK3.out 0).trans rfl; have hcc2 : m5.cell? ⟨g3, 2, none⟩ = some (.string c.f2) := (blk_cell BK3.out 2).trans rfl; have hcr0 : m5.cell? ⟨g4, 0, none⟩ = some (.slice none 0 0) := (blk_cell BK4.out 0).trans rfl; have hfr0 := blk_frozen BK4.out 0; have hcr1 : m5.cell? ⟨g4, 1, none⟩ = some (.int .i64 0) := (blk_cell BK4.out 1).trans rfl; have hfr1 := blk_frozen BK4.out 1; have hcr2 : m5.cell? ⟨g4, 2, none⟩ = some (.string (⟨#[]⟩ : ByteArray)) := (blk_cell BK4.out 2).trans rfl; have hfr2 := blk_frozen BK4.out 2; have hcr3 : m5.cell? ⟨g4, 3, none⟩ = some (.int .u32 0) := (blk_cell BK4.out 3).trans rfl; have hfr3 := blk_frozen BK4.out 3; have hcr4 : m5.cell? ⟨g4, 4, none⟩ = some (.bool false) := (blk_cell BK4.out 4).trans rfl; have hfr4 := blk_frozen BK4.out 4)
    | (go_at_call 21; refine (resv_Good.calls A0 c0 l typ host gen apt true _ (Kd.C_below (Kd.V_reads' HS.out).2.2 HB.out) HLE.out HGD.out).mono ?_; rintro e w5 ⟨rfl, hb⟩; have n2_ := Aside0.mk (blk_below BK2.out hb); have n3_ := Aside0.mk (blk_below BK3.out hb); have n4_ := Aside0.mk (blk_below BK4.out hb); have nb_ := Aside0.mk (below_step HB.out hb); clear HB BK2 BK3 BK4; have BK2 := n2_; clear n2_; have BK3 := n3_; clear n3_; have BK4 := n4_; clear n4_; have HB := nb_; clear nb_; clear hb hcc0 hcc2; clear hct0 hct1 hct2 hct3 hct4; clear hcr0 hfr0 hcr1 hfr1 hcr2 hfr2 hcr3 hfr3 hcr4 hfr4; have hct0 : w5.cell? ⟨g2, 0, none⟩ = some (.slice A0 l.length c0) := (blk_cell BK2.out 0).trans rfl; have hct1 : w5.cell? ⟨g2, 1, none⟩ = some (.int .i64 typ) := (blk_cell BK2.out 1).trans rfl; have hct2 : w5.cell? ⟨g2, 2, none⟩ = some (.string host) := (blk_cell BK2.out 2).trans rfl; have hct3 : w5.cell? ⟨g2, 3, none⟩ = some (.int .u32 gen) := (blk_cell BK2.out 3).trans rfl; have hct4 : w5.cell? ⟨g2, 4, none⟩ = some (.bool apt) := (blk_cell BK2.out 4).trans rfl; have hcc0 : w5.cell? ⟨g3, 0, none⟩ = some (.int .i64 c.f0) := (blk_cell BK3.out 0).trans rfl; have hcc1 : w5.cell? ⟨g3, 1, none⟩ = some (.int .i64 c.f1) := (blk_cell BK3.out 1).trans rfl; have hcc2 : w5.cell? ⟨g3, 2, none⟩ = some (.string c.f2) := (blk_cell BK3.out 2).trans rfl; have hcc3 : w5.cell? ⟨g3, 3, none⟩ = some (.int .i64 c.f3) := (blk_cell BK3.out 3).trans rfl; have hcc4 : w5.cell? ⟨g3, 4, none⟩ = some (.int .i64 c.f4) := (blk_cell BK3.out 4).trans rfl; have hcc5 : w5.cell? ⟨g3, 5, none⟩ = some (.string c.f5) := (blk_cell BK3.out 5).trans rfl; have hcc6 : w5.cell? ⟨g3, 6, none⟩ = some (.bool c.f6) := (blk_cell BK3.out 6).trans rfl; have hcc7 : w5.cell? ⟨g3, 7, none⟩ = some (rg) := (blk_cell BK3.out 7).trans rfl; have hcc8 : w5.cell? ⟨g3, 8, none⟩ = some (.int .u64 c.f8) := (blk_cell BK3.out 8).trans rfl; have hcc9 : w5.cell? ⟨g3, 9, none⟩ = some (.int .u64 c.f9) := (blk_cell BK3.out 9).trans rfl; have hcc10 : w5.cell? ⟨g3, 10, none⟩ = some (.int .u64 c.f10) := (blk_cell BK3.out 10).trans rfl; have hcc11 : w5.cell? ⟨g3, 11, none⟩ = some (.int .i64 c.f11) := (blk_cell BK3.out 11).trans rfl; have hcc12 : w5.cell? ⟨g3, 12, none⟩ = some (.bool c.f12) := (blk_cell BK3.out 12).trans rfl; have hcc13 : w5.cell? ⟨g3, 13, none⟩ = some (.int .i64 c.f13) := (blk_cell BK3.out 13).trans rfl; have hcr0 : w5.cell? ⟨g4, 0, none⟩ = some (.slice none 0 0) := (blk_cell BK4.out 0).trans rfl; have hfr0 := blk_frozen BK4.out 0; have hcr1 : w5.cell? ⟨g4, 1, none⟩ = some (.int .i64 0) := (blk_cell BK4.out 1).trans rfl; have hfr1 := blk_frozen BK4.out 1; have hcr2 : w5.cell? ⟨g4, 2, none⟩ = some (.string (⟨#[]⟩ : ByteArray)) := (blk_cell BK4.out 2).trans rfl; have hfr2 := blk_frozen BK4.out 2; have hcr3 : w5.cell? ⟨g4, 3, none⟩ = some (.int .u32 0) := (blk_cell BK4.out 3).trans rfl; have hfr3 := blk_frozen BK4.out 3; have hcr4 : w5.cell? ⟨g4, 4, none⟩ = some (.bool false) := (blk_cell BK4.out 4).trans rfl; have hfr4 := blk_frozen BK4.out 4)
    | (go_at_call 35; refine (names_Name.calls c.f2 true _ HNM.out).mono ?_; rintro e w6 ⟨rfl, hb⟩; have n2_ := Aside0.mk (blk_below BK2.out hb); have n3_ := Aside0.mk (blk_below BK3.out hb); have n4_ := Aside0.mk (blk_below BK4.out hb); have nb_ := Aside0.mk (below_step HB.out hb); clear HB BK2 BK3 BK4; have BK2 := n2_; clear n2_; have BK3 := n3_; clear n3_; have BK4 := n4_; clear n4_; have HB := nb_; clear nb_; clear hb; clear hct0 hct1 hct2 hct3 hct4; clear hcc0 hcc1 hcc2 hcc3 hcc4 hcc5 hcc6 hcc7 hcc8 hcc9 hcc10 hcc11 hcc12 hcc13; clear hcr0 hfr0 hcr1 hfr1 hcr2 hfr2 hcr3 hfr3 hcr4 hfr4; have hct0 : w6.cell? ⟨g2, 0, none⟩ = some (.slice A0 l.length c0) := (blk_cell BK2.out 0).trans rfl; have hct1 : w6.cell? ⟨g2, 1, none⟩ = some (.int .i64 typ) := (blk_cell BK2.out 1).trans rfl; have hct2 : w6.cell? ⟨g2, 2, none⟩ = some (.string host) := (blk_cell BK2.out 2).trans rfl; have hct3 : w6.cell? ⟨g2, 3, none⟩ = some (.int .u32 gen) := (blk_cell BK2.out 3).trans rfl; have hct4 : w6.cell? ⟨g2, 4, none⟩ = some (.bool apt) := (blk_cell BK2.out 4).trans rfl; have hcc0 : w6.cell? ⟨g3, 0, none⟩ = some (.int .i64 c.f0) := (blk_cell BK3.out 0).trans rfl; have hcc1 : w6.cell? ⟨g3, 1, none⟩ = some (.int .i64 c.f1) := (blk_cell BK3.out 1).trans rfl; have hcc2 : w6.cell? ⟨g3, 2, none⟩ = some (.string c.f2) := (blk_cell BK3.out 2).trans rfl; have hcc3 : w6.cell? ⟨g3, 3, none⟩ = some (.int .i64 c.f3) := (blk_cell BK3.out 3).trans rfl; have hcc4 : w6.cell? ⟨g3, 4, none⟩ = some (.int .i64 c.f4) := (blk_cell BK3.out 4).trans rfl; have hcc5 : w6.cell? ⟨g3, 5, none⟩ = some (.string c.f5) := (blk_cell BK3.out 5).trans rfl; have hcc6 : w6.cell? ⟨g3, 6, none⟩ = some (.bool c.f6) := (blk_cell BK3.out 6).trans rfl; have hcc7 : w6.cell? ⟨g3, 7, none⟩ = some (rg) := (blk_cell BK3.out 7).trans rfl; have hcc8 : w6.cell? ⟨g3, 8, none⟩ = some (.int .u64 c.f8) := (blk_cell BK3.out 8).trans rfl; have hcc9 : w6.cell? ⟨g3, 9, none⟩ = some (.int .u64 c.f9) := (blk_cell BK3.out 9).trans rfl; have hcc10 : w6.cell? ⟨g3, 10, none⟩ = some (.int .u64 c.f10) := (blk_cell BK3.out 10).trans rfl; have hcc11 : w6.cell? ⟨g3, 11, none⟩ = some (.int .i64 c.f11) := (blk_cell BK3.out 11).trans rfl; have hcc12 : w6.cell? ⟨g3, 12, none⟩ = some (.bool c.f12) := (blk_cell BK3.out 12).trans rfl; have hcc13 : w6.cell? ⟨g3, 13, none⟩ = some (.int .i64 c.f13) := (blk_cell BK3.out 13).trans rfl; have hcr0 : w6.cell? ⟨g4, 0, none⟩ = some (.slice none 0 0) := (blk_cell BK4.out 0).trans rfl; have hfr0 := blk_frozen BK4.out 0; have hcr1 : w6.cell? ⟨g4, 1, none⟩ = some (.int .i64 0) := (blk_cell BK4.out 1).trans rfl; have hfr1 := blk_frozen BK4.out 1; have hcr2 : w6.cell? ⟨g4, 2, none⟩ = some (.string (⟨#[]⟩ : ByteArray)) := (blk_cell BK4.out 2).trans rfl; have hfr2 := blk_frozen BK4.out 2; have hcr3 : w6.cell? ⟨g4, 3, none⟩ = some (.int .u32 0) := (blk_cell BK4.out 3).trans rfl; have hfr3 := blk_frozen BK4.out 3; have hcr4 : w6.cell? ⟨g4, 4, none⟩ = some (.bool false) := (blk_cell BK4.out 4).trans rfl; have hfr4 := blk_frozen BK4.out 4)
    | ((with_reducible refine gate_dst (N := 36) rfl ?_); refine box_event ?hg (N := 36) ?hd (cs := #[.int .i64 c.f0, .int .i64 c.f1, .string c.f2, .int .i64 c.f3, .int .i64 c.f4, .string c.f5, .bool c.f6, rg, .int .u64 c.f8, .int .u64 c.f9, .int .u64 c.f10, .int .i64 c.f11, .bool c.f12, .int .i64 c.f13, .slice A0 l.length c0, .int .i64 typ, .string host, .int .u32 gen, .bool apt, .slice none 0 0]) (t := 66) ?hr ?_; (case hd => rfl); (case hg => rfl); (case hr => first | (go_simp; done) | (go_simp; rfl)); intro gd hg w7 hbox hb; have OB := Aside0.mk (show w6.heap.size ≤ gd by rw [hg]; exact Nat.le_refl _); have ND4 := Aside0.mk (show gd ≠ g4 by rw [hg]; exact Nat.ne_of_gt (blk_lt BK4.out)); have HBB := Aside0.mk hb; have HB7 := Aside0.mk (below_step HB.out hb); have BKD := Aside0.mk hbox; clear hct0 hct1 hct2 hct3 hct4; clear hcc0 hcc1 hcc2 hcc3 hcc4 hcc5 hcc6 hcc7 hcc8 hcc9 hcc10 hcc11 hcc12 hcc13; clear hcr0 hfr0 hcr1 hfr1 hcr2 hfr2 hcr3 hfr3 hcr4 hfr4; have hct0 : w7.cell? ⟨g2, 0, none⟩ = some (.slice A0 l.length c0) := (blk_cell (blk_below BK2.out hb) 0).trans rfl; clear hb hbox hg)
    | (go_at_call 36; refine (clone_calls A0 c0 l _ (Kd.C_below (Kd.V_reads' HS.out).2.2 HB7.out) HN.out).mono ?_; rintro e w8 ⟨u, rfl, hr, hb⟩; have n1_ := Aside0.mk (blk_below BKD.out hb); have n2_ := Aside0.mk (below_step HBB.out hb); have RR := Aside0.mk (Kd.R_lower hr (below_size HBB.out)); obtain ⟨Au, cu, eu⟩ := Kd.R_slice hr; subst eu; clear BKD HBB HB7 hb hr hct0; have BKD := n1_; have HBB := n2_; clear n1_ n2_; have hcd14 : w8.cell? ⟨gd, 14, none⟩ = some (.slice A0 l.length c0) := (blk_cell BKD.out 14).trans rfl; have hfd14 := blk_frozen BKD.out 14)
    | ((with_reducible refine gate_dst (N := 46) rfl ?_); refine value_event rfl HF1.out HF2.out HF3.out rfl #[] #[] rfl #[.pointer (some ⟨gd, 0, none⟩)] (by simp only [List.map_toArray, List.map_cons, List.map_nil]; rfl) ?_; refine deed_call (fun w' => Aside0 (Dd w6 w' gd c rg (.slice Au l.length cu) l typ host gen apt (.slice none 0 0) [])) ⟨⟨OB.out, blk_put BKD.out 14 _ rfl, Kd.R_mono (Kd.R_far (p := ⟨gd, 14, none⟩) (Kd.R_types RR.out BKD.out (by decide)) (fun _ hk => hk.2) _) (fun _ hk => hk.1), Kd.R_nil _ _ _ _ _, below_set HBB.out OB.out⟩⟩ ?_; intro w9 D9; clear RR BKD HBB hcd14 hfd14; refine (HCALL.out w6 w9 gd _ (Glob.keep HG.out HB.out) D9.out).mono ?_; clear D9; rintro e w10 ⟨rfl, u2, ue2, hd_⟩; have D := Aside0.mk hd_; obtain ⟨Au2, cu2, eu2⟩ := Kd.R_slice hd_.r; subst eu2; obtain ⟨Ae, ce, ee⟩ := Kd.R_slice hd_.re; subst ee; clear hd_; refine ⟨_, rfl, ?_⟩))
  have n1_ := Aside0.mk (D.out.below (below_drew (Below.refl _ _)))
  clear D
  have D := n1_
  clear n1_
  refine start_ (n := 11) (S := fun w' => w'.cell? ⟨gd, 14, none⟩ = some (.slice Au2 l2.length cu2) ∧ w'.cell? ⟨gd, 15, none⟩ = some (.int .i64 typ2) ∧ w'.cell? ⟨gd, 16, none⟩ = some (.string host2) ∧ w'.cell? ⟨gd, 17, none⟩ = some (.int .u32 gen2) ∧ w'.cell? ⟨gd, 18, none⟩ = some (.bool apt2) ∧ w'.cell? ⟨gd, 19, none⟩ = some (.slice Ae ev2.length ce)) (ds := []) #[false, false, false, false, false, false, false, false, false, false, false] (by kernel_rfl) rfl rfl ⟨(blk_cell D.out.b 14).trans rfl, (blk_cell D.out.b 15).trans rfl, (blk_cell D.out.b 16).trans rfl, (blk_cell D.out.b 17).trans rfl, (blk_cell D.out.b 18).trans rfl, (blk_cell D.out.b 19).trans rfl⟩ (fun hHeld => ?_)
  generalize w10.drew = w11 at D hHeld ⊢
  have n1_ := Aside0.mk (blk_below BK4.out D.out.hb)
  have n2_ := Aside0.mk (below_step HB.out D.out.hb)
  have LE6 := Aside0.mk (below_size HB.out)
  clear BK4 HB
  have BK4 := n1_
  have HB := n2_
  clear n1_ n2_
  have hcr0 : w11.cell? ⟨g4, 0, none⟩ = some (.slice none 0 0) := (blk_cell BK4.out 0).trans rfl
  have hfr0 := blk_frozen BK4.out 0
  have hcr1 : w11.cell? ⟨g4, 1, none⟩ = some (.int .i64 0) := (blk_cell BK4.out 1).trans rfl
  have hfr1 := blk_frozen BK4.out 1
  have hcr2 : w11.cell? ⟨g4, 2, none⟩ = some (.string (⟨#[]⟩ : ByteArray)) := (blk_cell BK4.out 2).trans rfl
  have hfr2 := blk_frozen BK4.out 2
  have hcr3 : w11.cell? ⟨g4, 3, none⟩ = some (.int .u32 0) := (blk_cell BK4.out 3).trans rfl
  have hfr3 := blk_frozen BK4.out 3
  have hcr4 : w11.cell? ⟨g4, 4, none⟩ = some (.bool false) := (blk_cell BK4.out 4).trans rfl
  have hfr4 := blk_frozen BK4.out 4
  refine qon_ 0 (some 51) (dB 11 1) ?_
  refine qon_ 1 (some 52) (dB 11 3) ?_
  refine qon_ 2 (some 53) (dB 11 7) ?_
  refine qon_ 4 (some 55) (dB 11 23) ?_
  refine qon_ 5 (some 56) (dB 11 55) ?_
  refine qon_ 6 (some 57) (dB 11 119) ?_
  refine qtk_ 3 (some 54) (dB 11 127) hHeld ?_
  refine qtk_ 7 (some 58) (dB 11 255) hHeld ?_
  refine one_ (i := 8) (N := none) (dB 11 511) rfl rfl (by kernel_rfl) (by decide) (fun K hK => ?_)
  refine skip_ (w1 := ?_) (by rfl) rfl ?_ ?_
  rotate_left
  ·go_simp
   rfl
  refine hK.out _ _ ⟨(blk_cell (blk_far (blk_far (blk_far (blk_far (blk_far D.out.b ND4.out _) ND4.out _) ND4.out _) ND4.out _) ND4.out _) 14).trans rfl, (blk_cell (blk_far (blk_far (blk_far (blk_far (blk_far D.out.b ND4.out _) ND4.out _) ND4.out _) ND4.out _) ND4.out _) 15).trans rfl, (blk_cell (blk_far (blk_far (blk_far (blk_far (blk_far D.out.b ND4.out _) ND4.out _) ND4.out _) ND4.out _) ND4.out _) 16).trans rfl, (blk_cell (blk_far (blk_far (blk_far (blk_far (blk_far D.out.b ND4.out _) ND4.out _) ND4.out _) ND4.out _) ND4.out _) 17).trans rfl, (blk_cell (blk_far (blk_far (blk_far (blk_far (blk_far D.out.b ND4.out _) ND4.out _) ND4.out _) ND4.out _) ND4.out _) 18).trans rfl, (blk_cell (blk_far (blk_far (blk_far (blk_far (blk_far D.out.b ND4.out _) ND4.out _) ND4.out _) ND4.out _) ND4.out _) 19).trans rfl⟩ (fun hHeld => ?_)
  clear hK K
  refine qon_ 9 (some 5) (dB 11 1023) ?_
  refine qon_ 10 (some 6) (dB 11 2047) ?_
  refine done_ (by kernel_rfl) ?_
  go_wp2
  (try simp only [Exit.inBlock, Exit.then])
  refine bodyPost_ret (results_do rfl _ _ g4 27 #[.slice Au2 l2.length cu2, .int .i64 typ2, .string host2, .int .u32 gen2, .bool apt2] (0, 0) _ rfl (by refine blk_put (blk_put (blk_put (blk_put (blk_put BK4.out 0 _ rfl) 1 _ rfl) 2 _ rfl) 3 _ rfl) 4 _ rfl) hu27 rfl rfl) rfl ?_
  exact ⟨_, _, rfl, Kd.R_V (R_re53 (row_put5 D.out.r BK4.out (by decide) _ _ _ _ _) LE6.out (fun k_ hk_ hb_ => ⟨Or.inr (Nat.le_trans LE6.out hb_), rows_apart D.out.r D.out.re (by decide) k_ hk_⟩)), R_re46 (row_put5 D.out.re BK4.out (by decide) _ _ _ _ _) LE6.out (fun k_ _ hb_ => Nat.le_trans LE6.out hb_), (below_set (below_set (below_set (below_set (below_set HB.out G4.out) G4.out) G4.out) G4.out) G4.out)⟩
end Go.Proofs.YtjogkfcjlljjcaaDoor.P
namespace Go.Proofs.YtjogkfcjlljjcaaDoor.P
open Go.RowKit Go.Proofs.YtjogkfcjlljjcaaDoorW.PrintWords Go.Proofs.YtjogkfcjlljjcaaDoorW.PrintLast Go.Proofs.YtjogkfcjlljjcaaDoorW.PrintMore
attribute [local go_sem] max2_int min2_int max_two min_two max_three min_three max_four min_four   -- for this text's walks alone
set_option linter.unusedVariables false
set_option linter.unusedSimpArgs false
set_option linter.unnecessarySimpa false
set_option maxHeartbeats 8000000 in
set_option maxRecDepth 100000 in
theorem preempt_wrong (k : Nat) (w0 : World) (gd : Nat) (c : S31) (rg u ue : Value) (l : List S53) (ev : List S46) (typ : Int) (host : ByteArray) (gen : Int) (apt : Bool) (kk : Int) (w : World) (hd : Dd w0 w gd c rg u l typ host gen apt ue ev) (hk : resv_Key.f k l typ host gen apt c.f2 = some kk) (ht : access_Type.f c.f11 = some false) :
    Calls Tryd.prog 34 #[.pointer (some ⟨gd, 0, none⟩)] w fun e w' => e = .returned (.int .i64 5) ∧ Dd w0 w' gd c rg u l typ host gen apt ue ev := by
  have hu66 := Tryd.underlying66
  have hu31 := Tryd.underlying31
  have hu27 := Tryd.underlying27
  have hu24 := Tryd.underlying24
  have D := Aside0.mk hd
  have HK := Aside0.mk hk
  have HT := Aside0.mk ht
  clear ht
  obtain ⟨Au, cu, eu⟩ := Kd.R_slice hd.r
  subst eu
  clear hd hk
  go_enter Tryd.func34, Tryd.ntmps34
  go_wp2_with (first
    | ((with_reducible refine gate_dst (N := 1) rfl ?_); refine box_event ?hg (N := 1) ?hd (cs := #[.pointer (some ⟨gd, 0, none⟩)]) (t := 63) ?hr ?_; (case hd => rfl); (case hg => rfl); (case hr => first | (go_simp; done) | (go_simp; rfl)); intro gp hg w0_ hbox hb; have NP_ := Aside0.mk (show gp ≠ gd by rw [hg]; exact Ne.symm (Nat.ne_of_lt (blk_lt D.out.b))); have n1_ := Aside0.mk (D.out.below hb); clear D; have D := n1_; have BKP := Aside0.mk hbox; have hcp : w0_.cell? ⟨gp, 0, none⟩ = some (.pointer (some ⟨gd, 0, none⟩)) := (blk_cell hbox 0).trans rfl; have hcd11 : w0_.cell? ⟨gd, 11, none⟩ = some (.int .i64 c.f11) := (blk_cell D.out.b 11).trans rfl; clear n1_ hb hbox hg)
    | (go_at_call 45; refine (access_Type.calls c.f11 false _ HT.out).mono ?_; rintro e w1 ⟨rfl, hd⟩; have hb_ := hd.below; have n1_ := Aside0.mk (D.out.below hb_); clear D hd hcd11; have D := n1_; clear n1_; have x1_ := Aside0.mk (blk_below BKP.out hb_); clear BKP hcp; have BKP := x1_; clear x1_; have hcp : w1.cell? ⟨gp, 0, none⟩ = some (.pointer (some ⟨gd, 0, none⟩)) := (blk_cell BKP.out 0).trans rfl; clear hb_))
  go_ret
  exact ⟨rfl, D.out⟩
set_option maxHeartbeats 8000000 in
set_option maxRecDepth 100000 in
theorem preempt_no (k : Nat) (w0 : World) (gd : Nat) (c : S31) (rg u ue : Value) (l : List S53) (ev : List S46) (typ : Int) (host : ByteArray) (gen : Int) (apt : Bool) (kk : Int) (w : World) (hd : Dd w0 w gd c rg u l typ host gen apt ue ev) (hk : resv_Key.f k l typ host gen apt c.f2 = some kk) (ht : access_Type.f c.f11 = some true) (ha : (kk != 0 && kk == c.f8) = false) :
    Calls Tryd.prog 34 #[.pointer (some ⟨gd, 0, none⟩)] w fun e w' => e = .returned (.int .i64 2) ∧ Dd w0 w' gd c rg u l typ host gen apt ue ev := by
  have hu66 := Tryd.underlying66
  have hu31 := Tryd.underlying31
  have hu27 := Tryd.underlying27
  have hu24 := Tryd.underlying24
  have D := Aside0.mk hd
  have HK := Aside0.mk hk
  have HT := Aside0.mk ht
  clear ht
  have HA := Aside0.mk ha
  clear ha
  obtain ⟨Au, cu, eu⟩ := Kd.R_slice hd.r
  subst eu
  clear hd hk
  go_enter Tryd.func34, Tryd.ntmps34
  go_wp2_with (first
    | ((with_reducible refine gate_dst (N := 1) rfl ?_); refine box_event ?hg (N := 1) ?hd (cs := #[.pointer (some ⟨gd, 0, none⟩)]) (t := 63) ?hr ?_; (case hd => rfl); (case hg => rfl); (case hr => first | (go_simp; done) | (go_simp; rfl)); intro gp hg w0_ hbox hb; have NP_ := Aside0.mk (show gp ≠ gd by rw [hg]; exact Ne.symm (Nat.ne_of_lt (blk_lt D.out.b))); have n1_ := Aside0.mk (D.out.below hb); clear D; have D := n1_; have BKP := Aside0.mk hbox; have hcp : w0_.cell? ⟨gp, 0, none⟩ = some (.pointer (some ⟨gd, 0, none⟩)) := (blk_cell hbox 0).trans rfl; have hcd11 : w0_.cell? ⟨gd, 11, none⟩ = some (.int .i64 c.f11) := (blk_cell D.out.b 11).trans rfl; clear n1_ hb hbox hg)
    | (go_at_call 45; refine (access_Type.calls c.f11 true _ HT.out).mono ?_; rintro e w1 ⟨rfl, hd⟩; have hb_ := hd.below; have n1_ := Aside0.mk (D.out.below hb_); clear D hd hcd11; have D := n1_; clear n1_; have x1_ := Aside0.mk (blk_below BKP.out hb_); clear BKP hcp; have BKP := x1_; clear x1_; have hcp : w1.cell? ⟨gp, 0, none⟩ = some (.pointer (some ⟨gd, 0, none⟩)) := (blk_cell BKP.out 0).trans rfl; clear hb_)
    | (go_at_call 57; refine (asks_calls k w0 gd c rg _ _ l ev typ host gen apt kk _ D.out HK.out).mono ?_; rw [HA.out]; rintro e w2 ⟨rfl, hb_⟩; have n1_ := Aside0.mk (D.out.below hb_); clear D; have D := n1_; clear n1_; have x1_ := Aside0.mk (blk_below BKP.out hb_); clear BKP hcp; have BKP := x1_; clear x1_; have hcp : w2.cell? ⟨gp, 0, none⟩ = some (.pointer (some ⟨gd, 0, none⟩)) := (blk_cell BKP.out 0).trans rfl; clear hb_))
  go_ret
  exact ⟨rfl, D.out⟩
abbrev DoR := Option (List S53 × Int × ByteArray × Int × Bool × List S46 × Int)
def meP (c : S31) (s : ByteArray) (_ : Int) : Bool := s.toList == c.f2.toList
def asksP (kk : Int) (c : S31) : Bool := kk != 0 && kk == c.f8
def do_same (l : List S53) (typ : Int) (host : ByteArray) (gen : Int) (apt : Bool) (n : Int) : DoR := some (l, typ, host, gen, apt, [], n)
def do_reg (l : List S53) (typ : Int) (host : ByteArray) (gen : Int) (apt : Bool) (c : S31) (kk : Int) (eb : Bool) : DoR :=
  if (!c.f12 && c.f8 != kk) = true then do_same l typ host gen apt 2
  else if c.f9 = 0 then
    (if kk = 0 then some (l, typ, host, gen, aptP c apt, [], 1)
     else if ((host.toList == c.f2.toList) || eb && ((l.filter fun x => !(x.f0.toList == c.f2.toList)).length == 0)) = true then some (l.filter fun x => !(x.f0.toList == c.f2.toList), 0, (⟨#[]⟩ : ByteArray), (gen + 1) % 4294967296, aptP c apt, freed c typ (l.filter fun x => !(x.f0.toList == c.f2.toList)), 1)
     else some (l.filter fun x => !(x.f0.toList == c.f2.toList), typ, host, (gen + 1) % 4294967296, aptP c apt, [], 1))
  else if kk = 0 then
    (if l.length = 16 then do_same l typ host gen apt 8
     else if idxP (meP c) (l ++ [(⟨c.f2, 0⟩ : S53)]) = l.length then some (keyed (l ++ [(⟨c.f2, 0⟩ : S53)]) l.length c.f9, typ, host, (gen + 1) % 4294967296, aptP c apt, [], 1) else none)
  else if 0 ≤ idxP (meP c) l then some (keyed l (idxP (meP c) l).toNat c.f9, typ, host, (gen + 1) % 4294967296, aptP c apt, [], 1) else none
def do_rsv (k : Nat) (l : List S53) (typ : Int) (host : ByteArray) (gen : Int) (apt : Bool) (c : S31) (kk : Int) : DoR :=
  (access_Type.f c.f11).bind fun ty => if ty = false then do_same l typ host gen apt 5 else if asksP kk c = false then do_same l typ host gen apt 2 else if typ = 0 then some (l, c.f11, takenBy c, gen, apt, [], 1)
    else (access_Holds.f k l typ host gen apt c.f2).bind fun hh => if (hh && typ == c.f11) = true then do_same l typ host gen apt 1 else do_same l typ host gen apt 2
def do_rel (k : Nat) (l : List S53) (typ : Int) (host : ByteArray) (gen : Int) (apt : Bool) (c : S31) (kk : Int) : DoR :=
  if asksP kk c = false then do_same l typ host gen apt 2 else (access_Holds.f k l typ host gen apt c.f2).bind fun hh => if hh = false then do_same l typ host gen apt 1 else if (typ != c.f11) = true then do_same l typ host gen apt 5
    else some (l, 0, (⟨#[]⟩ : ByteArray), gen, apt, (if silent typ = true then [] else told c (fun _ _ => true) 3 l l.length), 1)
def do_clr (l : List S53) (typ : Int) (host : ByteArray) (gen : Int) (apt : Bool) (c : S31) (kk : Int) : DoR :=
  if asksP kk c = false then do_same l typ host gen apt 2 else some ([], 0, (⟨#[]⟩ : ByteArray), (gen + 1) % 4294967296, apt, told c (fun _ _ => true) 4 l l.length, 1)
def do_pre (k : Nat) (l : List S53) (typ : Int) (host : ByteArray) (gen : Int) (apt : Bool) (c : S31) (kk : Int) : DoR :=
  (access_Type.f c.f11).bind fun ty => if ty = false then do_same l typ host gen apt 5 else if asksP kk c = false then do_same l typ host gen apt 2 else
  (resv_everybody.f typ).bind fun eb => (resv_Key.f k l typ host gen apt host).bind fun kh =>
    if (eb && c.f10 == 0) = true then some (l.filter fun x => !struckP c true x.f0 x.f1, c.f11, takenBy c, (gen + 1) % 4294967296, apt, told c (struckP c true) 2 l l.length, 1)
    else if host.toList ≠ ([] : List UInt8) ∧ kh = c.f10 then some (l.filter fun x => !struckP c false x.f0 x.f1, c.f11, takenBy c, (gen + 1) % 4294967296, apt, told c (struckP c false) 2 l l.length, 1)
    else if c.f10 = 0 then do_same l typ host gen apt 5
    else if decide (0 ≤ idxP (struckP c false) l) = false then do_same l typ host gen apt 2
    else some (l.filter fun x => !struckP c false x.f0 x.f1, typ, host, (gen + 1) % 4294967296, apt, told c (struckP c false) 2 l l.length, 1)
def do_f (k : Nat) (l : List S53) (typ : Int) (host : ByteArray) (gen : Int) (apt : Bool) (c : S31) : DoR :=
  if (Lit.int .i64 c.f0).wf = true then
    (if decide (8 ≤ c.f0 ∧ c.f0 ≤ 12) = false then do_same l typ host gen apt 5
     else (resv_Good.f l typ host gen apt).bind fun g => if g = false then do_same l typ host gen apt 5 else (names_Name.f c.f2).bind fun n => if n = false then do_same l typ host gen apt 5
     else if l.length ≤ 900 then (resv_Key.f k l typ host gen apt c.f2).bind fun kk =>
       (if c.f0 = 8 then (resv_everybody.f typ).bind fun eb => do_reg l typ host gen apt c kk eb
        else if c.f0 = 9 then do_rsv k l typ host gen apt c kk
        else if c.f0 = 10 then do_rel k l typ host gen apt c kk
        else if c.f0 = 11 then do_clr l typ host gen apt c kk
        else do_pre k l typ host gen apt c kk)
     else none)
  else none
def resv_Do.f (k : Nat) (l0_0 : List S53) (a0_1 : Int) (a0_2 : ByteArray) (a0_3 : Int) (a0_4 : Bool) (a1_0 : Int) (a1_1 : Int) (a1_2 : ByteArray) (a1_3 : Int) (a1_4 : Int) (a1_5 : ByteArray) (a1_6 : Bool) (l1_7 : List S100) (a1_8 : Int) (a1_9 : Int) (a1_10 : Int) (a1_11 : Int) (a1_12 : Bool) (a1_13 : Int) : DoR :=
  do_f k l0_0 a0_1 a0_2 a0_3 a0_4 ⟨a1_0, a1_1, a1_2, a1_3, a1_4, a1_5, a1_6, l1_7, a1_8, a1_9, a1_10, a1_11, a1_12, a1_13⟩
theorem idxP_lt (p : ByteArray → Int → Bool) (l : List S53) (h : 0 ≤ idxP p l) : (idxP p l).toNat < l.length ∧ idxP p l = ((idxP p l).toNat : Int) := by
  unfold idxP at h ⊢
  cases hf : l.findIdx? (fun x => p x.f0 x.f1) with
  | none => rw [hf] at h; exact absurd h (by decide)
  | some i => exact ⟨(List.findIdx?_eq_some_iff_getElem.mp hf).1, rfl⟩
theorem do_calls (k : Nat) (P : Nat → Prop) (A0 : Option Addr) (c0 : Nat) (l : List S53) (typ : Int) (host : ByteArray) (gen : Int) (apt : Bool) (c : S31) (rg : Value) (r1 : List S53) (r2 : Int) (r3 : ByteArray) (r4 : Int) (r5 : Bool) (r6 : List S46) (r7 : Int) (w : World) (hs : Kd.V k53 53 w w.heap.size (fun k_ => P k_) (.slice A0 l.length c0) l) (hG : Glob w) (h : do_f k l typ host gen apt c = some (r1, r2, r3, r4, r5, r6, r7)) :
    Calls Tryd.prog 15 #[.agg #[.slice A0 l.length c0, .int .i64 typ, .string host, .int .u32 gen, .bool apt], .agg #[.int .i64 c.f0, .int .i64 c.f1, .string c.f2, .int .i64 c.f3, .int .i64 c.f4, .string c.f5, .bool c.f6, rg, .int .u64 c.f8, .int .u64 c.f9, .int .u64 c.f10, .int .i64 c.f11, .bool c.f12, .int .i64 c.f13]] w fun e w' => ∃ v0_ v5_ : Value, e = .returned (.tuple #[.agg #[v0_, .int .i64 r2, .string r3, .int .u32 r4, .bool r5], v5_, .int .i64 r7]) ∧ Kd.V k53 53 w' w.heap.size (fun k_ => (P k_ ∨ w.heap.size ≤ k_) ∧ some k_ ≠ (v5_ : Value).ownBlock) v0_ r1 ∧ Kd.R k46 46 w' w.heap.size (fun k_ => (w.heap.size ≤ k_)) v5_ r6 ∧ Below w.heap.size w w' := by
  unfold do_f at h
  by_cases hop : (Lit.int .i64 c.f0).wf = true
  case neg => rw [if_neg hop] at h; cases h
  rw [if_pos hop] at h
  cases hin : decide (8 ≤ c.f0 ∧ c.f0 ≤ 12)
  · rw [hin, if_pos rfl] at h
    unfold do_same at h
    simp only [Option.some.injEq, Prod.mk.injEq] at h
    obtain ⟨rfl, rfl, rfl, rfl, rfl, rfl, rfl⟩ := h
    exact do_op k P A0 c0 l typ host gen apt c rg w hs hG hop hin
  rw [hin, if_neg (by decide)] at h
  have hr := of_decide_eq_true hin
  have h5 : c.f0 = 8 ∨ c.f0 = 9 ∨ c.f0 = 10 ∨ c.f0 = 11 ∨ c.f0 = 12 := by omega
  obtain ⟨n_, hfn⟩ : ∃ n_ : Nat, c.f0 = 8 ∧ n_ = 30 ∨ c.f0 = 9 ∧ n_ = 31 ∨ c.f0 = 10 ∧ n_ = 32 ∨ c.f0 = 11 ∧ n_ = 33 ∨ c.f0 = 12 ∧ n_ = 34 := by
    rcases h5 with z | z | z | z | z
    · exact ⟨_, .inl ⟨z, rfl⟩⟩
    · exact ⟨_, .inr (.inl ⟨z, rfl⟩)⟩
    · exact ⟨_, .inr (.inr (.inl ⟨z, rfl⟩))⟩
    · exact ⟨_, .inr (.inr (.inr (.inl ⟨z, rfl⟩)))⟩
    · exact ⟨_, .inr (.inr (.inr (.inr ⟨z, rfl⟩)))⟩
  obtain ⟨g, hg, h⟩ := Option.bind_eq_some_iff.mp h
  cases g
  · rw [if_pos rfl] at h
    unfold do_same at h
    simp only [Option.some.injEq, Prod.mk.injEq] at h
    obtain ⟨rfl, rfl, rfl, rfl, rfl, rfl, rfl⟩ := h
    exact do_good k P A0 c0 l typ host gen apt c rg w hs hG hop n_ hfn hg
  rw [if_neg (by decide)] at h
  obtain ⟨n, hnm, h⟩ := Option.bind_eq_some_iff.mp h
  cases n
  · rw [if_pos rfl] at h
    unfold do_same at h
    simp only [Option.some.injEq, Prod.mk.injEq] at h
    obtain ⟨rfl, rfl, rfl, rfl, rfl, rfl, rfl⟩ := h
    exact do_name k P A0 c0 l typ host gen apt c rg w hs hG hop n_ hfn hg hnm
  rw [if_neg (by decide)] at h
  by_cases h900 : l.length ≤ 900
  case neg => rw [if_neg h900] at h; cases h
  rw [if_pos h900] at h
  have hl : l.length ≤ 1000 := by omega
  have he0 : ([] : List S46).length ≤ 1000 := by decide
  obtain ⟨kk, hkk, h⟩ := Option.bind_eq_some_iff.mp h
  clear hfn
  rcases h5 with h8 | h8 | h8 | h8 | h8
  · rw [if_pos h8] at h
    obtain ⟨eb, heb, h⟩ := Option.bind_eq_some_iff.mp h
    unfold do_reg at h
    cases hps : (!c.f12 && c.f8 != kk)
    case true =>
      rw [hps, if_pos rfl] at h
      obtain ⟨q1, q2⟩ : c.f12 = false ∧ (c.f8 != kk) = true := by simpa using hps
      unfold do_same at h
      simp only [Option.some.injEq, Prod.mk.injEq] at h
      obtain ⟨rfl, rfl, rfl, rfl, rfl, rfl, rfl⟩ := h
      exact do_no k P A0 c0 l typ host gen apt c rg w hs hG hop 30 (.inl ⟨h8, rfl⟩) _ Tryd.func30 rfl rfl hg hnm hl 2 (by decide) (fun wB w1 gd u hGB hd => (register_no k wB gd c rg u _ l [] typ host gen apt kk w1 hd hkk q1 q2))
    rw [hps, if_neg (by decide)] at h
    by_cases h9 : c.f9 = 0
    · rw [if_pos h9] at h
      by_cases h0 : kk = 0
      · rw [if_pos h0] at h
        simp only [Option.some.injEq, Prod.mk.injEq] at h
        obtain ⟨rfl, rfl, rfl, rfl, rfl, rfl, rfl⟩ := h
        exact do_yes k P A0 c0 l typ host gen apt c rg w hs hG hop 30 (.inl ⟨h8, rfl⟩) _ Tryd.func30 rfl rfl hg hnm hl _ _ _ _ _ _ (fun wB w1 gd u hGB hd => ((register_same k wB gd c rg u _ l [] typ host gen apt kk w1 hd hkk hps h9 h0).mono (fun _ _ ⟨h1, h2⟩ => ⟨h1, _, _, h2⟩)))
      · rw [if_neg h0] at h
        cases hz : ((host.toList == c.f2.toList) || eb && ((l.filter fun x => !(x.f0.toList == c.f2.toList)).length == 0))
        · rw [hz, if_neg (by decide)] at h
          simp only [Option.some.injEq, Prod.mk.injEq] at h
          obtain ⟨rfl, rfl, rfl, rfl, rfl, rfl, rfl⟩ := h
          exact do_yes k P A0 c0 l typ host gen apt c rg w hs hG hop 30 (.inl ⟨h8, rfl⟩) _ Tryd.func30 rfl rfl hg hnm hl _ _ _ _ _ _ (fun wB w1 gd u hGB hd => ((register_stay k wB gd c rg u _ l [] typ host gen apt kk w1 hd hkk hps h9 h0 hl eb heb _ rfl _ rfl hz).mono (fun _ _ ⟨h1, u2, h2⟩ => ⟨h1, u2, _, h2⟩)))
        · rw [hz, if_pos rfl] at h
          simp only [Option.some.injEq, Prod.mk.injEq] at h
          obtain ⟨rfl, rfl, rfl, rfl, rfl, rfl, rfl⟩ := h
          exact do_yes k P A0 c0 l typ host gen apt c rg w hs hG hop 30 (.inl ⟨h8, rfl⟩) _ Tryd.func30 rfl rfl hg hnm hl _ _ _ _ _ _ (fun wB w1 gd u hGB hd => ((register_free k wB gd c rg u _ l [] typ host gen apt kk w1 hd hkk hps h9 h0 he0 hl eb heb _ rfl _ rfl hz).mono (fun _ _ ⟨h1, u2, ue2, h2⟩ => ⟨h1, u2, ue2, h2⟩)))
    · rw [if_neg h9] at h
      by_cases h0 : kk = 0
      · rw [if_pos h0] at h
        by_cases h16 : l.length = 16
        · rw [if_pos h16] at h
          unfold do_same at h
          simp only [Option.some.injEq, Prod.mk.injEq] at h
          obtain ⟨rfl, rfl, rfl, rfl, rfl, rfl, rfl⟩ := h
          exact do_no k P A0 c0 l typ host gen apt c rg w hs hG hop 30 (.inl ⟨h8, rfl⟩) _ Tryd.func30 rfl rfl hg hnm hl 8 (by decide) (fun wB w1 gd u hGB hd => (register_full k wB gd c rg u _ l [] typ host gen apt kk w1 hd hkk hps h9 h0 h16))
        · rw [if_neg h16] at h
          by_cases hx : idxP (meP c) (l ++ [(⟨c.f2, 0⟩ : S53)]) = l.length
          case neg => rw [if_neg hx] at h; cases h
          rw [if_pos hx] at h
          simp only [Option.some.injEq, Prod.mk.injEq] at h
          obtain ⟨rfl, rfl, rfl, rfl, rfl, rfl, rfl⟩ := h
          exact do_yes k P A0 c0 l typ host gen apt c rg w hs hG hop 30 (.inl ⟨h8, rfl⟩) _ Tryd.func30 rfl rfl hg hnm hl _ _ _ _ _ _ (fun wB w1 gd u hGB hd => ((register_new k wB gd c rg u _ l [] typ host gen apt kk w1 hd hkk hps h9 h0 h16 h900 hx).mono (fun _ _ ⟨h1, u2, h2⟩ => ⟨h1, u2, _, h2⟩)))
      · rw [if_neg h0] at h
        by_cases hx : 0 ≤ idxP (meP c) l
        case neg => rw [if_neg hx] at h; cases h
        rw [if_pos hx] at h
        obtain ⟨hx1, hx2⟩ := idxP_lt _ _ hx
        simp only [Option.some.injEq, Prod.mk.injEq] at h
        obtain ⟨rfl, rfl, rfl, rfl, rfl, rfl, rfl⟩ := h
        exact do_yes k P A0 c0 l typ host gen apt c rg w hs hG hop 30 (.inl ⟨h8, rfl⟩) _ Tryd.func30 rfl rfl hg hnm hl _ _ _ _ _ _ (fun wB w1 gd u hGB hd => ((register_put k wB gd c rg u _ l [] typ host gen apt kk w1 hd hkk hps h9 h0 hl _ hx1 hx2).mono (fun _ _ ⟨h1, u2, h2⟩ => ⟨h1, u2, _, h2⟩)))
  · rw [if_neg (by omega), if_pos h8] at h
    unfold do_rsv at h
    obtain ⟨ty, hty, h⟩ := Option.bind_eq_some_iff.mp h
    cases ty
    · rw [if_pos rfl] at h
      unfold do_same at h
      simp only [Option.some.injEq, Prod.mk.injEq] at h
      obtain ⟨rfl, rfl, rfl, rfl, rfl, rfl, rfl⟩ := h
      exact do_no k P A0 c0 l typ host gen apt c rg w hs hG hop 31 (.inr (.inl ⟨h8, rfl⟩)) _ Tryd.func31 rfl rfl hg hnm hl 5 (by decide) (fun wB w1 gd u hGB hd => (reserve_wrong k wB gd c rg u _ l [] typ host gen apt kk w1 hd hkk hty))
    rw [if_neg (by decide)] at h
    cases ha : asksP kk c
    · rw [ha, if_pos rfl] at h
      unfold do_same at h
      simp only [Option.some.injEq, Prod.mk.injEq] at h
      obtain ⟨rfl, rfl, rfl, rfl, rfl, rfl, rfl⟩ := h
      exact do_no k P A0 c0 l typ host gen apt c rg w hs hG hop 31 (.inr (.inl ⟨h8, rfl⟩)) _ Tryd.func31 rfl rfl hg hnm hl 2 (by decide) (fun wB w1 gd u hGB hd => (reserve_no k wB gd c rg u _ l [] typ host gen apt kk w1 hd hkk hty ha))
    rw [ha, if_neg (by decide)] at h
    by_cases h0 : typ = 0
    · rw [if_pos h0] at h
      simp only [Option.some.injEq, Prod.mk.injEq] at h
      obtain ⟨rfl, rfl, rfl, rfl, rfl, rfl, rfl⟩ := h
      exact do_yes k P A0 c0 l typ host gen apt c rg w hs hG hop 31 (.inr (.inl ⟨h8, rfl⟩)) _ Tryd.func31 rfl rfl hg hnm hl _ _ _ _ _ _ (fun wB w1 gd u hGB hd => ((reserve_take k wB gd c rg u _ l [] typ host gen apt kk w1 hd hkk hty ha h0).mono (fun _ _ ⟨h1, h2⟩ => ⟨h1, _, _, h2⟩)))
    rw [if_neg h0] at h
    obtain ⟨hh, hhh, h⟩ := Option.bind_eq_some_iff.mp h
    cases hz : (hh && typ == c.f11)
    · rw [hz, if_neg (by decide)] at h
      unfold do_same at h
      simp only [Option.some.injEq, Prod.mk.injEq] at h
      obtain ⟨rfl, rfl, rfl, rfl, rfl, rfl, rfl⟩ := h
      exact do_no k P A0 c0 l typ host gen apt c rg w hs hG hop 31 (.inr (.inl ⟨h8, rfl⟩)) _ Tryd.func31 rfl rfl hg hnm hl 2 (by decide) (fun wB w1 gd u hGB hd => ((reserve_held k wB gd c rg u _ l [] typ host gen apt kk w1 hd hkk hGB hh hhh hty ha h0).mono (fun _ _ z => by rw [hz] at z; exact z)))
    · rw [hz, if_pos rfl] at h
      unfold do_same at h
      simp only [Option.some.injEq, Prod.mk.injEq] at h
      obtain ⟨rfl, rfl, rfl, rfl, rfl, rfl, rfl⟩ := h
      exact do_yes k P A0 c0 l typ host gen apt c rg w hs hG hop 31 (.inr (.inl ⟨h8, rfl⟩)) _ Tryd.func31 rfl rfl hg hnm hl _ _ _ _ _ _ (fun wB w1 gd u hGB hd => ((reserve_held k wB gd c rg u _ l [] typ host gen apt kk w1 hd hkk hGB hh hhh hty ha h0).mono (fun _ _ z => by rw [hz] at z; exact ⟨z.1, _, _, z.2⟩)))
  · rw [if_neg (by omega), if_neg (by omega), if_pos h8] at h
    unfold do_rel at h
    cases ha : asksP kk c
    · rw [ha, if_pos rfl] at h
      unfold do_same at h
      simp only [Option.some.injEq, Prod.mk.injEq] at h
      obtain ⟨rfl, rfl, rfl, rfl, rfl, rfl, rfl⟩ := h
      exact do_no k P A0 c0 l typ host gen apt c rg w hs hG hop 32 (.inr (.inr (.inl ⟨h8, rfl⟩))) _ Tryd.func32 rfl rfl hg hnm hl 2 (by decide) (fun wB w1 gd u hGB hd => (release_no k wB gd c rg u _ l [] typ host gen apt kk w1 hd hkk ha))
    rw [ha, if_neg (by decide)] at h
    obtain ⟨hh, hhh, h⟩ := Option.bind_eq_some_iff.mp h
    cases hh
    · rw [if_pos rfl] at h
      unfold do_same at h
      simp only [Option.some.injEq, Prod.mk.injEq] at h
      obtain ⟨rfl, rfl, rfl, rfl, rfl, rfl, rfl⟩ := h
      exact do_yes k P A0 c0 l typ host gen apt c rg w hs hG hop 32 (.inr (.inr (.inl ⟨h8, rfl⟩))) _ Tryd.func32 rfl rfl hg hnm hl _ _ _ _ _ _ (fun wB w1 gd u hGB hd => ((release_free k wB gd c rg u _ l [] typ host gen apt kk w1 hd hkk hGB hhh ha).mono (fun _ _ ⟨h1, h2⟩ => ⟨h1, _, _, h2⟩)))
    rw [if_neg (by decide)] at h
    cases hz : (typ != c.f11)
    · rw [hz, if_neg (by decide)] at h
      simp only [Option.some.injEq, Prod.mk.injEq] at h
      obtain ⟨rfl, rfl, rfl, rfl, rfl, rfl, rfl⟩ := h
      exact do_yes k P A0 c0 l typ host gen apt c rg w hs hG hop 32 (.inr (.inr (.inl ⟨h8, rfl⟩))) _ Tryd.func32 rfl rfl hg hnm hl _ _ _ _ _ _ (fun wB w1 gd u hGB hd => ((release_yes k wB gd c rg u _ l [] typ host gen apt kk w1 hd hkk hGB hhh ha hz hl he0).mono (fun _ _ ⟨h1, ue2, h2⟩ => ⟨h1, _, ue2, h2⟩)))
    · rw [hz, if_pos rfl] at h
      unfold do_same at h
      simp only [Option.some.injEq, Prod.mk.injEq] at h
      obtain ⟨rfl, rfl, rfl, rfl, rfl, rfl, rfl⟩ := h
      exact do_no k P A0 c0 l typ host gen apt c rg w hs hG hop 32 (.inr (.inr (.inl ⟨h8, rfl⟩))) _ Tryd.func32 rfl rfl hg hnm hl 5 (by decide) (fun wB w1 gd u hGB hd => (release_wrong k wB gd c rg u _ l [] typ host gen apt kk w1 hd hkk hGB hhh ha hz))
  · rw [if_neg (by omega), if_neg (by omega), if_neg (by omega), if_pos h8] at h
    unfold do_clr at h
    cases ha : asksP kk c
    · rw [ha, if_pos rfl] at h
      unfold do_same at h
      simp only [Option.some.injEq, Prod.mk.injEq] at h
      obtain ⟨rfl, rfl, rfl, rfl, rfl, rfl, rfl⟩ := h
      exact do_no k P A0 c0 l typ host gen apt c rg w hs hG hop 33 (.inr (.inr (.inr (.inl ⟨h8, rfl⟩)))) _ Tryd.func33 rfl rfl hg hnm hl 2 (by decide) (fun wB w1 gd u hGB hd => (clear_no k wB gd c rg u _ l [] typ host gen apt kk w1 hd hkk ha))
    rw [ha, if_neg (by decide)] at h
    simp only [Option.some.injEq, Prod.mk.injEq] at h
    obtain ⟨rfl, rfl, rfl, rfl, rfl, rfl, rfl⟩ := h
    exact do_yes k P A0 c0 l typ host gen apt c rg w hs hG hop 33 (.inr (.inr (.inr (.inl ⟨h8, rfl⟩)))) _ Tryd.func33 rfl rfl hg hnm hl _ _ _ _ _ _ (fun wB w1 gd u hGB hd => ((clear_yes k wB gd c rg u _ l [] typ host gen apt kk w1 hd hkk ha hl he0).mono (fun _ _ ⟨h1, ue2, h2⟩ => ⟨h1, _, ue2, h2⟩)))
  · rw [if_neg (by omega), if_neg (by omega), if_neg (by omega), if_neg (by omega)] at h
    unfold do_pre at h
    obtain ⟨ty, hty, h⟩ := Option.bind_eq_some_iff.mp h
    cases ty
    · rw [if_pos rfl] at h
      unfold do_same at h
      simp only [Option.some.injEq, Prod.mk.injEq] at h
      obtain ⟨rfl, rfl, rfl, rfl, rfl, rfl, rfl⟩ := h
      exact do_no k P A0 c0 l typ host gen apt c rg w hs hG hop 34 (.inr (.inr (.inr (.inr ⟨h8, rfl⟩)))) _ Tryd.func34 rfl rfl hg hnm hl 5 (by decide) (fun wB w1 gd u hGB hd => (preempt_wrong k wB gd c rg u _ l [] typ host gen apt kk w1 hd hkk hty))
    rw [if_neg (by decide)] at h
    cases ha : asksP kk c
    · rw [ha, if_pos rfl] at h
      unfold do_same at h
      simp only [Option.some.injEq, Prod.mk.injEq] at h
      obtain ⟨rfl, rfl, rfl, rfl, rfl, rfl, rfl⟩ := h
      exact do_no k P A0 c0 l typ host gen apt c rg w hs hG hop 34 (.inr (.inr (.inr (.inr ⟨h8, rfl⟩)))) _ Tryd.func34 rfl rfl hg hnm hl 2 (by decide) (fun wB w1 gd u hGB hd => (preempt_no k wB gd c rg u _ l [] typ host gen apt kk w1 hd hkk hty ha))
    rw [ha, if_neg (by decide)] at h
    obtain ⟨eb, heb, h⟩ := Option.bind_eq_some_iff.mp h
    obtain ⟨kh, hkh, h⟩ := Option.bind_eq_some_iff.mp h
    cases hw : (eb && c.f10 == 0)
    case true =>
      rw [hw, if_pos rfl] at h
      obtain ⟨q1, q2⟩ : eb = true ∧ c.f10 = 0 := by simpa using hw
      simp only [Option.some.injEq, Prod.mk.injEq] at h
      obtain ⟨rfl, rfl, rfl, rfl, rfl, rfl, rfl⟩ := h
      exact do_yes k P A0 c0 l typ host gen apt c rg w hs hG hop 34 (.inr (.inr (.inr (.inr ⟨h8, rfl⟩)))) _ Tryd.func34 rfl rfl hg hnm hl _ _ _ _ _ _ (fun wB w1 gd u hGB hd => ((preempt_whole k wB gd c rg u _ l [] typ host gen apt kk w1 hd hkk hty ha (q1 ▸ heb) q2 hl he0).mono (fun _ _ ⟨h1, u2, ue2, h2⟩ => ⟨h1, u2, ue2, h2⟩)))
    rw [hw, if_neg (by decide)] at h
    by_cases ht : host.toList ≠ ([] : List UInt8) ∧ kh = c.f10
    · rw [if_pos ht] at h
      simp only [Option.some.injEq, Prod.mk.injEq] at h
      obtain ⟨rfl, rfl, rfl, rfl, rfl, rfl, rfl⟩ := h
      exact do_yes k P A0 c0 l typ host gen apt c rg w hs hG hop 34 (.inr (.inr (.inr (.inr ⟨h8, rfl⟩)))) _ Tryd.func34 rfl rfl hg hnm hl _ _ _ _ _ _ (fun wB w1 gd u hGB hd => ((preempt_takes k wB gd c rg u _ l [] typ host gen apt kk w1 hd hkk eb hty ha heb hw ht.1 kh hkh ht.2 hl he0).mono (fun _ _ ⟨h1, u2, ue2, h2⟩ => ⟨h1, u2, ue2, h2⟩)))
    rw [if_neg ht] at h
    by_cases h0 : c.f10 = 0
    · rw [if_pos h0] at h
      have q1 : eb = false := by
        rw [h0] at hw
        simpa using hw
      unfold do_same at h
      simp only [Option.some.injEq, Prod.mk.injEq] at h
      obtain ⟨rfl, rfl, rfl, rfl, rfl, rfl, rfl⟩ := h
      exact do_no k P A0 c0 l typ host gen apt c rg w hs hG hop 34 (.inr (.inr (.inr (.inr ⟨h8, rfl⟩)))) _ Tryd.func34 rfl rfl hg hnm hl 5 (by decide) (fun wB w1 gd u hGB hd => (preempt_zero k wB gd c rg u _ l [] typ host gen apt kk w1 hd hkk eb hty ha heb kh hkh ht q1 h0))
    rw [if_neg h0] at h
    cases hi0 : decide (0 ≤ idxP (struckP c false) l)
    · rw [hi0, if_pos rfl] at h
      unfold do_same at h
      simp only [Option.some.injEq, Prod.mk.injEq] at h
      obtain ⟨rfl, rfl, rfl, rfl, rfl, rfl, rfl⟩ := h
      exact do_no k P A0 c0 l typ host gen apt c rg w hs hG hop 34 (.inr (.inr (.inr (.inr ⟨h8, rfl⟩)))) _ Tryd.func34 rfl rfl hg hnm hl 2 (by decide) (fun wB w1 gd u hGB hd => (preempt_miss k wB gd c rg u _ l [] typ host gen apt kk w1 hd hkk eb hty ha heb kh hkh ht h0 hl hi0))
    · rw [hi0, if_neg (by decide)] at h
      simp only [Option.some.injEq, Prod.mk.injEq] at h
      obtain ⟨rfl, rfl, rfl, rfl, rfl, rfl, rfl⟩ := h
      exact do_yes k P A0 c0 l typ host gen apt c rg w hs hG hop 34 (.inr (.inr (.inr (.inr ⟨h8, rfl⟩)))) _ Tryd.func34 rfl rfl hg hnm hl _ _ _ _ _ _ (fun wB w1 gd u hGB hd => ((preempt_hit k wB gd c rg u _ l [] typ host gen apt kk w1 hd hkk eb hty ha heb kh hkh ht h0 hl he0 hi0).mono (fun _ _ ⟨h1, u2, ue2, h2⟩ => ⟨h1, u2, ue2, h2⟩)))
theorem do_f.mono (k : Nat) (l : List S53) (typ : Int) (host : ByteArray) (gen : Int) (apt : Bool) (c : S31) : LeO (do_f k l typ host gen apt c) (do_f (k + 1) l typ host gen apt c) := by
  unfold do_f do_rsv do_rel do_pre
  repeat' first
    | (with_reducible exact resv_Key.mono _ _ _ _ _ _ _)
    | (with_reducible exact access_Holds.mono _ _ _ _ _ _ _)
    | (with_reducible exact LeO.refl _)
    | (with_reducible refine LeO.ite ?_ ?_)
    | (with_reducible refine LeO.bind ?_ (fun _ => ?_))
theorem resv_Do.mono : ∀ (l0_0 : List S53) (a0_1 : Int) (a0_2 : ByteArray) (a0_3 : Int) (a0_4 : Bool) (a1_0 : Int) (a1_1 : Int) (a1_2 : ByteArray) (a1_3 : Int) (a1_4 : Int) (a1_5 : ByteArray) (a1_6 : Bool) (l1_7 : List S100) (a1_8 : Int) (a1_9 : Int) (a1_10 : Int) (a1_11 : Int) (a1_12 : Bool) (a1_13 : Int) (k : Nat), LeO (resv_Do.f k l0_0 a0_1 a0_2 a0_3 a0_4 a1_0 a1_1 a1_2 a1_3 a1_4 a1_5 a1_6 l1_7 a1_8 a1_9 a1_10 a1_11 a1_12 a1_13) (resv_Do.f (k + 1) l0_0 a0_1 a0_2 a0_3 a0_4 a1_0 a1_1 a1_2 a1_3 a1_4 a1_5 a1_6 l1_7 a1_8 a1_9 a1_10 a1_11 a1_12 a1_13) := by
  intros
  exact do_f.mono _ _ _ _ _ _ _
theorem resv_Do.calls (k : Nat) (P0_0_ : Nat → Prop) (A0_0 : Option Addr) (c0_0 : Nat) (l0_0 : List S53) (a0_1 : Int) (a0_2 : ByteArray) (a0_3 : Int) (a0_4 : Bool) (a1_0 : Int) (a1_1 : Int) (a1_2 : ByteArray) (a1_3 : Int) (a1_4 : Int) (a1_5 : ByteArray) (a1_6 : Bool) (A1_7 : Option Addr) (c1_7 : Nat) (l1_7 : List S100) (a1_8 : Int) (a1_9 : Int) (a1_10 : Int) (a1_11 : Int) (a1_12 : Bool) (a1_13 : Int) (r1 : List S53) (r2 : Int) (r3 : ByteArray) (r4 : Int) (r5 : Bool) (r6 : List S46) (r7 : Int) (w : World) (hs0_0 : Kd.V k53 53 w w.heap.size (fun k_ => P0_0_ k_) (.slice A0_0 l0_0.length c0_0) l0_0) (hr1_7 : Kd.C k100 w A1_7 l1_7.length l1_7) (hc1_7 : l1_7.length ≤ c1_7) (hG : Glob w) (h : resv_Do.f k l0_0 a0_1 a0_2 a0_3 a0_4 a1_0 a1_1 a1_2 a1_3 a1_4 a1_5 a1_6 l1_7 a1_8 a1_9 a1_10 a1_11 a1_12 a1_13 = some (r1, r2, r3, r4, r5, r6, r7)) :
    Calls Tryd.prog 15 #[.agg #[.slice A0_0 l0_0.length c0_0, .int .i64 a0_1, .string a0_2, .int .u32 a0_3, .bool a0_4], .agg #[.int .i64 a1_0, .int .i64 a1_1, .string a1_2, .int .i64 a1_3, .int .i64 a1_4, .string a1_5, .bool a1_6, .slice A1_7 l1_7.length c1_7, .int .u64 a1_8, .int .u64 a1_9, .int .u64 a1_10, .int .i64 a1_11, .bool a1_12, .int .i64 a1_13]] w fun e w' => ∃ v0_ v5_ : Value, e = .returned (.tuple #[.agg #[v0_, .int .i64 r2, .string r3, .int .u32 r4, .bool r5], v5_, .int .i64 r7]) ∧ Kd.V k53 53 w' w.heap.size (fun k_ => (P0_0_ k_ ∨ w.heap.size ≤ k_) ∧ some k_ ≠ (v5_ : Value).ownBlock) v0_ r1 ∧ Kd.R k46 46 w' w.heap.size (fun k_ => (w.heap.size ≤ k_)) v5_ r6 ∧ Below w.heap.size w w' :=
  do_calls k P0_0_ A0_0 c0_0 l0_0 a0_1 a0_2 a0_3 a0_4 ⟨a1_0, a1_1, a1_2, a1_3, a1_4, a1_5, a1_6, l1_7, a1_8, a1_9, a1_10, a1_11, a1_12, a1_13⟩ (.slice A1_7 l1_7.length c1_7) r1 r2 r3 r4 r5 r6 r7 w hs0_0 hG h
end Go.Proofs.YtjogkfcjlljjcaaDoor.P
namespace Go.Proofs.YtjogkfcjlljjcaaDoor.P
open Go.RowKit Go.Proofs.YtjogkfcjlljjcaaDoorW.PrintWords Go.Proofs.YtjogkfcjlljjcaaDoorW.PrintLast Go.Proofs.YtjogkfcjlljjcaaDoorW.PrintMore
attribute [local go_sem] max2_int min2_int max_two min_two max_three min_three max_four min_four   -- for this text's walks alone
set_option linter.unusedVariables false
set_option linter.unusedSimpArgs false
set_option linter.unnecessarySimpa false
def headgatelaw11_wakes.f (k : Nat)  : Option (Bool) := (some (([(⟨(⟨#[97]⟩ : ByteArray), 1⟩ : S53), (⟨(⟨#[98]⟩ : ByteArray), 2⟩ : S53)] : List (S53)) : List (S53))).bind fun y104 => ((resv_Do.f k y104 1 (⟨#[97]⟩ : ByteArray) 0 false 12 0 (⟨#[98]⟩ : ByteArray) 0 0 (⟨#[]⟩ : ByteArray) false ([] : List (S100)) 2 0 1 2 false 0).bind fun bt108 => (if bt108.2.2.2.2.2.2 = 1 then (if (bt108.1.length : Int) = 1 then (if bt108.2.2.1.toList = ([98] : List UInt8) then (if bt108.2.1 = 2 then (if bt108.2.2.2.1 = 1 then (if (bt108.2.2.2.2.2.1.length : Int) = 1 then (if 0 < (bt108.2.2.2.2.2.1.length : Int) then (if ((rd_T46 bt108.2.2.2.2.2.1 0).f0).toList = ([97] : List UInt8) then (if ((rd_T46 bt108.2.2.2.2.2.1 0).f1) = 2 then ((resv_Good.f y104 1 (⟨#[97]⟩ : ByteArray) 0 false).bind fun t122 => (some t122)) else (some false)) else (some false)) else (none)) else (some false)) else (some false)) else (some false)) else (some false)) else (some false)) else (some false)))
theorem headgatelaw11_wakes.mono : ∀ k, LeO (headgatelaw11_wakes.f k ) (headgatelaw11_wakes.f (k + 1) ) := by
 intro  k
 unfold headgatelaw11_wakes.f
 repeat' first
   | (with_reducible exact resv_Do.mono _ _ _ _ _ _ _ _ _ _ _ _ _ _ _ _ _ _ _ _)
   | (with_reducible exact LeO.refl _)
   | (with_reducible exact LeO.none _)
   | (with_reducible refine LeO.ite ?_ ?_)
   | (with_reducible refine LeO.bind ?_ (fun _ => ?_))
   | exact resv_Do.mono _ _ _ _ _ _ _ _ _ _ _ _ _ _ _ _ _ _ _ _
   | exact LeO.none _
   | refine LeO.ite ?_ ?_
   | refine LeO.bind ?_ (fun _ => ?_)
end Go.Proofs.YtjogkfcjlljjcaaDoor.P
namespace Go.Proofs.YtjogkfcjlljjcaaDoor.Num
open Go.RowKit Go.Proofs.YtjogkfcjlljjcaaDoorW.PrintWords Go.Proofs.YtjogkfcjlljjcaaDoorW.PrintMore
theorem w64 {n : Int} (h0 : -9223372036854775808 ≤ n) (h1 : n < 9223372036854775808) : wrap64 n = n := by unfold wrap64; omega
def p (j : Nat) : Int := 256 ^ j
end Go.Proofs.YtjogkfcjlljjcaaDoor.Num
namespace Go.Proofs.YtjogkfcjlljjcaaDoor.Num
open Go.RowKit Go.Proofs.YtjogkfcjlljjcaaDoorW.PrintWords Go.Proofs.YtjogkfcjlljjcaaDoorW.PrintMore
theorem bt_at (s : ByteArray) (i : Nat) (h : i < s.size) : bt s (i : Int) = ((s.data.toList[i]'(by simpa using h)).toNat : Int) := by
  unfold bt
  rw [dif_pos (show ((i : Int)).toNat < s.size by simpa using h)]
  rfl
theorem toList_inj' (a b : ByteArray) : a.toList = b.toList ↔ a = b := by
  rw [ByteArray.toList_eq, ByteArray.toList_eq]
  constructor
  · intro h
    apply ByteArray.ext
    exact Array.toList_inj.mp h
  · intro h
    rw [h]
end Go.Proofs.YtjogkfcjlljjcaaDoor.Num
namespace Go.Proofs.YtjogkfcjlljjcaaDoor.Pure
open Go.RowKit Go.Proofs.YtjogkfcjlljjcaaDoor.P Go.Proofs.YtjogkfcjlljjcaaDoorW.PrintWords Go.Proofs.YtjogkfcjlljjcaaDoorW.PrintLast Go.Proofs.YtjogkfcjlljjcaaDoorW.PrintMore Go.Proofs.YtjogkfcjlljjcaaDoor.Num
set_option linter.unusedVariables false
set_option linter.unusedSimpArgs false
theorem mark5 (c : Nat) : mark_ 5 c = decide ((97 ≤ c ∧ c ≤ 122) ∨ (48 ≤ c ∧ c ≤ 57) ∨ c = 46 ∨ c = 45 ∨ c = 58) := by
  rw [Bool.eq_iff_iff]
  simp only [mark_, lo_, hi_, Bool.false_or, Bool.or_eq_true, decide_eq_true_eq]
  omega
def letter_ (b : Int) : Bool := decide (97 ≤ b ∧ b ≤ 122)
def digit_ (b : Int) : Bool := decide (48 ≤ b ∧ b ≤ 57)
theorem ref_letter (b : Int) : headgateref03_letter.f b = some (letter_ b) := by
  unfold headgateref03_letter.f letter_
  split
  · congr 1
    rw [decide_eq_decide]
    omega
  · rw [decide_eq_false (by omega)]
theorem ref_digit (b : Int) : headgateref03_digit.f b = some (digit_ b) := by
  unfold headgateref03_digit.f digit_
  split
  · congr 1
    rw [decide_eq_decide]
    omega
  · rw [decide_eq_false (by omega)]
theorem ref_Name_l0 (s : ByteArray) (hs : s.size ≤ 64) : ∀ (d k i : Nat), i + d = s.size → d < k → headgateref03_Name.l0 k s (i : Int) = some ((s.data.toList.drop i).all (fun c => mark_ 5 c.toNat))
  | 0, k + 1, i, h, _ => by
    rw [headgateref03_Name.l0, if_neg (by omega), List.drop_eq_nil_of_le (show s.data.toList.length ≤ i by show s.size ≤ i; omega)]
    rfl
  | d + 1, k + 1, i, h, hk => by
    have hi : i < s.size := by omega
    have hl : i < s.data.toList.length := hi
    have e := ref_Name_l0 s hs d k (i + 1) (by omega) (by omega)
    have hw : wrap64 ((i : Int) + 1) = ((i + 1 : Nat) : Int) := by rw [w64 (by omega) (by omega)]; omega
    have hb : bt s (i : Int) = ((s.data.toList[i]'hl).toNat : Int) := bt_at s i hi
    rw [headgateref03_Name.l0, if_pos (by omega), if_pos (by omega), ref_letter, ref_digit, Option.bind_some, Option.bind_some, hw, e, List.drop_eq_getElem_cons hl, List.all_cons, hb, mark5]
    generalize (s.data.toList[i]'hl).toNat = c
    generalize (s.data.toList.drop (i + 1)).all (fun c => mark_ 5 c.toNat) = R
    clear hb e hw
    unfold letter_ digit_
    by_cases a1 : (97 ≤ c ∧ c ≤ 122)
    · rw [decide_eq_true (show (97 : Int) ≤ c ∧ (c : Int) ≤ 122 by omega), if_pos rfl, decide_eq_true (by omega), Bool.true_and]
    rw [decide_eq_false (show ¬ ((97 : Int) ≤ c ∧ (c : Int) ≤ 122) by omega), if_neg (by decide)]
    by_cases a2 : (48 ≤ c ∧ c ≤ 57)
    · rw [decide_eq_true (show (48 : Int) ≤ c ∧ (c : Int) ≤ 57 by omega), if_pos rfl, decide_eq_true (by omega), Bool.true_and]
    rw [decide_eq_false (show ¬ ((48 : Int) ≤ c ∧ (c : Int) ≤ 57) by omega), if_neg (by decide)]
    by_cases a3 : c = 46
    · rw [if_pos (by omega), decide_eq_true (by omega), Bool.true_and]
    rw [if_neg (by omega)]
    by_cases a4 : c = 45
    · rw [if_pos (by omega), decide_eq_true (by omega), Bool.true_and]
    rw [if_neg (by omega)]
    by_cases a5 : c = 58
    · rw [if_pos (by omega), decide_eq_true (by omega), Bool.true_and]
    rw [if_neg (by omega), decide_eq_false (by omega), Bool.false_and]
theorem ref_Name_spec (k : Nat) (s : ByteArray) (hk : 70 ≤ k) : headgateref03_Name.f k s = some (nameB s) := by
  obtain ⟨k, rfl⟩ : ∃ q, k = q + 1 := ⟨k - 1, by omega⟩
  have ht : headgateref03_Name.j0 (k + 1) s true = some false := by rw [headgateref03_Name.j0, if_pos rfl]
  unfold headgateref03_Name.f nameB
  by_cases h1 : s.size < 1
  · rw [if_pos (by omega), ht, decide_eq_false (by omega), Bool.false_and]
  rw [if_neg (by omega)]
  by_cases h2 : s.size > 64
  · rw [if_pos (by omega), ht, decide_eq_false (by omega), Bool.false_and]
  rw [if_neg (by omega), if_pos (by omega), ref_letter, Option.bind_some]
  unfold letter_
  by_cases h3 : 97 ≤ bt s 0 ∧ bt s 0 ≤ 122
  · have e := ref_Name_l0 s (by omega) s.size k 0 (by omega) (by omega)
    rw [decide_eq_true h3, decide_eq_true ⟨by omega, by omega, h3.1, h3.2⟩, headgateref03_Name.j0, if_neg (by decide), Bool.true_and]
    exact e
  · rw [decide_eq_false h3, decide_eq_false (fun h => h3 h.2.2), Bool.false_and]
    exact ht
end Go.Proofs.YtjogkfcjlljjcaaDoor.Pure
namespace Go.Proofs.YtjogkfcjlljjcaaDoor.Pure
open Go.RowKit Go.Proofs.YtjogkfcjlljjcaaDoor.P Go.Proofs.YtjogkfcjlljjcaaDoorW.PrintWords Go.Proofs.YtjogkfcjlljjcaaDoorW.PrintLast Go.Proofs.YtjogkfcjlljjcaaDoorW.PrintMore Go.Proofs.YtjogkfcjlljjcaaDoor.Num
set_option linter.unusedVariables false
set_option linter.unusedSimpArgs false
theorem rd_at (l : List S53) (i : Nat) (h : i < l.length) : rd_T53 l (i : Int) = l[i] := by
  unfold rd_T53
  rw [List.getD_eq_getElem?_getD, Int.toNat_natCast, List.getElem?_eq_getElem h]
  rfl
def reg (l : List S53) (h : ByteArray) : Bool := l.any fun r => decide (r.f0.toList = h.toList)
theorem ref_l0 (h : ByteArray) (l : List S53) (t : Int) (o : ByteArray) (g : Int) (b : Bool) (hl : l.length ≤ 1000) : ∀ (n k i : Nat), i + n = l.length → n + 1 ≤ k → headgateref10_Registered.l0 k h (i : Int) l t o g b = some ((l.drop i).any fun r => decide (r.f0.toList = h.toList))
  | 0, k + 1, i, hi, hk => by
    show (if (i : Int) < (l.length : Int) then _ else some false) = _
    rw [if_neg (by omega), List.drop_eq_nil_of_le (by omega)]
    rfl
  | n + 1, k + 1, i, hi, hk => by
    have hlt : i < l.length := by omega
    show (if (i : Int) < (l.length : Int) then (if 0 ≤ (i : Int) then (if ((rd_T53 l i).f0).toList = h.toList then (some true) else (headgateref10_Registered.l0 k h (wrap64 ((i : Int) + 1)) l t o g b)) else none) else some false) = _
    rw [if_pos (by omega), if_pos (by omega), rd_at l i hlt, List.drop_eq_getElem_cons hlt, List.any_cons]
    by_cases hc : (l[i]).f0.toList = h.toList
    · rw [if_pos hc, decide_eq_true hc]
      rfl
    · rw [if_neg hc, decide_eq_false hc, w64 (by omega) (by omega)]
      exact ref_l0 h l t o g b hl n k (i + 1) (by omega) (by omega)
theorem ref_spec (k : Nat) (l : List S53) (t : Int) (o : ByteArray) (g : Int) (b : Bool) (h : ByteArray) (hl : l.length ≤ 201) (hk : 210 ≤ k) : headgateref10_Registered.f k l t o g b h = some (reg l h) :=
  ref_l0 h l t o g b (by omega) l.length k 0 (by omega) (by omega)
theorem large_l0 (l : List S53) (t : Int) (o : ByteArray) (g : Int) (b : Bool) (hl : l.length ≤ 1000) : ∀ (n k i : Nat), i + n = l.length → n + 1 ≤ k → ∃ z, headgatelaw10_Large.l0 k (i : Int) l t o g b = some z ∧ (z = false → ∀ x ∈ l.drop i, x.f0.size ≤ 1000)
  | 0, k + 1, i, hi, hk => ⟨false, by
    show (if (i : Int) < (l.length : Int) then _ else some false) = _
    rw [if_neg (by omega)], fun _ x hx => by rw [List.drop_eq_nil_of_le (by omega)] at hx; cases hx⟩
  | n + 1, k + 1, i, hi, hk => by
    show ∃ z, (if (i : Int) < (l.length : Int) then (if 0 ≤ (i : Int) then (if (((rd_T53 l i).f0).size : Int) > 1000 then (some true) else (headgatelaw10_Large.l0 k (wrap64 ((i : Int) + 1)) l t o g b)) else none) else some false) = some z ∧ _
    have hlt : i < l.length := by omega
    rw [if_pos (by omega), if_pos (by omega), w64 (by omega) (by omega), rd_at l i hlt]
    split
    · exact ⟨_, rfl, fun h => by cases h⟩
    · rename_i hs
      obtain ⟨z, hz, hx⟩ := large_l0 l t o g b hl n k (i + 1) (by omega) (by omega)
      refine ⟨z, hz, fun h x hm => ?_⟩
      rw [List.drop_eq_getElem_cons hlt, List.mem_cons] at hm
      rcases hm with rfl | hm
      · omega
      · exact hx h x hm
theorem Large_spec (k : Nat) (l : List S53) (t : Int) (o : ByteArray) (g : Int) (b : Bool) (hk : 220 ≤ k) : ∃ z, headgatelaw10_Large.f k l t o g b = some z ∧ (z = false → l.length ≤ 200 ∧ o.size ≤ 1000 ∧ ∀ x ∈ l, x.f0.size ≤ 1000) := by
  obtain ⟨k, rfl⟩ := Nat.exists_eq_add_of_le' (show 1 ≤ k by omega)
  unfold headgatelaw10_Large.f
  split
  · exact ⟨true, rfl, fun h => by cases h⟩
  · have hl : l.length ≤ 200 := by omega
    show ∃ z, (if (decide ((o.size : Int) > 1000)) = true then (some true) else (headgatelaw10_Large.l0 k 0 l t o g b)) = some z ∧ _
    split
    · exact ⟨true, rfl, fun h => by cases h⟩
    · rename_i ho
      obtain ⟨z, hz, hx⟩ := large_l0 l t o g b (by omega) l.length k 0 (by omega) (by omega)
      exact ⟨z, hz, fun h => ⟨hl, by have : ¬ ((o.size : Int) > 1000) := fun x => ho (decide_eq_true x); omega, hx h⟩⟩
theorem Copy_spec (l : List S53) (t : Int) (o : ByteArray) (g : Int) (b : Bool) (hl : l.length ≤ 200) : headgatekeep_CopyTable.f l t o g b = some (l, t, o, g, b) := by
  unfold headgatekeep_CopyTable.f
  rw [Option.bind_some, if_pos (by simp; omega)]
  rfl
theorem regs_l0 (l m : List S53) (e : l.length = m.length) (hl : l.length ≤ 1000) : ∀ (n k i : Nat), i + n = l.length → n + 1 ≤ k → ∃ z, headgatekeep_Regs.l0 k l m (i : Int) = some z ∧ (z = true ↔ l.drop i = m.drop i)
  | 0, k + 1, i, hi, hk => by
    refine ⟨true, ?_, ?_⟩
    · show (if (i : Int) < (l.length : Int) then _ else some true) = _
      rw [if_neg (by omega)]
    · rw [List.drop_eq_nil_of_le (by omega), List.drop_eq_nil_of_le (by omega)]
      simp
  | n + 1, k + 1, i, hi, hk => by
    have h1 : i < l.length := by omega
    have h2 : i < m.length := by omega
    show ∃ z, (if (i : Int) < (l.length : Int) then (if 0 ≤ (i : Int) then (if (i : Int) < (m.length : Int) then (if ((rd_T53 l i).f0).toList = ((rd_T53 m i).f0).toList then (if ((rd_T53 l i).f1) = ((rd_T53 m i).f1) then (headgatekeep_Regs.l0 k l m (wrap64 ((i : Int) + 1))) else (some false)) else (some false)) else (none)) else (none)) else (some true)) = some z ∧ _
    rw [if_pos (by omega), if_pos (by omega), if_pos (by omega), rd_at l i h1, rd_at m i h2, List.drop_eq_getElem_cons h1, List.drop_eq_getElem_cons h2]
    by_cases c1 : (l[i]).f0.toList = (m[i]).f0.toList
    · rw [if_pos c1]
      by_cases c2 : (l[i]).f1 = (m[i]).f1
      · rw [if_pos c2, w64 (by omega) (by omega)]
        obtain ⟨z, hz, hx⟩ := regs_l0 l m e hl n k (i + 1) (by omega) (by omega)
        refine ⟨z, hz, hx.trans ?_⟩
        have : l[i] = m[i] := by
          have c1' := (toList_inj' _ _).mp c1
          cases h3 : l[i]
          cases h4 : m[i]
          rw [h3, h4] at c1' c2
          simp only at c1' c2
          rw [c1', c2]
        rw [this, List.cons_inj_right]
      · rw [if_neg c2]
        exact ⟨false, rfl, by simp only [Bool.false_eq_true, false_iff, List.cons.injEq, not_and]; intro h; exact absurd (congrArg S53.f1 h) c2⟩
    · rw [if_neg c1]
      exact ⟨false, rfl, by simp only [Bool.false_eq_true, false_iff, List.cons.injEq, not_and]; intro h; exact absurd (congrArg (fun x => x.f0.toList) h) c1⟩
theorem Tables_spec (k : Nat) (l : List S53) (t : Int) (o : ByteArray) (g : Int) (b : Bool) (l' : List S53) (t' : Int) (o' : ByteArray) (g' : Int) (b' : Bool) (hl : l.length ≤ 300) (hk : 310 ≤ k) : ∃ z, headgatekeep_Tables.f k l t o g b l' t' o' g' b' = some z ∧ (z = true ↔ (l = l' ∧ t = t' ∧ o = o' ∧ g = g' ∧ b = b')) := by
  unfold headgatekeep_Tables.f headgatekeep_Regs.f
  by_cases e : l.length = l'.length
  · obtain ⟨z, hz, hx⟩ := regs_l0 l l' e (by omega) l.length k 0 (by omega) (by omega)
    simp only [List.drop_zero] at hx
    have hz' : headgatekeep_Regs.l0 k l l' 0 = some z := hz
    rw [if_pos (by omega), hz', Option.bind_some]
    by_cases h1 : l = l'
    · rw [if_pos (hx.mpr h1)]
      by_cases h2 : t = t'
      · rw [if_pos h2]
        by_cases h3 : o = o'
        · rw [if_pos (by rw [h3])]
          by_cases h4 : g = g'
          · rw [if_pos h4]
            refine ⟨_, rfl, ?_⟩
            rw [beq_iff_eq]
            exact ⟨fun h5 => ⟨h1, h2, h3, h4, h5⟩, fun z => z.2.2.2.2⟩
          · rw [if_neg h4]
            exact ⟨false, rfl, fun z => Bool.noConfusion z, fun z => absurd z.2.2.2.1 h4⟩
        · rw [if_neg (fun z => h3 ((toList_inj' _ _).mp z))]
          exact ⟨false, rfl, fun z => Bool.noConfusion z, fun z => absurd z.2.2.1 h3⟩
      · rw [if_neg h2]
        exact ⟨false, rfl, fun z => Bool.noConfusion z, fun z => absurd z.2.1 h2⟩
    · rw [if_neg (fun z => h1 (hx.mp z))]
      exact ⟨false, rfl, fun z => Bool.noConfusion z, fun z => absurd z.1 h1⟩
  · rw [if_neg (by omega), Option.bind_some, if_neg (by decide)]
    exact ⟨false, rfl, fun z => Bool.noConfusion z, fun z => absurd (by rw [z.1]) e⟩
def goodB (l : List S53) (typ : Int) (host : ByteArray) : Bool := if (l.length : Int) > 16 then false else if okAll_ l then holdOk_ l typ host else false
theorem Good_spec (l : List S53) (typ : Int) (host : ByteArray) (gen : Int) (apt : Bool) (hh : host.size ≤ 5000) (hl : ∀ x ∈ l, x.f0.size ≤ 5000) : resv_Good.f l typ host gen apt = some (goodB l typ host) := by
  unfold resv_Good.f goodB
  rw [if_pos ⟨by omega, fun x hx => by have := hl x hx; omega⟩]
theorem good_iff (l : List S53) (typ : Int) (host : ByteArray) : goodB l typ host = true ↔ l.length ≤ 16 ∧ okAll_ l ∧ holdOk_ l typ host = true := by
  unfold goodB
  by_cases h1 : (l.length : Int) > 16
  · rw [if_pos h1]
    exact ⟨fun h => Bool.noConfusion h, fun h => by omega⟩
  · rw [if_neg h1]
    by_cases h2 : okAll_ l
    · rw [if_pos h2]
      exact ⟨fun h => ⟨by omega, h2, h⟩, fun h => h.2.2⟩
    · rw [if_neg h2]
      exact ⟨fun h => Bool.noConfusion h, fun h => absurd h.2.1 h2⟩
theorem mem_hosts (l : List S53) (i : Nat) (h : ByteArray) : h.data.toList ∈ hosts_ l i ↔ ∃ j, j < i ∧ ∃ hj : j < l.length, (l[j]).f0 = h := by
  unfold hosts_
  rw [List.mem_map]
  constructor
  · rintro ⟨x, hx, he⟩
    obtain ⟨j, hj, rfl⟩ := List.getElem_of_mem hx
    have hj1 : j < i := by have := hj; rw [List.length_take] at this; omega
    have hj2 : j < l.length := by have := hj; rw [List.length_take] at this; omega
    refine ⟨j, hj1, hj2, ?_⟩
    rw [List.getElem_take] at he
    exact ByteArray.ext (Array.toList_inj.mp he)
  · rintro ⟨j, hj, hl, rfl⟩
    refine ⟨l[j], ?_, rfl⟩
    rw [List.mem_take_iff_getElem]
    exact ⟨j, by omega, rfl⟩
theorem ok_at (l : List S53) (i : Nat) (hi : i < l.length) : okAt_ l i ↔ (∀ j, ∀ hj : j < i, (l[j]'(by omega)).f0 ≠ (l[i]).f0) ∧ nameB (l[i]).f0 = true ∧ (l[i]).f1 ≠ 0 := by
  unfold okAt_
  rw [rd_at l i hi, mem_hosts]
  refine and_congr_left' ?_
  exact ⟨fun h j hj e => h ⟨j, hj, by omega, e⟩, fun h ⟨j, hj, _, e⟩ => h j hj e⟩
theorem name_size {s : ByteArray} (h : nameB s = true) : 1 ≤ s.size ∧ s.size ≤ 64 := by
  unfold nameB at h
  rw [Bool.and_eq_true] at h
  have := of_decide_eq_true h.1
  exact ⟨this.1, this.2.1⟩
theorem reg_hosts (l : List S53) (h : ByteArray) : reg l h = decide (h.data.toList ∈ hosts_ l l.length) := by
  rw [Bool.eq_iff_iff, decide_eq_true_iff, mem_hosts]
  unfold reg
  rw [List.any_eq_true]
  constructor
  · rintro ⟨x, hx, he⟩
    obtain ⟨j, hj, rfl⟩ := List.getElem_of_mem hx
    exact ⟨j, hj, hj, (toList_inj' _ _).mp (of_decide_eq_true he)⟩
  · rintro ⟨j, _, hj, rfl⟩
    exact ⟨l[j], List.getElem_mem hj, decide_eq_true rfl⟩
end Go.Proofs.YtjogkfcjlljjcaaDoor.Pure
namespace Go.Proofs.YtjogkfcjlljjcaaDoor.Pure
open Go.RowKit Go.Proofs.YtjogkfcjlljjcaaDoor.P Go.Proofs.YtjogkfcjlljjcaaDoorW.PrintWords Go.Proofs.YtjogkfcjlljjcaaDoorW.PrintLast Go.Proofs.YtjogkfcjlljjcaaDoorW.PrintMore Go.Proofs.YtjogkfcjlljjcaaDoor.Num
set_option linter.unusedVariables false
set_option linter.unusedSimpArgs false
theorem alone_spec (t : Int) : headgateref11_alone.f t = some (decide (1 ≤ t ∧ t ≤ 4)) := by
  unfold headgateref11_alone.f
  by_cases h : t ≥ 1
  · rw [if_pos h]
    by_cases h2 : t ≤ 4
    · rw [decide_eq_true h2, decide_eq_true ⟨h, h2⟩]
    · rw [decide_eq_false h2, decide_eq_false (fun z => h2 z.2)]
  · rw [if_neg h, decide_eq_false (fun z => h z.1)]
theorem refType_spec (t : Int) : headgateref10_Type.f t = some (decide (1 ≤ t ∧ t ≤ 6)) := by
  unfold headgateref10_Type.f
  by_cases h : t ≥ 1
  · rw [if_pos h]
    by_cases h2 : t ≤ 6
    · rw [decide_eq_true h2, decide_eq_true ⟨h, h2⟩]
    · rw [decide_eq_false h2, decide_eq_false (fun z => h2 z.2)]
  · rw [if_neg h, decide_eq_false (fun z => h z.1)]
theorem good_end (l : List S53) (typ : Int) (host : ByteArray) (gen : Int) (apt : Bool) (hl : l.length ≤ 16) (k : Nat) (hk : 220 ≤ k) : headgateref11_Good.l0 k (l.length : Int) l typ host gen apt = some (holdOk_ l typ host) := by
  obtain ⟨k, rfl⟩ : ∃ q, k = q + 1 := ⟨k - 1, by omega⟩
  rw [headgateref11_Good.l0, if_neg (by omega)]
  unfold holdOk_
  by_cases h0 : typ = 0
  · rw [if_pos h0, if_pos h0]
  · rw [if_neg h0, if_neg h0, alone_spec, Option.bind_some]
    by_cases h1 : 1 ≤ typ ∧ typ ≤ 4
    · rw [decide_eq_true h1, if_pos rfl, ref_spec k l typ host gen apt host (by omega) (by omega), Option.bind_some, if_neg (show ¬ (typ < 1 ∨ 6 < typ) by omega), if_neg (show ¬ (typ = 5 ∨ typ = 6) by omega), reg_hosts]
    · rw [decide_eq_false h1, if_neg (by decide), refType_spec, Option.bind_some]
      by_cases h2 : 1 ≤ typ ∧ typ ≤ 6
      · rw [decide_eq_true h2, if_pos rfl, if_neg (show ¬ (typ < 1 ∨ 6 < typ) by omega), if_pos (show typ = 5 ∨ typ = 6 by omega)]
        by_cases h3 : host.toList = ([] : List UInt8)
        · rw [if_pos h3, beq_iff_eq.mpr h3, Bool.true_and]
          congr 1
          rw [decide_eq_decide]
          omega
        · rw [if_neg h3, beq_eq_false_iff_ne.mpr h3, Bool.false_and]
      · rw [decide_eq_false h2, if_neg (by decide), if_pos (by omega)]
open Classical in
theorem good_l1 (l : List S53) (typ : Int) (host : ByteArray) (gen : Int) (apt : Bool) (hl : l.length ≤ 16) (i : Nat) (hi : i < l.length) (R : Bool) (K : Nat) (hR : ∀ k, K ≤ k → headgateref11_Good.l0 k ((i + 1 : Nat) : Int) l typ host gen apt = some R) : ∀ (n k j : Nat), j + n = i → K + n + 1 ≤ k →
    headgateref11_Good.l1 k (i : Int) (j : Int) l typ host gen apt = some (if ∃ j', j ≤ j' ∧ j' < i ∧ (rd_T53 l (j' : Int)).f0.toList = (rd_T53 l (i : Int)).f0.toList then false else R)
  | 0, k + 1, j, hj, hk => by
    rw [headgateref11_Good.l1, if_neg (by omega), if_neg (fun ⟨j', h1, h2, _⟩ => by omega), w64 (by omega) (by omega)]
    exact hR k (by omega)
  | n + 1, k + 1, j, hj, hk => by
    rw [headgateref11_Good.l1, if_pos (by omega), if_pos (by omega), if_pos (by omega), if_pos (by omega), if_pos (by omega)]
    by_cases hc : (rd_T53 l (j : Int)).f0.toList = (rd_T53 l (i : Int)).f0.toList
    · rw [if_pos hc, if_pos ⟨j, Nat.le_refl _, by omega, hc⟩]
    · rw [if_neg hc, w64 (by omega) (by omega)]
      have := good_l1 l typ host gen apt hl i hi R K hR n k (j + 1) (by omega) (by omega)
      have e : (∃ j', j ≤ j' ∧ j' < i ∧ (rd_T53 l (j' : Int)).f0.toList = (rd_T53 l (i : Int)).f0.toList) ↔ (∃ j', j + 1 ≤ j' ∧ j' < i ∧ (rd_T53 l (j' : Int)).f0.toList = (rd_T53 l (i : Int)).f0.toList) := by
        constructor
        · rintro ⟨j', h1, h2, h3⟩
          by_cases h4 : j' = j
          · subst h4; exact absurd h3 hc
          · exact ⟨j', by omega, h2, h3⟩
        · rintro ⟨j', h1, h2, h3⟩
          exact ⟨j', by omega, h2, h3⟩
      simp only [e]
      exact this
theorem okAt_dup (l : List S53) (i : Nat) (hi : i < l.length) : (∃ j', 0 ≤ j' ∧ j' < i ∧ (rd_T53 l (j' : Int)).f0.toList = (rd_T53 l (i : Int)).f0.toList) ↔ (rd_T53 l (i : Int)).f0.data.toList ∈ hosts_ l i := by
  rw [rd_at l i hi, mem_hosts]
  constructor
  · rintro ⟨j, _, h2, h3⟩
    have hj : j < l.length := by omega
    rw [rd_at l j hj] at h3
    exact ⟨j, h2, hj, (toList_inj' _ _).mp h3⟩
  · rintro ⟨j, h2, hj, h3⟩
    exact ⟨j, Nat.zero_le _, h2, by rw [rd_at l j hj, h3]⟩
open Classical in
theorem good_l0 (l : List S53) (typ : Int) (host : ByteArray) (gen : Int) (apt : Bool) (hl : l.length ≤ 16) : ∀ (n k i : Nat), i + n = l.length → 220 + 30 * n ≤ k →
    headgateref11_Good.l0 k (i : Int) l typ host gen apt = some (if ∀ j, i ≤ j → j < l.length → okAt_ l j then holdOk_ l typ host else false)
  | 0, k, i, hi, hk => by
    have : i = l.length := by omega
    subst this
    rw [good_end l typ host gen apt hl k (by omega), if_pos (fun j h1 h2 => by omega)]
  | n + 1, k, i, hi, hk => by
    obtain ⟨k, rfl⟩ : ∃ q, k = q + 2 := ⟨k - 2, by omega⟩
    have hlt : i < l.length := by omega
    have ih := fun k' (hk' : 220 + 30 * n ≤ k') => good_l0 l typ host gen apt hl n k' (i + 1) (by omega) hk'
    have e1 := good_l1 l typ host gen apt hl i hlt _ (220 + 30 * n) ih i k 0 (by omega) (by omega)
    have split_ : (∀ j, i ≤ j → j < l.length → okAt_ l j) ↔ okAt_ l i ∧ (∀ j, i + 1 ≤ j → j < l.length → okAt_ l j) := by
      constructor
      · exact fun h => ⟨h i (Nat.le_refl _) hlt, fun j h1 h2 => h j (by omega) h2⟩
      · rintro ⟨h1, h2⟩ j h3 h4
        by_cases h5 : j = i
        · subst h5; exact h1
        · exact h2 j (by omega) h4
    rw [headgateref11_Good.l0, if_pos (by omega), if_pos (by omega), ref_Name_spec (k + 1) _ (by omega), Option.bind_some]
    have hok : okAt_ l i = ((rd_T53 l (i : Int)).f0.data.toList ∉ hosts_ l i ∧ nameB (rd_T53 l (i : Int)).f0 = true ∧ (rd_T53 l (i : Int)).f1 ≠ 0) := rfl
    by_cases hn : nameB (rd_T53 l (i : Int)).f0 = true
    · rw [if_pos hn]
      by_cases hk0 : (rd_T53 l (i : Int)).f1 = 0
      · rw [beq_iff_eq.mpr hk0, headgateref11_Good.j1, if_pos rfl, if_neg]
        intro h
        have := (split_.mp h).1
        rw [hok] at this
        exact this.2.2 hk0
      · rw [beq_eq_false_iff_ne.mpr hk0, headgateref11_Good.j1, if_neg (by decide)]
        refine e1.trans (congrArg some ?_)
        by_cases hd : (rd_T53 l (i : Int)).f0.data.toList ∈ hosts_ l i
        · rw [if_pos ((okAt_dup l i hlt).mpr hd), if_neg]
          intro h
          have := (split_.mp h).1
          rw [hok] at this
          exact this.1 hd
        · rw [if_neg (fun h => hd ((okAt_dup l i hlt).mp h))]
          have h1 : okAt_ l i := by rw [hok]; exact ⟨hd, hn, hk0⟩
          by_cases h2 : ∀ j, i + 1 ≤ j → j < l.length → okAt_ l j
          · rw [if_pos h2, if_pos (split_.mpr ⟨h1, h2⟩)]
          · rw [if_neg h2, if_neg (fun h => h2 (split_.mp h).2)]
    · rw [if_neg hn, headgateref11_Good.j1, if_pos rfl, if_neg]
      intro h
      have := (split_.mp h).1
      rw [hok] at this
      exact hn this.2.1
theorem ref_Good_spec (l : List S53) (typ : Int) (host : ByteArray) (gen : Int) (apt : Bool) (k : Nat) (hk : 800 ≤ k) : headgateref11_Good.f k l typ host gen apt = some (goodB l typ host) := by
  unfold headgateref11_Good.f goodB
  by_cases h : (l.length : Int) > 16
  · rw [if_pos h, if_pos h]
  · rw [if_neg h, if_neg h]
    have := good_l0 l typ host gen apt (by omega) l.length k 0 (by omega) (by omega)
    refine this.trans (congrArg some ?_)
    have e : (∀ j, 0 ≤ j → j < l.length → okAt_ l j) ↔ okAll_ l := ⟨fun h j hj => h j (Nat.zero_le _) hj, fun h j _ hj => h j hj⟩
    by_cases h2 : okAll_ l
    · rw [if_pos (e.mpr h2), if_pos h2]
    · rw [if_neg (fun z => h2 (e.mp z)), if_neg h2]
end Go.Proofs.YtjogkfcjlljjcaaDoor.Pure
namespace Go.Proofs.YtjogkfcjlljjcaaDoor.Pure
open Go.RowKit Go.Proofs.YtjogkfcjlljjcaaDoor.P Go.Proofs.YtjogkfcjlljjcaaDoorW.PrintWords Go.Proofs.YtjogkfcjlljjcaaDoorW.PrintLast Go.Proofs.YtjogkfcjlljjcaaDoorW.PrintMore Go.Proofs.YtjogkfcjlljjcaaDoor.Num
set_option linter.unusedVariables false
set_option linter.unusedSimpArgs false
def typed (t : Int) : Bool := decide (1 ≤ t ∧ t ≤ 6)
theorem Type_spec (t : Int) : access_Type.f t = some (typed t) := by
  unfold access_Type.f typed
  by_cases h : t ≥ 1
  · rw [if_pos h]
    congr 1
    rw [decide_eq_decide]
    omega
  · rw [if_neg h, decide_eq_false (by omega)]
end Go.Proofs.YtjogkfcjlljjcaaDoor.Pure
namespace Go.Proofs.YtjogkfcjlljjcaaDoor.Pure
open Go.RowKit Go.Proofs.YtjogkfcjlljjcaaDoor.P Go.Proofs.YtjogkfcjlljjcaaDoorW.PrintWords Go.Proofs.YtjogkfcjlljjcaaDoorW.PrintLast Go.Proofs.YtjogkfcjlljjcaaDoorW.PrintMore Go.Proofs.YtjogkfcjlljjcaaDoor.Num
set_option linter.unusedVariables false
set_option linter.unusedSimpArgs false
def keyL (l : List S53) (h : ByteArray) : Int := match l.find? (fun r => decide (r.f0.toList = h.toList)) with | some r => r.f1 | none => 0
theorem Key_l0 (h : ByteArray) (l : List S53) (hl : l.length ≤ 1000) : ∀ (n k i : Nat), i + n = l.length → n + 1 ≤ k → resv_Key.l0 k h l (l.length : Int) (i : Int) = some (keyL (l.drop i) h)
  | 0, k + 1, i, hi, hk => by
    show (if (i : Int) < (l.length : Int) then _ else some 0) = _
    rw [if_neg (by omega), List.drop_eq_nil_of_le (by omega)]
    rfl
  | n + 1, k + 1, i, hi, hk => by
    have hlt : i < l.length := by omega
    show (if (i : Int) < (l.length : Int) then (if 0 ≤ (i : Int) then (if (i : Int) < (l.length : Int) then (if ((rd_T53 l i).f0).toList = h.toList then (some ((rd_T53 l i).f1)) else (resv_Key.l0 k h l (l.length : Int) (wrap64 ((i : Int) + 1)))) else (none)) else (none)) else (some 0)) = _
    rw [if_pos (by omega), if_pos (by omega), if_pos (by omega), rd_at l i hlt, List.drop_eq_getElem_cons hlt]
    unfold keyL
    rw [List.find?_cons]
    by_cases hc : (l[i]).f0.toList = h.toList
    · rw [if_pos hc, decide_eq_true hc]
    · rw [if_neg hc, decide_eq_false hc, w64 (by omega) (by omega)]
      exact Key_l0 h l hl n k (i + 1) (by omega) (by omega)
theorem Key_spec (k : Nat) (l : List S53) (t : Int) (o : ByteArray) (g : Int) (b : Bool) (h : ByteArray) (hl : l.length ≤ 201) (hk : 210 ≤ k) : resv_Key.f k l t o g b h = some (keyL l h) :=
  Key_l0 h l (by omega) l.length k 0 (by omega) (by omega)
theorem refKey_l0 (h : ByteArray) (l : List S53) (t : Int) (o : ByteArray) (g : Int) (b : Bool) (hl : l.length ≤ 1000) : ∀ (n k i : Nat), i + n = l.length → n + 1 ≤ k → headgateref11_Key.l0 k h (i : Int) l t o g b = some (keyL (l.drop i) h)
  | 0, k + 1, i, hi, hk => by
    show (if (i : Int) < (l.length : Int) then _ else some 0) = _
    rw [if_neg (by omega), List.drop_eq_nil_of_le (by omega)]
    rfl
  | n + 1, k + 1, i, hi, hk => by
    have hlt : i < l.length := by omega
    show (if (i : Int) < (l.length : Int) then (if 0 ≤ (i : Int) then (if ((rd_T53 l i).f0).toList = h.toList then (some ((rd_T53 l i).f1)) else (headgateref11_Key.l0 k h (wrap64 ((i : Int) + 1)) l t o g b)) else (none)) else (some 0)) = _
    rw [if_pos (by omega), if_pos (by omega), rd_at l i hlt, List.drop_eq_getElem_cons hlt]
    unfold keyL
    rw [List.find?_cons]
    by_cases hc : (l[i]).f0.toList = h.toList
    · rw [if_pos hc, decide_eq_true hc]
    · rw [if_neg hc, decide_eq_false hc, w64 (by omega) (by omega)]
      exact refKey_l0 h l t o g b hl n k (i + 1) (by omega) (by omega)
theorem refKey_spec (k : Nat) (l : List S53) (t : Int) (o : ByteArray) (g : Int) (b : Bool) (h : ByteArray) (hl : l.length ≤ 201) (hk : 210 ≤ k) : headgateref11_Key.f k l t o g b h = some (keyL l h) :=
  refKey_l0 h l t o g b (by omega) l.length k 0 (by omega) (by omega)
theorem tl_inj {a b : ByteArray} : a.toList = b.toList ↔ a = b := toList_inj' a b
def okL (l : List S53) : Prop := (l.Pairwise fun a b => a.f0 ≠ b.f0) ∧ ∀ x ∈ l, nameB x.f0 = true ∧ x.f1 ≠ 0
theorem ok_iff (l : List S53) : okAll_ l ↔ okL l := by
  unfold okAll_ okL
  constructor
  · intro h
    refine ⟨?_, ?_⟩
    · rw [List.pairwise_iff_getElem]
      intro i j hi hj hij
      exact ((ok_at l j hj).mp (h j hj)).1 i hij
    · intro x hx
      obtain ⟨i, hi, rfl⟩ := List.getElem_of_mem hx
      exact ((ok_at l i hi).mp (h i hi)).2
  · rintro ⟨h1, h2⟩ i hi
    rw [List.pairwise_iff_getElem] at h1
    exact (ok_at l i hi).mpr ⟨fun j hj => h1 j i (by omega) hi hj, h2 _ (List.getElem_mem hi)⟩
theorem good_ok {l : List S53} {typ : Int} {host : ByteArray} (h : goodB l typ host = true) : l.length ≤ 16 ∧ okL l ∧ holdOk_ l typ host = true := by
  obtain ⟨h1, h2, h3⟩ := (good_iff l typ host).mp h
  exact ⟨h1, (ok_iff l).mp h2, h3⟩
theorem good_mk {l : List S53} {typ : Int} {host : ByteArray} (h1 : l.length ≤ 16) (h2 : okL l) (h3 : holdOk_ l typ host = true) : goodB l typ host = true := (good_iff l typ host).mpr ⟨h1, (ok_iff l).mpr h2, h3⟩
theorem reg_iff (l : List S53) (h : ByteArray) : reg l h = true ↔ ∃ x ∈ l, x.f0 = h := by
  unfold reg
  rw [List.any_eq_true]
  constructor
  · rintro ⟨x, hx, he⟩
    exact ⟨x, hx, tl_inj.mp (of_decide_eq_true he)⟩
  · rintro ⟨x, hx, rfl⟩
    exact ⟨x, hx, decide_eq_true rfl⟩
theorem every_spec (t : Int) : resv_everybody.f t = some (decide (t = 5 ∨ t = 6)) := by
  unfold resv_everybody.f
  by_cases h : t = 5
  · rw [if_pos h, decide_eq_true (Or.inl h)]
  · rw [if_neg h]
    congr 1
    by_cases h6 : t = 6
    · rw [decide_eq_true (Or.inr h6), h6]; rfl
    · rw [beq_eq_false_iff_ne.mpr h6, decide_eq_false (by omega)]
end Go.Proofs.YtjogkfcjlljjcaaDoor.Pure
namespace Go.Proofs.YtjogkfcjlljjcaaDoor.Pure
open Go.RowKit Go.Proofs.YtjogkfcjlljjcaaDoor.P Go.Proofs.YtjogkfcjlljjcaaDoorW.PrintWords Go.Proofs.YtjogkfcjlljjcaaDoorW.PrintLast Go.Proofs.YtjogkfcjlljjcaaDoorW.PrintMore Go.Proofs.YtjogkfcjlljjcaaDoor.Num
set_option linter.unusedVariables false
set_option linter.unusedSimpArgs false
theorem tl_nil {h : ByteArray} : h.toList = ([] : List UInt8) ↔ h = (⟨#[]⟩ : ByteArray) := by
  have e : (⟨#[]⟩ : ByteArray).toList = ([] : List UInt8) := by rw [ByteArray.toList_eq]
  exact ⟨fun z => tl_inj.mp (z.trans e.symm), fun z => by rw [z]; exact e⟩
theorem hold_iff (l : List S53) (typ : Int) (host : ByteArray) : holdOk_ l typ host = true ↔ (typ = 0 ∧ host = (⟨#[]⟩ : ByteArray)) ∨ (1 ≤ typ ∧ typ ≤ 4 ∧ reg l host = true) ∨ ((typ = 5 ∨ typ = 6) ∧ host = (⟨#[]⟩ : ByteArray) ∧ 0 < l.length) := by
  unfold holdOk_
  by_cases h0 : typ = 0
  · rw [if_pos h0, beq_iff_eq, tl_nil]
    constructor
    · exact fun z => Or.inl ⟨h0, z⟩
    · rintro (z | z | z)
      · exact z.2
      · omega
      · omega
  · rw [if_neg h0]
    by_cases h1 : typ < 1 ∨ 6 < typ
    · rw [if_pos h1]
      constructor
      · exact fun z => Bool.noConfusion z
      · rintro (z | z | z) <;> omega
    · rw [if_neg h1]
      by_cases h5 : typ = 5 ∨ typ = 6
      · rw [if_pos h5, Bool.and_eq_true, beq_iff_eq, tl_nil, decide_eq_true_eq]
        constructor
        · exact fun z => Or.inr (Or.inr ⟨h5, z⟩)
        · rintro (z | z | z)
          · exact absurd z.1 h0
          · omega
          · exact z.2
      · rw [if_neg h5, ← reg_hosts]
        constructor
        · exact fun z => Or.inr (Or.inl ⟨by omega, by omega, z⟩)
        · rintro (z | z | z)
          · exact absurd z.1 h0
          · exact z.2.2
          · exact absurd z.1 h5
theorem good_sizes {l : List S53} {typ : Int} {host : ByteArray} (h : goodB l typ host = true) : host.size ≤ 64 ∧ ∀ x ∈ l, x.f0.size ≤ 64 := by
  obtain ⟨h1, h2, h3⟩ := good_ok h
  have hs : ∀ x ∈ l, x.f0.size ≤ 64 := fun x hx => (name_size (h2.2 x hx).1).2
  refine ⟨?_, hs⟩
  rcases (hold_iff l typ host).mp h3 with z | z | z
  · rw [z.2]; decide
  · obtain ⟨x, hx, rfl⟩ := (reg_iff l host).mp z.2.2
    exact hs x hx
  · rw [z.2.1]; decide
theorem GoodOf {l : List S53} {typ : Int} {host : ByteArray} (h : goodB l typ host = true) (gen : Int) (apt : Bool) : resv_Good.f l typ host gen apt = some true := by
  obtain ⟨h1, h2⟩ := good_sizes h
  rw [Good_spec l typ host gen apt (by omega) (fun x hx => by have := h2 x hx; omega), h]
theorem do_good (k : Nat) (l : List S53) (typ : Int) (host : ByteArray) (gen : Int) (apt : Bool) (c : S31) (hk : 210 ≤ k) (hg : goodB l typ host = true) (hn : nameB c.f2 = true) (hw : (Lit.int .i64 c.f0).wf = true) (ho : 8 ≤ c.f0 ∧ c.f0 ≤ 12) :
    do_f k l typ host gen apt c = if c.f0 = 8 then do_reg l typ host gen apt c (keyL l c.f2) (decide (typ = 5 ∨ typ = 6)) else if c.f0 = 9 then do_rsv k l typ host gen apt c (keyL l c.f2) else if c.f0 = 10 then do_rel k l typ host gen apt c (keyL l c.f2) else if c.f0 = 11 then do_clr l typ host gen apt c (keyL l c.f2) else do_pre k l typ host gen apt c (keyL l c.f2) := by
  have hl := (good_ok hg).1
  unfold do_f
  rw [if_pos hw, if_neg (by rw [decide_eq_true ho]; decide), GoodOf hg, Option.bind_some, if_neg (by decide), show names_Name.f c.f2 = some (nameB c.f2) from rfl, hn, Option.bind_some, if_neg (by decide), if_pos (by omega), Key_spec k l typ host gen apt c.f2 (by omega) hk, Option.bind_some, every_spec, Option.bind_some]
theorem pre_eq (k : Nat) (l : List S53) (typ : Int) (host : ByteArray) (gen : Int) (apt : Bool) (c : S31) (kk : Int) (hk : 210 ≤ k) (hl : l.length ≤ 201) :
    do_pre k l typ host gen apt c kk = if typed c.f11 = false then do_same l typ host gen apt 5 else if asksP kk c = false then do_same l typ host gen apt 2 else
      if (decide (typ = 5 ∨ typ = 6) && c.f10 == 0) = true then some (l.filter fun x => !struckP c true x.f0 x.f1, c.f11, takenBy c, (gen + 1) % 4294967296, apt, told c (struckP c true) 2 l l.length, 1)
      else if host.toList ≠ ([] : List UInt8) ∧ keyL l host = c.f10 then some (l.filter fun x => !struckP c false x.f0 x.f1, c.f11, takenBy c, (gen + 1) % 4294967296, apt, told c (struckP c false) 2 l l.length, 1)
      else if c.f10 = 0 then do_same l typ host gen apt 5
      else if decide (0 ≤ idxP (struckP c false) l) = false then do_same l typ host gen apt 2
      else some (l.filter fun x => !struckP c false x.f0 x.f1, typ, host, (gen + 1) % 4294967296, apt, told c (struckP c false) 2 l l.length, 1) := by
  unfold do_pre
  rw [Type_spec, Option.bind_some, every_spec, Option.bind_some, Key_spec k l typ host gen apt host hl hk, Option.bind_some]
end Go.Proofs.YtjogkfcjlljjcaaDoor.Pure
namespace Go.Proofs.YtjogkfcjlljjcaaDoor.Pure
open Go.RowKit Go.Proofs.YtjogkfcjlljjcaaDoor.P Go.Proofs.YtjogkfcjlljjcaaDoorW.PrintWords Go.Proofs.YtjogkfcjlljjcaaDoorW.PrintLast Go.Proofs.YtjogkfcjlljjcaaDoorW.PrintMore Go.Proofs.YtjogkfcjlljjcaaDoor.Num
set_option linter.unusedVariables false
set_option linter.unusedSimpArgs false
theorem tlA : (⟨#[97]⟩ : ByteArray).toList = ([97] : List UInt8) := by rw [ByteArray.toList_eq]
theorem tlB : (⟨#[98]⟩ : ByteArray).toList = ([98] : List UInt8) := by rw [ByteArray.toList_eq]
def twoT : List S53 := [⟨(⟨#[97]⟩ : ByteArray), 1⟩, ⟨(⟨#[98]⟩ : ByteArray), 2⟩]
theorem nameA : nameB (⟨#[97]⟩ : ByteArray) = true := by decide +kernel
theorem nameB_ : nameB (⟨#[98]⟩ : ByteArray) = true := by decide +kernel
theorem two_good : goodB twoT 1 (⟨#[97]⟩ : ByteArray) = true := by
  refine good_mk (by decide) ⟨?_, ?_⟩ ((hold_iff _ _ _).mpr (Or.inr (Or.inl ⟨by decide, by decide, ?_⟩)))
  · unfold twoT
    simp
  · intro x hx
    unfold twoT at hx
    simp only [List.mem_cons, List.not_mem_nil, or_false] at hx
    rcases hx with rfl | rfl
    · exact ⟨nameA, by decide⟩
    · exact ⟨nameB_, by decide⟩
  · exact (reg_iff _ _).mpr ⟨_, List.mem_cons_self, rfl⟩
theorem wakes_do (k : Nat) (hk : 210 ≤ k) : resv_Do.f k twoT 1 (⟨#[97]⟩ : ByteArray) 0 false 12 0 (⟨#[98]⟩ : ByteArray) 0 0 (⟨#[]⟩ : ByteArray) false ([] : List S100) 2 0 1 2 false 0 = some ([⟨(⟨#[98]⟩ : ByteArray), 2⟩], 2, (⟨#[98]⟩ : ByteArray), 1, false, [⟨(⟨#[97]⟩ : ByteArray), 2⟩], 1) := by
  unfold resv_Do.f
  rw [do_good k twoT 1 (⟨#[97]⟩ : ByteArray) 0 false _ hk two_good nameB_ (by decide) (by decide), if_neg (by decide), if_neg (by decide), if_neg (by decide), if_neg (by decide), pre_eq k twoT _ _ _ _ _ _ hk (by decide)]
  have hkb : keyL twoT (⟨#[98]⟩ : ByteArray) = 2 := by unfold keyL twoT; simp [tlA, tlB]
  have hka : keyL twoT (⟨#[97]⟩ : ByteArray) = 1 := by unfold keyL twoT; simp [tlA, tlB]
  rw [hkb, hka, if_neg (by decide), if_neg (by decide), if_neg (by decide), if_pos ⟨by rw [tlA]; decide, rfl⟩]
  have hf : ∀ c : S31, c.f2 = (⟨#[98]⟩ : ByteArray) → c.f10 = 1 → (twoT.filter fun x => !struckP c false x.f0 x.f1) = [⟨(⟨#[98]⟩ : ByteArray), 2⟩] ∧ told c (struckP c false) 2 twoT twoT.length = [⟨(⟨#[97]⟩ : ByteArray), 2⟩] := by
    intro c h1 h2
    unfold told struckP twoT
    simp [h1, h2, tlA, tlB]
  obtain ⟨e1, e2⟩ := hf ⟨12, 0, (⟨#[98]⟩ : ByteArray), 0, 0, (⟨#[]⟩ : ByteArray), false, [], 2, 0, 1, 2, false, 0⟩ rfl rfl
  rw [e1, e2]
  rfl
theorem wakes_ok (k : Nat) (hk : 210 ≤ k) : headgatelaw11_wakes.f k = some true := by
  unfold headgatelaw11_wakes.f
  rw [Option.bind_some]
  rw [show ([(⟨(⟨#[97]⟩ : ByteArray), 1⟩ : S53), (⟨(⟨#[98]⟩ : ByteArray), 2⟩ : S53)] : List S53) = twoT from rfl]
  rw [wakes_do k hk, Option.bind_some]
  dsimp only
  have hgo := GoodOf two_good 0 false
  simp [hgo, tlA, tlB, rd_T46]
theorem wakes_more (k : Nat) {q : List S53 × Int × ByteArray × Int × Bool × List S46 × Int} (h : resv_Do.f k twoT 1 (⟨#[97]⟩ : ByteArray) 0 false 12 0 (⟨#[98]⟩ : ByteArray) 0 0 (⟨#[]⟩ : ByteArray) false ([] : List S100) 2 0 1 2 false 0 = some q) : q = ([⟨(⟨#[98]⟩ : ByteArray), 2⟩], 2, (⟨#[98]⟩ : ByteArray), 1, false, [⟨(⟨#[97]⟩ : ByteArray), 2⟩], 1) := by
  have hm : ∀ n, resv_Do.f (k + n) twoT 1 (⟨#[97]⟩ : ByteArray) 0 false 12 0 (⟨#[98]⟩ : ByteArray) 0 0 (⟨#[]⟩ : ByteArray) false ([] : List S100) 2 0 1 2 false 0 = some q := by
    intro n
    induction n with
    | zero => exact h
    | succ n ih => exact resv_Do.mono _ _ _ _ _ _ _ _ _ _ _ _ _ _ _ _ _ _ _ (k + n) _ ih
  have h2 := hm 210
  rw [wakes_do (k + 210) (by omega)] at h2
  exact (Option.some.inj h2).symm
theorem wakes_vals {k : Nat} {y : List S53} {t108 : List S53} {t111 : Int} {t112 : ByteArray} {t113 : Int} {t114 : Bool} {t115 : List S46} {t118 : Int} (hy : y = twoT) (h : resv_Do.f k y 1 (⟨#[97]⟩ : ByteArray) 0 false 12 0 (⟨#[98]⟩ : ByteArray) 0 0 (⟨#[]⟩ : ByteArray) false ([] : List S100) 2 0 1 2 false 0 = some (t108, t111, t112, t113, t114, t115, t118)) :
    t118 = 1 ∧ (t108.length : Int) = 1 ∧ t112.toList = ([98] : List UInt8) ∧ t111 = 2 ∧ t113 = 1 ∧ (t115.length : Int) = 1 ∧ 0 < (t115.length : Int) ∧ ((rd_T46 t115 0).f0).toList = ([97] : List UInt8) ∧ ((rd_T46 t115 0).f1) = 2 := by
  subst hy
  have e := wakes_more k h
  simp only [Prod.mk.injEq] at e
  obtain ⟨rfl, rfl, rfl, rfl, rfl, rfl, rfl⟩ := e
  exact ⟨rfl, rfl, tlB, rfl, rfl, rfl, by decide, tlA, rfl⟩
end Go.Proofs.YtjogkfcjlljjcaaDoor.Pure
