/- The row of the law TpduStream: for every input that can be read, the call returns true, and what came in reads behind it as it did. Its condition: none but the row's own (the listed package-level variables hold what the program's text lays in them: the card ties them). -/
import Derived.Test.YtkbjhblffbcleaaDoorRows
import Derived.Test.YtkbjhblffbcleaaDoorCards
import Derived.Test.YtkbjhblffbcleaaDoorTie
import Derived.Test.YtkbjhblffbcleaaDoorPx11
import Derived.Test.YtkbjhblffbcleaaDoorPureTpduStream
import Derived.Test.YtkbjhblffbcleaaDoorRk
import Derived.Test.YtkbjhblffbcleaaDoorRq
import Derived.Test.YtkbjhblffbcleaaDoorRkAgg
import Derived.WalkKit
import Derived.ProofKit
import Derived.OpenShut
import Derived.ShutString
import Derived.ChangeOld
import Derived.Below
import Derived.SizedLaws
import Derived.Deep.DeepHandedRow
import Derived.Lib.LaidTab
namespace Go.Proofs.YtkbjhblffbcleaaDoor.tpduStream
open Go.ChangeShapes Go.WideShapes Go.ChangeAt Go.RowKit Go.Proofs.YtkbjhblffbcleaaDoor.P Go.Proofs.YtkbjhblffbcleaaDoorW.PrintWords
open Go.ChangeMaps (open_string shut_string)
set_option linter.unusedVariables false
theorem own : ownKnob Tryd.prog.godebug = none := by kernel_rfl
theorem laidOut : laidOutB Tryd.prog = true := by kernel_rfl
set_option maxRecDepth 100000 in
theorem contract (H : Type) (enc : TypeId × Value → H) (W : World) (base : Nat) (args : Array Value) (ds gs : List (DataW H)) (before : List MemPlace)
    (hval0 : ∀ (j : Nat) t v, Tryd.f5.params[j]? = some t → args[j]? = some v → Value.okWide Tryd.prog W .any base t v)
    (hW : DataW.Whole enc Tryd.prog Tryd.f5.params.toList Rows.tpduStreamSpec.vars false W args.toList ds gs before) (hG : Glob W) :
    Calls Tryd.prog 5 args W fun e W' => ∃ v, e = .returned v ∧ Rows.tpduStreamSpec.post enc Tryd.prog Tryd.f5 false true false false W args v W' := by
  have hval : ∀ (j : Nat) t v, Tryd.f5.params[j]? = some t → args[j]? = some v → Value.okWide Tryd.prog W .any base t v := hval0
  have hW' := hW
  obtain ⟨p, q, hA0, hV, rfl, hfz, hnd⟩ := hW
  have hA : DataW.TrodAll enc Tryd.prog W 0 (fun _ => true) true Tryd.f5.params.toList args.toList ds p := hA0
  rw [Tryd.params5] at hA hval
  obtain ⟨v0, vs0, d0, ds0, p0, q0, hargs, rfl, rfl, h0, r0⟩ := trodAll_cons hA
  obtain ⟨v1, vs1, d1, ds1, p1, q1, rfl, rfl, rfl, h1, r1⟩ := trodAll_cons r0
  obtain ⟨v2, vs2, d2, ds2, p2, q2, rfl, rfl, rfl, h2, r2⟩ := trodAll_cons r1
  obtain ⟨rfl, rfl, rfl⟩ := trodAll_nil r2
  obtain rfl : args = #[v0, v1, v2] := by cases args; simp_all
  obtain ⟨rfl, rfl⟩ := trodVars_none hV
  have g0 := h0
  have lt0 := Rk.lt_of h0
  obtain ⟨a0, len0, cap0, rfl⟩ := okWide_slice Tryd.underlying39 (hval 0 39 v0 rfl rfl)
  obtain ⟨x0, ⟨A0_0, c0_0, e0, L0_0, C0_0⟩, w0⟩ := Rk.arg (Rk.opens_slice Tryd.underlying39 (by kernel_rfl) o24) h0
  simp [Value.cells] at e0
  obtain ⟨rfl, rfl, rfl⟩ := e0
  obtain ⟨x1, rfl, rfl, rfl⟩ := open_bool Tryd.underlying4 (hval 1 4 v1 rfl rfl) h1
  obtain ⟨x2, rfl, rfl, rfl⟩ := open_bool Tryd.underlying4 (hval 2 4 v2 rfl rfl) h2
  obtain ⟨k, hk⟩ := Pure.TpduStream x0 x1 x2 w0
  refine (headgatelaw29_TpduStream.calls k _ _ x0 x1 x2 true W C0_0 L0_0 hG rfl hk).mono fun e W' ⟨he, bel⟩ => ?_
  subst he
  exact ⟨_, rfl, _, _, _, [], _, [], hW', trodAll_mk1 (shut_bool Tryd.underlying4 _), (trodAll_cons_mk (Below.trod laidOut (by kernel_rfl) (of_decide_eq_true (by kernel_rfl)) g0 bel lt0) (trodAll_cons_mk (shut_bool Tryd.underlying4 _) (trodAll_cons_mk (shut_bool Tryd.underlying4 _) trodAll_mk0))), rfl, bel.frame _, fun h => by cases h⟩
noncomputable def laidWorld (os : Os) : World :=
  { World.holding Tryd.prog os ⟨#[], #[], []⟩ with heap := (((World.holding Tryd.prog os ⟨#[], #[], []⟩).heap.modify 1 fun
      | .cells _ t frozen => .cells #[.int .u32 0, .int .u32 274646895, .int .u32 549293790, .int .u32 820201905, .int .u32 1098587580, .int .u32 1361435347, .int .u32 1640403810, .int .u32 1905808397, .int .u32 2197175160, .int .u32 2460548119, .int .u32 2722870694, .int .u32 2987750089, .int .u32 3280807620, .int .u32 3553878443, .int .u32 3811616794, .int .u32 4084100981] t frozen
      | o => o).modify 0 fun
      | .cells _ t frozen => .cells #[.int .i64 120, .int .i64 0, .bool false, .int .i64 120, .int .i64 0, .bool false, .int .i64 16, .int .i64 128, .bool false, .int .i64 16, .int .i64 128, .bool false, .int .i64 64, .int .i64 16384, .bool true, .int .i64 16, .int .i64 0, .bool true, .int .i64 16, .int .i64 16384, .bool true, .int .i64 16, .int .i64 16384, .bool true, .int .i64 0, .int .i64 0, .bool false, .int .i64 16, .int .i64 0, .bool true] t frozen
      | o => o) }
theorem laid_met (os : Os) : laidMet Tryd.prog Rows.tpduStreamRow.laid ((laidWorld os).forCall (fun _ _ => 0) ⟨#[], #[.slice none 0 0, .bool false, .bool false], []⟩).memory :=
  laidMet_of_run' 8 (by kernel_rfl) (by kernel_rfl)
theorem reads (os : Os) {H : Type} (enc : TypeId × Value → H) : ∃ places, DataW.whole enc Tryd.prog ((laidWorld os).forCall (fun _ _ => 0) ⟨#[], #[.slice none 0 0, .bool false, .bool false], []⟩).memory Tryd.f5.params.toList Rows.tpduStreamSpec.vars false (#[.slice none 0 0, .bool false, .bool false] : Array Value).toList 8 = some ([.nil, .lit (.bool false), .lit (.bool false)], [], places) :=
  ⟨[], by kernel_rfl⟩
theorem glob_G_crc_steps {W : World} (h : laidMet Tryd.prog Rows.tpduStreamRow.laid W) : G_crc_steps W :=
  G_crc_steps.of_laid (Rk.tab_cells (zs := G_crc_steps.tab) h (show _ ∈ Rows.tpduStreamRow.laid from (List.Mem.head _)) (by kernel_rfl : Tryd.prog.globalNamed "headgate/crc.steps" = some 1) (by kernel_rfl : (Tryd.prog.globals[1]?).map (·.type) = some 73) Tryd.underlying73 Tryd.underlying66 (by kernel_rfl) (by kernel_rfl))
theorem el_G_tpdu_forms (a0_ : Int) (a1_ : Int) (a2_ : Bool) : Rk.Knows Tryd.prog 48 (.agg [.lit (.int .i64 a0_), .lit (.int .i64 a1_), .lit (.bool a2_)]) [.int .i64 a0_, .int .i64 a1_, .bool a2_] :=
  Rk.knows_struct [(3, .lit (.int .i64 a0_), .int .i64 a0_), (3, .lit (.int .i64 a1_), .int .i64 a1_), (4, .lit (.bool a2_), .bool a2_)] Tryd.underlying48 rfl (show Tryd.prog.cellsOf 48 = 3 by kernel_rfl) (fun q hq => by
    simp only [List.mem_cons, List.not_mem_nil, or_false] at hq
    rcases hq with rfl | rfl | rfl
    · exact ⟨Rk.knows_int Tryd.underlying3, by kernel_rfl⟩
    · exact ⟨Rk.knows_int Tryd.underlying3, by kernel_rfl⟩
    · exact ⟨Rk.knows_bool Tryd.underlying4, by kernel_rfl⟩
    )
theorem glob_G_tpdu_forms {W : World} (h : laidMet Tryd.prog Rows.tpduStreamRow.laid W) : G_tpdu_forms W :=
  G_tpdu_forms.of_laid (fun i v hi => Rk.met_cells h (show _ ∈ Rows.tpduStreamRow.laid from (List.Mem.tail _ (List.Mem.head _))) (by kernel_rfl : Tryd.prog.globalNamed "headgate/tpdu.forms" = some 0) (by kernel_rfl : (Tryd.prog.globals[0]?).map (·.type) = some 63)
    (show Rk.Knows Tryd.prog 63 Rows.laid_headgate_tpdu_forms G_tpdu_forms.cells from Rk.knows_array (G_tpdu_forms.tab.map fun x : Int × Int × Bool => (DataW.agg [.lit (.int .i64 (x.1)), .lit (.int .i64 (x.2.1)), .lit (.bool (x.2.2))], [Value.int .i64 (x.1), Value.int .i64 (x.2.1), Value.bool (x.2.2)])) Tryd.underlying63 (show Tryd.prog.cellsOf 48 = 3 by kernel_rfl) (show Tryd.prog.cellsOf 63 = 10 * 3 by kernel_rfl) rfl (fun x hx => by
      obtain ⟨y, _, rfl⟩ := List.mem_map.mp hx
      exact ⟨el_G_tpdu_forms _ _ _, rfl⟩)) i v hi)
set_option maxRecDepth 100000 in
theorem lifted (os : Os) (started : os.Started) (H : Type) (enc : TypeId × Value → H) (F : Stop.Interp) :
    ReturnsInHanded {} Tryd.checked os 5 .any ((OpenSpec.ofChange Rows.tpduStreamSpec).preRow enc Tryd.prog Tryd.f5 Rows.tpduStreamRow.domain false Rows.tpduStreamRow.laid) (((OpenSpec.ofChange Rows.tpduStreamSpec).at F).post enc Tryd.prog Tryd.f5 false true false false) := by
  obtain ⟨places, hx⟩ := reads os enc
  refine returnsInHanded_of_row (C := Tryd.checked) (s := OpenSpec.ofChange Rows.tpduStreamSpec) own started (by kernel_rfl) Tryd.func5
    (witness_row_at (enc := enc) (C := Tryd.checked) false (laidWorld os) #[.slice none 0 0, .bool false, .bool false] rfl (by kernel_rfl) (by kernel_rfl) (by kernel_rfl)
      (OpenSpec.preRow_of_cond 8 hx (by kernel_rfl) (fun k hk => by cases hk) (by kernel_rfl) (laid_met os))) ?_
  intro W base args ds gs before hval hW _ _ _ hL _ _
  exact contract H enc W base args ds gs before hval hW ⟨glob_G_tpdu_forms hL, glob_G_crc_steps hL⟩
theorem said : Rows.TpduStreamSaid :=
  OpenClaim.holds_of_cond 5 Tryd.f5 rfl rfl rfl rfl rfl rfl rfl ⟨rfl, rfl, rfl, rfl, rfl⟩ rfl rfl rfl rfl rfl (by kernel_rfl) Tryd.func5 (by kernel_rfl)
    (of_decide_eq_true (by kernel_rfl)) (by unfold Func.isWrapper; first | (rw [if_pos (by decide +kernel)]; kernel_rfl) | (rw [if_neg (by decide +kernel)]; exact ⟨rfl, rfl⟩))
    (fun os started H enc _ F => by rw [OpenClaim.pre_eq_preRow]; exact lifted os started H enc F)
theorem plain (f : FuncId) (fn : Func) (hf : Tryd.pinned.checked.prog.funcNamed "headgate/headgatelaw29.TpduStream" = some f) (hfn : Tryd.pinned.checked.prog.funcs[f]? = some fn) :
    false = Tryd.pinned.checked.prog.looks [] ∧ ∀ (j : Nat) t, fn.params[j]? = some t → Tryd.pinned.checked.prog.wantsStandIn t = false := by
  obtain rfl : f = 5 := Option.some.inj ((show Tryd.prog.funcNamed "headgate/headgatelaw29.TpduStream" = some 5 by kernel_rfl).symm.trans hf) |>.symm
  obtain rfl : fn = Tryd.f5 := (Option.some.inj (Tryd.func5.symm.trans hfn)).symm
  refine ⟨by kernel_rfl, fun j t ht => ?_⟩
  rw [Tryd.params5] at ht
  have hm : t = 39 ∨ t = 4 ∨ t = 4 := by simpa using Array.mem_of_getElem? ht
  rcases hm with rfl | rfl | rfl
  · exact (show Tryd.prog.wantsStandIn 39 = false by kernel_rfl)
  · exact (show Tryd.prog.wantsStandIn 4 = false by kernel_rfl)
  · exact (show Tryd.prog.wantsStandIn 4 = false by kernel_rfl)
theorem card : Rows.TpduStreamCardSaid :=
  Claim7.holds_tied_plain_at .later [] _ _ _ _ said (fun _ h => by cases h) (by kernel_rfl) (fun _ h => by cases h) tpduStream_row_tie rfl ⟨rfl, rfl⟩ (by kernel_rfl) rfl plain (by kernel_rfl)
#print axioms card
end Go.Proofs.YtkbjhblffbcleaaDoor.tpduStream
namespace Go.Proofs.YtkbjhblffbcleaaDoor
/-- The card, under a short name, for the claim. -/
theorem tpduStream_holds : Rows.TpduStreamCardSaid := tpduStream.card
end Go.Proofs.YtkbjhblffbcleaaDoor
