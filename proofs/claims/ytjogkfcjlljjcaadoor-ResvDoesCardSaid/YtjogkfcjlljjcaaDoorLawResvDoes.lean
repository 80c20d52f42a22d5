/- The row of the law ResvDoes: for every input that can be read, the call returns true, and what came in reads behind it as it did. Its condition: none but the row's own (the listed package-level variables hold what the program's text lays in them: the card ties them). -/
import Derived.Test.YtjogkfcjlljjcaaDoorRows
import Derived.Test.YtjogkfcjlljjcaaDoorCards
import Derived.Test.YtjogkfcjlljjcaaDoorTie
import Derived.Test.YtjogkfcjlljjcaaDoorLbResvDoes
import Derived.Test.YtjogkfcjlljjcaaDoorBb8
import Derived.Test.YtjogkfcjlljjcaaDoorPureResvDoes
import Derived.WalkKit
import Derived.ProofKit
import Derived.OpenShut
import Derived.ShutString
import Derived.ChangeOld
import Derived.Below
import Derived.SizedLaws
import Derived.Deep.DeepHandedRow
import Derived.Lib.LaidTab
namespace Go.Proofs.YtjogkfcjlljjcaaDoor.resvDoes
open Go.ChangeShapes Go.WideShapes Go.ChangeAt Go.RowKit Go.Proofs.YtjogkfcjlljjcaaDoor.P Go.Proofs.YtjogkfcjlljjcaaDoorW.PrintWords
open Go.ChangeMaps (open_string shut_string)
set_option linter.unusedVariables false
theorem own : ownKnob Tryd.prog.godebug = none := by kernel_rfl
theorem laidOut : laidOutB Tryd.prog = true := by kernel_rfl
set_option maxRecDepth 100000 in
theorem contract (H : Type) (enc : TypeId × Value → H) (W : World) (base : Nat) (args : Array Value) (ds gs : List (DataW H)) (before : List MemPlace)
    (hval0 : ∀ (j : Nat) t v, Tryd.f3.params[j]? = some t → args[j]? = some v → Value.okWide Tryd.prog W .any base t v)
    (hW : DataW.Whole enc Tryd.prog Tryd.f3.params.toList Rows.resvDoesSpec.vars false W args.toList ds gs before) (hG : Glob W) :
    Calls Tryd.prog 3 args W fun e W' => ∃ v, e = .returned v ∧ Rows.resvDoesSpec.post enc Tryd.prog Tryd.f3 false true false false W args v W' := by
  have hval : ∀ (j : Nat) t v, Tryd.f3.params[j]? = some t → args[j]? = some v → Value.okWide Tryd.prog W .any base t v := hval0
  have hW' := hW
  obtain ⟨p, q, hA0, hV, rfl, hfz, hnd⟩ := hW
  have hA : DataW.TrodAll enc Tryd.prog W 0 (fun _ => true) true Tryd.f3.params.toList args.toList ds p := hA0
  rw [Tryd.params3] at hA hval
  obtain ⟨v0, vs0, d0, ds0, p0, q0, hargs, rfl, rfl, h0, r0⟩ := trodAll_cons hA
  obtain ⟨v1, vs1, d1, ds1, p1, q1, rfl, rfl, rfl, h1, r1⟩ := trodAll_cons r0
  obtain ⟨rfl, rfl, rfl⟩ := trodAll_nil r1
  obtain rfl : args = #[v0, v1] := by cases args; simp_all
  obtain ⟨rfl, rfl⟩ := trodVars_none hV
  have g0 := h0
  have lt0 := Rk.lt_of h0
  obtain ⟨cs0, rfl, _⟩ := okWide_struct Tryd.underlying27 (hval 0 27 v0 rfl rfl)
  obtain ⟨x0, K0, w0⟩ := Rk.arg o27 h0
  obtain ⟨A0_0, c0_0, e0, L0_0, C0_0⟩ := k27_open K0
  obtain rfl := Rk.agg_of e0
  have g1 := h1
  have lt1 := Rk.lt_of h1
  obtain ⟨cs1, rfl, _⟩ := okWide_struct Tryd.underlying31 (hval 1 31 v1 rfl rfl)
  obtain ⟨x1, K1, w1⟩ := Rk.arg o31 h1
  obtain ⟨A1_7, c1_7, e1, L1_7, C1_7⟩ := k31_open K1
  obtain rfl := Rk.agg_of e1
  obtain ⟨k, hk⟩ := Pure.ResvDoes x0 x1 w0 w1
  refine (headgatelaw11_ResvDoes.calls k _ _ x0.f0 x0.f1.f0 x0.f1.f1 x0.f2 x0.f3 x1.f0 x1.f1 x1.f2 x1.f3 x1.f4 x1.f5 x1.f6 _ _ x1.f7 x1.f8 x1.f9 x1.f10 x1.f11 x1.f12 x1.f13 true W C0_0 L0_0 C1_7 L1_7 hG rfl hk).mono fun e W' ⟨he, bel⟩ => ?_
  subst he
  exact ⟨_, rfl, _, _, _, [], _, [], hW', trodAll_mk1 (shut_bool Tryd.underlying4 _), (trodAll_cons_mk (Below.trod laidOut (by kernel_rfl) (of_decide_eq_true (by kernel_rfl)) g0 bel lt0) (trodAll_cons_mk (Below.trod laidOut (by kernel_rfl) (of_decide_eq_true (by kernel_rfl)) g1 bel lt1) trodAll_mk0)), rfl, bel.frame _, fun h => by cases h⟩
noncomputable def laidWorld (os : Os) : World :=
  { World.holding Tryd.prog os ⟨#[], #[], []⟩ with heap := ((World.holding Tryd.prog os ⟨#[], #[], []⟩).heap.modify 0 fun
      | .cells _ t frozen => .cells #[.int .i64 0, .int .i64 1, .int .i64 0, .int .i64 5, .int .i64 6, .int .i64 13, .int .i64 14] t frozen
      | o => o) }
theorem laid_met (os : Os) : laidMet Tryd.prog Rows.resvDoesRow.laid ((laidWorld os).forCall (fun _ _ => 0) ⟨#[], #[.agg #[.slice none 0 0, .int .i64 0, .string ByteArray.empty, .int .u32 0, .bool false], .agg #[.int .i64 0, .int .i64 0, .string ByteArray.empty, .int .i64 0, .int .i64 0, .string ByteArray.empty, .bool false, .slice none 0 0, .int .u64 0, .int .u64 0, .int .u64 0, .int .i64 0, .bool false, .int .i64 0]], []⟩).memory :=
  laidMet_of_run' 8 (by kernel_rfl) (by kernel_rfl)
theorem reads (os : Os) {H : Type} (enc : TypeId × Value → H) : ∃ places, DataW.whole enc Tryd.prog ((laidWorld os).forCall (fun _ _ => 0) ⟨#[], #[.agg #[.slice none 0 0, .int .i64 0, .string ByteArray.empty, .int .u32 0, .bool false], .agg #[.int .i64 0, .int .i64 0, .string ByteArray.empty, .int .i64 0, .int .i64 0, .string ByteArray.empty, .bool false, .slice none 0 0, .int .u64 0, .int .u64 0, .int .u64 0, .int .i64 0, .bool false, .int .i64 0]], []⟩).memory Tryd.f3.params.toList Rows.resvDoesSpec.vars false (#[.agg #[.slice none 0 0, .int .i64 0, .string ByteArray.empty, .int .u32 0, .bool false], .agg #[.int .i64 0, .int .i64 0, .string ByteArray.empty, .int .i64 0, .int .i64 0, .string ByteArray.empty, .bool false, .slice none 0 0, .int .u64 0, .int .u64 0, .int .u64 0, .int .i64 0, .bool false, .int .i64 0]] : Array Value).toList 8 = some ([.agg [.nil, .agg [.lit (.int .i64 0), .lit (.string [])], .lit (.int .u32 0), .lit (.bool false)], .agg [.lit (.int .i64 0), .lit (.int .i64 0), .lit (.string []), .lit (.int .i64 0), .lit (.int .i64 0), .lit (.string []), .lit (.bool false), .nil, .lit (.int .u64 0), .lit (.int .u64 0), .lit (.int .u64 0), .lit (.int .i64 0), .lit (.bool false), .lit (.int .i64 0)]], [], places) :=
  ⟨[], by kernel_rfl⟩
theorem glob_G_access_lets {W : World} (h : laidMet Tryd.prog Rows.resvDoesRow.laid W) : G_access_lets W :=
  G_access_lets.of_laid (Rk.tab_cells (zs := G_access_lets.tab) h (show _ ∈ Rows.resvDoesRow.laid from (List.Mem.head _)) (by kernel_rfl : Tryd.prog.globalNamed "headgate/access.lets" = some 0) (by kernel_rfl : (Tryd.prog.globals[0]?).map (·.type) = some 72) Tryd.underlying72 Tryd.underlying3 (by kernel_rfl) (by kernel_rfl))
set_option maxRecDepth 100000 in
theorem lifted (os : Os) (started : os.Started) (H : Type) (enc : TypeId × Value → H) (F : Stop.Interp) :
    ReturnsInHanded {} Tryd.checked os 3 .any ((OpenSpec.ofChange Rows.resvDoesSpec).preRow enc Tryd.prog Tryd.f3 Rows.resvDoesRow.domain false Rows.resvDoesRow.laid) (((OpenSpec.ofChange Rows.resvDoesSpec).at F).post enc Tryd.prog Tryd.f3 false true false false) := by
  obtain ⟨places, hx⟩ := reads os enc
  refine returnsInHanded_of_row (C := Tryd.checked) (s := OpenSpec.ofChange Rows.resvDoesSpec) own started (by kernel_rfl) Tryd.func3
    (witness_row_at (enc := enc) (C := Tryd.checked) false (laidWorld os) #[.agg #[.slice none 0 0, .int .i64 0, .string ByteArray.empty, .int .u32 0, .bool false], .agg #[.int .i64 0, .int .i64 0, .string ByteArray.empty, .int .i64 0, .int .i64 0, .string ByteArray.empty, .bool false, .slice none 0 0, .int .u64 0, .int .u64 0, .int .u64 0, .int .i64 0, .bool false, .int .i64 0]] rfl (by kernel_rfl) (by kernel_rfl) (by kernel_rfl)
      (OpenSpec.preRow_of_cond 8 hx (by kernel_rfl) (fun k hk => by cases hk) (by kernel_rfl) (laid_met os))) ?_
  intro W base args ds gs before hval hW _ _ _ hL _ _
  exact contract H enc W base args ds gs before hval hW (glob_G_access_lets hL)
theorem said : Rows.ResvDoesSaid :=
  OpenClaim.holds_of_cond 3 Tryd.f3 rfl rfl rfl rfl rfl rfl rfl ⟨rfl, rfl, rfl, rfl, rfl⟩ rfl rfl rfl rfl rfl (by kernel_rfl) Tryd.func3 (by kernel_rfl)
    (of_decide_eq_true (by kernel_rfl)) (by unfold Func.isWrapper; first | (rw [if_pos (by decide +kernel)]; kernel_rfl) | (rw [if_neg (by decide +kernel)]; exact ⟨rfl, rfl⟩))
    (fun os started H enc _ F => by rw [OpenClaim.pre_eq_preRow]; exact lifted os started H enc F)
theorem plain (f : FuncId) (fn : Func) (hf : Tryd.pinned.checked.prog.funcNamed "headgate/headgatelaw11.ResvDoes" = some f) (hfn : Tryd.pinned.checked.prog.funcs[f]? = some fn) :
    false = Tryd.pinned.checked.prog.looks [] ∧ ∀ (j : Nat) t, fn.params[j]? = some t → Tryd.pinned.checked.prog.wantsStandIn t = false := by
  obtain rfl : f = 3 := Option.some.inj ((show Tryd.prog.funcNamed "headgate/headgatelaw11.ResvDoes" = some 3 by kernel_rfl).symm.trans hf) |>.symm
  obtain rfl : fn = Tryd.f3 := (Option.some.inj (Tryd.func3.symm.trans hfn)).symm
  refine ⟨by kernel_rfl, fun j t ht => ?_⟩
  rw [Tryd.params3] at ht
  have hm : t = 27 ∨ t = 31 := by simpa using Array.mem_of_getElem? ht
  rcases hm with rfl | rfl
  · exact (show Tryd.prog.wantsStandIn 27 = false by kernel_rfl)
  · exact (show Tryd.prog.wantsStandIn 31 = false by kernel_rfl)
theorem card : Rows.ResvDoesCardSaid :=
  Claim7.holds_tied_plain_at .later [] _ _ _ _ said (fun _ h => by cases h) (by kernel_rfl) (fun _ h => by cases h) resvDoes_row_tie rfl ⟨rfl, rfl⟩ (by kernel_rfl) rfl plain (by kernel_rfl)
#print axioms card
end Go.Proofs.YtjogkfcjlljjcaaDoor.resvDoes
namespace Go.Proofs.YtjogkfcjlljjcaaDoor
/-- The card, under a short name, for the claim. -/
theorem resvDoes_holds : Rows.ResvDoesCardSaid := resvDoes.card
end Go.Proofs.YtjogkfcjlljjcaaDoor
