/- The row of the law ResvPlays: for every input that can be read, the call returns true, and what came in reads behind it as it did. Its condition: none but the row's own (the listed package-level variables hold what the program's text lays in them: the card ties them). -/
import Derived.Test.YtjogkfcjlljjcaaDoorRows
import Derived.Test.YtjogkfcjlljjcaaDoorCards
import Derived.Test.YtjogkfcjlljjcaaDoorTie
import Derived.Test.YtjogkfcjlljjcaaDoorLcResvPlaysb
import Derived.Test.YtjogkfcjlljjcaaDoorBc8
import Derived.Test.YtjogkfcjlljjcaaDoorPureResvPlays
import Derived.WalkKit
import Derived.ProofKit
import Derived.OpenShut
import Derived.ShutString
import Derived.ChangeOld
import Derived.Below
import Derived.SizedLaws
import Derived.Deep.DeepHandedRow
import Derived.Lib.LaidTab
namespace Go.Proofs.YtjogkfcjlljjcaaDoor.resvPlays
open Go.ChangeShapes Go.WideShapes Go.ChangeAt Go.RowKit Go.Proofs.YtjogkfcjlljjcaaDoor.P Go.Proofs.YtjogkfcjlljjcaaDoorW.PrintWords
open Go.ChangeMaps (open_string shut_string)
set_option linter.unusedVariables false
theorem own : ownKnob Tryd.prog.godebug = none := by kernel_rfl
theorem laidOut : laidOutB Tryd.prog = true := by kernel_rfl
set_option maxRecDepth 100000 in
theorem contract (H : Type) (enc : TypeId × Value → H) (W : World) (base : Nat) (args : Array Value) (ds gs : List (DataW H)) (before : List MemPlace)
    (hval0 : ∀ (j : Nat) t v, Tryd.f5.params[j]? = some t → args[j]? = some v → Value.okWide Tryd.prog W .any base t v)
    (hW : DataW.Whole enc Tryd.prog Tryd.f5.params.toList Rows.resvPlaysSpec.vars false W args.toList ds gs before) (hG : Glob W) :
    Calls Tryd.prog 5 args W fun e W' => ∃ v, e = .returned v ∧ Rows.resvPlaysSpec.post enc Tryd.prog Tryd.f5 false true false false W args v W' := by
  have hval : ∀ (j : Nat) t v, Tryd.f5.params[j]? = some t → args[j]? = some v → Value.okWide Tryd.prog W .any base t v := hval0
  have hW' := hW
  obtain ⟨p, q, hA0, hV, rfl, hfz, hnd⟩ := hW
  have hA : DataW.TrodAll enc Tryd.prog W 0 (fun _ => true) true Tryd.f5.params.toList args.toList ds p := hA0
  rw [Tryd.params5] at hA hval
  obtain ⟨v0, vs0, d0, ds0, p0, q0, hargs, rfl, rfl, h0, r0⟩ := trodAll_cons hA
  obtain ⟨rfl, rfl, rfl⟩ := trodAll_nil r0
  obtain rfl : args = #[v0] := by cases args; simp_all
  obtain ⟨rfl, rfl⟩ := trodVars_none hV
  have g0 := h0
  have lt0 := Rk.lt_of h0
  obtain ⟨a0, len0, cap0, rfl⟩ := okWide_slice Tryd.underlying48 (hval 0 48 v0 rfl rfl)
  obtain ⟨x0, ⟨A0_0, c0_0, e0, L0_0, C0_0⟩, w0⟩ := Rk.arg (Rk.opens_slice Tryd.underlying48 (by kernel_rfl) o31) h0
  simp [Value.cells] at e0
  obtain ⟨rfl, rfl, rfl⟩ := e0
  obtain ⟨k, hk⟩ := Pure.ResvPlays x0 w0
  refine (headgatelaw11_ResvPlays.calls k _ _ x0 true W C0_0 L0_0 hG rfl hk).mono fun e W' ⟨he, bel⟩ => ?_
  subst he
  exact ⟨_, rfl, _, _, _, [], _, [], hW', trodAll_mk1 (shut_bool Tryd.underlying4 _), (trodAll_cons_mk (Below.trod laidOut (by kernel_rfl) (of_decide_eq_true (by kernel_rfl)) g0 bel lt0) trodAll_mk0), rfl, bel.frame _, fun h => by cases h⟩
noncomputable def laidWorld (os : Os) : World :=
  { World.holding Tryd.prog os ⟨#[], #[], []⟩ with heap := ((World.holding Tryd.prog os ⟨#[], #[], []⟩).heap.modify 0 fun
      | .cells _ t frozen => .cells #[.int .i64 0, .int .i64 1, .int .i64 0, .int .i64 5, .int .i64 6, .int .i64 13, .int .i64 14] t frozen
      | o => o) }
theorem laid_met (os : Os) : laidMet Tryd.prog Rows.resvPlaysRow.laid ((laidWorld os).forCall (fun _ _ => 0) ⟨#[], #[.slice none 0 0], []⟩).memory :=
  laidMet_of_run' 8 (by kernel_rfl) (by kernel_rfl)
theorem reads (os : Os) {H : Type} (enc : TypeId × Value → H) : ∃ places, DataW.whole enc Tryd.prog ((laidWorld os).forCall (fun _ _ => 0) ⟨#[], #[.slice none 0 0], []⟩).memory Tryd.f5.params.toList Rows.resvPlaysSpec.vars false (#[.slice none 0 0] : Array Value).toList 8 = some ([.nil], [], places) :=
  ⟨[], by kernel_rfl⟩
theorem glob_G_access_lets {W : World} (h : laidMet Tryd.prog Rows.resvPlaysRow.laid W) : G_access_lets W :=
  G_access_lets.of_laid (Rk.tab_cells (zs := G_access_lets.tab) h (show _ ∈ Rows.resvPlaysRow.laid from (List.Mem.head _)) (by kernel_rfl : Tryd.prog.globalNamed "headgate/access.lets" = some 0) (by kernel_rfl : (Tryd.prog.globals[0]?).map (·.type) = some 72) Tryd.underlying72 Tryd.underlying3 (by kernel_rfl) (by kernel_rfl))
set_option maxRecDepth 100000 in
theorem lifted (os : Os) (started : os.Started) (H : Type) (enc : TypeId × Value → H) (F : Stop.Interp) :
    ReturnsInHanded {} Tryd.checked os 5 .any ((OpenSpec.ofChange Rows.resvPlaysSpec).preRow enc Tryd.prog Tryd.f5 Rows.resvPlaysRow.domain false Rows.resvPlaysRow.laid) (((OpenSpec.ofChange Rows.resvPlaysSpec).at F).post enc Tryd.prog Tryd.f5 false true false false) := by
  obtain ⟨places, hx⟩ := reads os enc
  refine returnsInHanded_of_row (C := Tryd.checked) (s := OpenSpec.ofChange Rows.resvPlaysSpec) own started (by kernel_rfl) Tryd.func5
    (witness_row_at (enc := enc) (C := Tryd.checked) false (laidWorld os) #[.slice none 0 0] rfl (by kernel_rfl) (by kernel_rfl) (by kernel_rfl)
      (OpenSpec.preRow_of_cond 8 hx (by kernel_rfl) (fun k hk => by cases hk) (by kernel_rfl) (laid_met os))) ?_
  intro W base args ds gs before hval hW _ _ _ hL hS_ _
  exact contract H enc W base args ds gs before hval hW (glob_G_access_lets hL)
theorem said : Rows.ResvPlaysSaid :=
  OpenClaim.holds_of_cond 5 Tryd.f5 rfl rfl rfl rfl rfl rfl rfl ⟨rfl, rfl, rfl, rfl, rfl⟩ rfl rfl rfl rfl rfl (by kernel_rfl) Tryd.func5 (by kernel_rfl)
    (of_decide_eq_true (by kernel_rfl)) (by unfold Func.isWrapper; first | (rw [if_pos (by decide +kernel)]; kernel_rfl) | (rw [if_neg (by decide +kernel)]; exact ⟨rfl, rfl⟩))
    (fun os started H enc _ F => by rw [OpenClaim.pre_eq_preRow]; exact lifted os started H enc F)
theorem plain (f : FuncId) (fn : Func) (hf : Tryd.pinned.checked.prog.funcNamed "headgate/headgatelaw11.ResvPlays" = some f) (hfn : Tryd.pinned.checked.prog.funcs[f]? = some fn) :
    false = Tryd.pinned.checked.prog.looks [] ∧ ∀ (j : Nat) t, fn.params[j]? = some t → Tryd.pinned.checked.prog.wantsStandIn t = false := by
  obtain rfl : f = 5 := Option.some.inj ((show Tryd.prog.funcNamed "headgate/headgatelaw11.ResvPlays" = some 5 by kernel_rfl).symm.trans hf) |>.symm
  obtain rfl : fn = Tryd.f5 := (Option.some.inj (Tryd.func5.symm.trans hfn)).symm
  refine ⟨by kernel_rfl, fun j t ht => ?_⟩
  rw [Tryd.params5] at ht
  have hm : t = 48 := by simpa using Array.mem_of_getElem? ht
  rcases hm with rfl
  · exact (show Tryd.prog.wantsStandIn 48 = false by kernel_rfl)
theorem card : Rows.ResvPlaysCardSaid :=
  Claim7.holds_tied_plain_at .later [] _ _ _ _ said (fun _ h => by cases h) (by kernel_rfl) (fun _ h => by cases h) resvPlays_row_tie rfl ⟨rfl, rfl⟩ (by kernel_rfl) rfl plain (by kernel_rfl)
#print axioms card
end Go.Proofs.YtjogkfcjlljjcaaDoor.resvPlays
namespace Go.Proofs.YtjogkfcjlljjcaaDoor
/-- The card, under a short name, for the claim. -/
theorem resvPlays_holds : Rows.ResvPlaysCardSaid := resvPlays.card
end Go.Proofs.YtjogkfcjlljjcaaDoor
