/- The row of the law LoginThrough: for every input that can be read, the call returns true, and what came in reads behind it as it did. Its condition: none but the row's own (the listed package-level variables hold what the program's text lays in them: the card ties them). -/
import Derived.Test.YthglbmihbmneaaaGreatDoorRows
import Derived.Test.YthglbmihbmneaaaGreatDoorCards
import Derived.Test.YthglbmihbmneaaaGreatDoorTie
import Derived.Test.YthglbmihbmneaaaGreatDoorLaLoginThrough
import Derived.Test.YthglbmihbmneaaaGreatDoorBa8
import Derived.Test.YthglbmihbmneaaaGreatDoorPureLoginThrough
import Derived.WalkKit
import Derived.ProofKit
import Derived.OpenShut
import Derived.ShutString
import Derived.ChangeOld
import Derived.Below
import Derived.SizedLaws
import Derived.Deep.DeepHandedRow
import Derived.Lib.LaidTab
import Derived.Stop.LaidErr
import Derived.LaidHandle
namespace Go.Proofs.YthglbmihbmneaaaGreatDoor.loginThrough
open Go.ChangeShapes Go.WideShapes Go.ChangeAt Go.RowKit Go.Proofs.YthglbmihbmneaaaGreatDoor.P Go.Proofs.YthglbmihbmneaaaGreatDoorW.PrintWords
open Go.ChangeMaps (open_string shut_string)
set_option linter.unusedVariables false
theorem own : ownKnob Tryz.prog.godebug = none := by kernel_rfl
theorem laidOut : laidOutB Tryz.prog = true := by kernel_rfl
set_option maxRecDepth 100000 in
theorem contract (H : Type) (enc : TypeId × Value → H) (W : World) (base : Nat) (args : Array Value) (ds gs : List (DataW H)) (before : List MemPlace)
    (hval0 : ∀ (j : Nat) t v, Tryz.f4.params[j]? = some t → args[j]? = some v → Value.okWide Tryz.prog W .any base t v)
    (hW : DataW.Whole enc Tryz.prog Tryz.f4.params.toList Rows.loginThroughSpec.vars false W args.toList ds gs before) (hG : Glob W) :
    Calls Tryz.prog 4 args W fun e W' => ∃ v, e = .returned v ∧ Rows.loginThroughSpec.post enc Tryz.prog Tryz.f4 false true false false W args v W' := by
  have hval : ∀ (j : Nat) t v, Tryz.f4.params[j]? = some t → args[j]? = some v → Value.okWide Tryz.prog W .any base t v := hval0
  have hW' := hW
  obtain ⟨p, q, hA0, hV, rfl, hfz, hnd⟩ := hW
  have hA : DataW.TrodAll enc Tryz.prog W 0 (fun _ => true) true Tryz.f4.params.toList args.toList ds p := hA0
  rw [Tryz.params4] at hA hval
  obtain ⟨v0, vs0, d0, ds0, p0, q0, hargs, rfl, rfl, h0, r0⟩ := trodAll_cons hA
  obtain ⟨v1, vs1, d1, ds1, p1, q1, rfl, rfl, rfl, h1, r1⟩ := trodAll_cons r0
  obtain ⟨v2, vs2, d2, ds2, p2, q2, rfl, rfl, rfl, h2, r2⟩ := trodAll_cons r1
  obtain ⟨rfl, rfl, rfl⟩ := trodAll_nil r2
  obtain rfl : args = #[v0, v1, v2] := by cases args; simp_all
  obtain ⟨rfl, rfl⟩ := trodVars_none hV
  have g0 := h0
  have lt0 := Rk.lt_of h0
  obtain ⟨cs0, rfl, _⟩ := okWide_struct Tryz.underlying27 (hval 0 27 v0 rfl rfl)
  obtain ⟨x0, K0, w0⟩ := Rk.arg o27 h0
  have e0 := k27_open K0
  obtain rfl := Rk.agg_of e0
  obtain ⟨x1, rfl, rfl, rfl, w1⟩ := open_string Tryz.underlying9 (hval 1 9 v1 rfl rfl) h1
  have g2 := h2
  have lt2 := Rk.lt_of h2
  obtain ⟨cs2, rfl, _⟩ := okWide_struct Tryz.underlying35 (hval 2 35 v2 rfl rfl)
  obtain ⟨x2, K2, w2⟩ := Rk.arg o35 h2
  have e2 := k35_open K2
  obtain rfl := Rk.agg_of e2
  obtain ⟨k, hk⟩ := Pure.LoginThrough x0 x1 x2 w0 w1 w2
  refine (headgatelaw22_LoginThrough.calls k x0.f0 x0.f1 x0.f2.f0 x0.f2.f1 x0.f2.f2 x0.f2.f3 x0.f2.f4 x0.f2.f5 x0.f2.f6 x0.f2.f7 x0.f3 x0.f4 x1 x2.f0 x2.f1 true W hG rfl hk).mono fun e W' ⟨he, bel⟩ => ?_
  subst he
  exact ⟨_, rfl, _, _, _, [], _, [], hW', trodAll_mk1 (shut_bool Tryz.underlying4 _), (trodAll_cons_mk (Below.trod laidOut (by kernel_rfl) (of_decide_eq_true (by kernel_rfl)) g0 bel lt0) (trodAll_cons_mk (shut_string Tryz.underlying9 w1) (trodAll_cons_mk (Below.trod laidOut (by kernel_rfl) (of_decide_eq_true (by kernel_rfl)) g2 bel lt2) trodAll_mk0))), rfl, bel.frame _, fun h => by cases h⟩
noncomputable def laidWorld (os : Os) : World :=
  { World.holding Tryz.prog os ⟨#[.cells #[.string ⟨#[118, 97, 108, 117, 101, 32, 111, 117, 116, 32, 111, 102, 32, 114, 97, 110, 103, 101]⟩] 213, .cells #[.string ⟨#[105, 110, 118, 97, 108, 105, 100, 32, 115, 121, 110, 116, 97, 120]⟩] 213], #[], []⟩ with heap := (((((((((World.holding Tryz.prog os ⟨#[.cells #[.string ⟨#[118, 97, 108, 117, 101, 32, 111, 117, 116, 32, 111, 102, 32, 114, 97, 110, 103, 101]⟩] 213, .cells #[.string ⟨#[105, 110, 118, 97, 108, 105, 100, 32, 115, 121, 110, 116, 97, 120]⟩] 213], #[], []⟩).heap.modify 5 fun
      | .cells _ t frozen => .cells #[.int .u8 0, .int .u8 1, .int .u8 28, .int .u8 2, .int .u8 29, .int .u8 14, .int .u8 24, .int .u8 3, .int .u8 30, .int .u8 22, .int .u8 20, .int .u8 15, .int .u8 25, .int .u8 17, .int .u8 4, .int .u8 8, .int .u8 31, .int .u8 27, .int .u8 13, .int .u8 23, .int .u8 21, .int .u8 19, .int .u8 16, .int .u8 7, .int .u8 26, .int .u8 12, .int .u8 18, .int .u8 6, .int .u8 11, .int .u8 5, .int .u8 10, .int .u8 9] t frozen
      | o => o).modify 6 fun
      | .cells _ t frozen => .cells #[.int .u8 0, .int .u8 1, .int .u8 56, .int .u8 2, .int .u8 57, .int .u8 49, .int .u8 28, .int .u8 3, .int .u8 61, .int .u8 58, .int .u8 42, .int .u8 50, .int .u8 38, .int .u8 29, .int .u8 17, .int .u8 4, .int .u8 62, .int .u8 47, .int .u8 59, .int .u8 36, .int .u8 45, .int .u8 43, .int .u8 51, .int .u8 22, .int .u8 53, .int .u8 39, .int .u8 33, .int .u8 30, .int .u8 24, .int .u8 18, .int .u8 12, .int .u8 5, .int .u8 63, .int .u8 55, .int .u8 48, .int .u8 27, .int .u8 60, .int .u8 41, .int .u8 37, .int .u8 16, .int .u8 46, .int .u8 35, .int .u8 44, .int .u8 21, .int .u8 52, .int .u8 32, .int .u8 23, .int .u8 11, .int .u8 54, .int .u8 26, .int .u8 40, .int .u8 15, .int .u8 34, .int .u8 20, .int .u8 31, .int .u8 10, .int .u8 25, .int .u8 14, .int .u8 19, .int .u8 9, .int .u8 13, .int .u8 8, .int .u8 7, .int .u8 6] t frozen
      | o => o).modify 4 fun
      | .cells _ t frozen => .cells #[.int .u64 1, .int .u64 10, .int .u64 100, .int .u64 1000, .int .u64 10000, .int .u64 100000, .int .u64 1000000, .int .u64 10000000, .int .u64 100000000, .int .u64 1000000000, .int .u64 10000000000, .int .u64 100000000000, .int .u64 1000000000000, .int .u64 10000000000000, .int .u64 100000000000000, .int .u64 1000000000000000, .int .u64 10000000000000000, .int .u64 100000000000000000, .int .u64 1000000000000000000, .int .u64 10000000000000000000] t frozen
      | o => o).modify 8 fun
      | .cells _ t frozen => .cells #[.int .u8 128, .int .u8 191, .int .u8 160, .int .u8 191, .int .u8 128, .int .u8 159, .int .u8 144, .int .u8 191, .int .u8 128, .int .u8 143, .int .u8 0, .int .u8 0, .int .u8 0, .int .u8 0, .int .u8 0, .int .u8 0, .int .u8 0, .int .u8 0, .int .u8 0, .int .u8 0, .int .u8 0, .int .u8 0, .int .u8 0, .int .u8 0, .int .u8 0, .int .u8 0, .int .u8 0, .int .u8 0, .int .u8 0, .int .u8 0, .int .u8 0, .int .u8 0] t frozen
      | o => o).modify 0 fun
      | .cells _ t frozen => .cells #[.iface 125 (.agg #[.pointer (some ⟨9, 52, none⟩)])] t frozen
      | o => o).modify 3 fun
      | .cells _ t frozen => .cells #[.iface 211 (.pointer (some ⟨(World.holding Tryz.prog default ⟨#[], #[], []⟩).heap.size + 0, 0, none⟩))] t frozen
      | o => o).modify 2 fun
      | .cells _ t frozen => .cells #[.iface 211 (.pointer (some ⟨(World.holding Tryz.prog default ⟨#[], #[], []⟩).heap.size + 1, 0, none⟩))] t frozen
      | o => o).modify 7 fun
      | .cells _ t frozen => .cells (Go.Pinned.utf8FirstZ.map fun (z : Nat) => Value.int .u8 (Int.ofNat z)).toArray t frozen
      | o => o) }
theorem laid_met (os : Os) : laidMetH Tryz.prog Rows.loginThroughRow.laid ((laidWorld os).forCall (fun _ _ => 0) ⟨#[], #[.agg #[.int .i64 0, .bool false, .bool false, .bool false, .bool false, .bool false, .int .i64 0, .int .i64 0, .string ByteArray.empty, .string ByteArray.empty, .int .u32 0, .int .u32 0], .string ByteArray.empty, .agg #[.string ByteArray.empty, .string ByteArray.empty]], []⟩).memory :=
  laidMetH_of_parts (laidMet_of_run' 8 (by kernel_rfl) (by kernel_rfl)) (by kernel_rfl)
theorem reads (os : Os) {H : Type} (enc : TypeId × Value → H) : ∃ places, DataW.whole enc Tryz.prog ((laidWorld os).forCall (fun _ _ => 0) ⟨#[], #[.agg #[.int .i64 0, .bool false, .bool false, .bool false, .bool false, .bool false, .int .i64 0, .int .i64 0, .string ByteArray.empty, .string ByteArray.empty, .int .u32 0, .int .u32 0], .string ByteArray.empty, .agg #[.string ByteArray.empty, .string ByteArray.empty]], []⟩).memory Tryz.f4.params.toList Rows.loginThroughSpec.vars false (#[.agg #[.int .i64 0, .bool false, .bool false, .bool false, .bool false, .bool false, .int .i64 0, .int .i64 0, .string ByteArray.empty, .string ByteArray.empty, .int .u32 0, .int .u32 0], .string ByteArray.empty, .agg #[.string ByteArray.empty, .string ByteArray.empty]] : Array Value).toList 8 = some ([.agg [.lit (.int .i64 0), .lit (.bool false), .agg [.lit (.bool false), .lit (.bool false), .lit (.bool false), .lit (.bool false), .lit (.int .i64 0), .lit (.int .i64 0), .lit (.string []), .lit (.string [])], .lit (.int .u32 0), .lit (.int .u32 0)], .lit (.string []), .agg [.lit (.string []), .lit (.string [])]], [], places) :=
  ⟨[], by kernel_rfl⟩
theorem laid_parts {W : World} (h : laidMetH Tryz.prog Rows.loginThroughRow.laid W) : laidMet Tryz.prog (Rows.loginThroughRow.laid.filter fun x => x.2.handleName?.isNone) W ∧ handlesMet Tryz.prog [("errors.errorType", Rows.laid_errors_errorType)] W := h
theorem h_rt : (Tryz.prog.cutTypes.find? (·.1 == "internal/reflectlite.rtype")).map (·.2) = some 125 := by kernel_rfl
theorem h_one : ((List.range 248).filter fun t => Tryz.prog.rowNamed t [101, 114, 114, 111, 114]) = [52] := by kernel_rfl
theorem h_size : Tryz.prog.types.size = 248 := by kernel_rfl
theorem glob_handle {W : World} (h : handlesMet Tryz.prog [("errors.errorType", Rows.laid_errors_errorType)] W) : G_errors_errorType W := by
  obtain ⟨name, u, ty, e1, e2, e3, e4, e5⟩ := h _ (List.mem_singleton.2 rfl)
  have en : name = [101, 114, 114, 111, 114] := (Option.some.inj e1).symm
  subst en
  obtain rfl := Option.some.inj (h_rt.symm.trans e2)
  have hm : ty ∈ (List.range 248).filter fun t => Tryz.prog.rowNamed t [101, 114, 114, 111, 114] := List.mem_filter.2 ⟨List.mem_range.2 (by rw [← h_size]; exact e3), e4⟩
  rw [h_one] at hm
  obtain rfl := List.mem_singleton.1 hm
  have hh : typeHandle Tryz.prog 52 = .pointer (some ⟨9, 52, none⟩) := by kernel_rfl
  rw [hh] at e5
  exact World.var?_cell (by kernel_rfl : Tryz.prog.globalNamed "errors.errorType" = some 0) e5 0
theorem int_of_shape {P : Program} {w : World} {g : Nat} {t : TypeId} {zero : Array Value} {ki : IntKind} (h : w.ShapedOpen P) (hg : g < P.globals.size)
    (h0 : ((begin P (fun _ _ => 0) default).world.heap[g]?).bind Obj.row? = some (zero, t)) (hz : zero.size = 1)
    (hb : P.buildable t = true) (hc : P.cellTypes P.depth t = some [t]) (hu : P.underlying t = some (.int ki)) : ∃ m, w.cell? ⟨g, 0, none⟩ = some (.int ki m) := by
  obtain ⟨cs, hh, hs, hr⟩ := h.1 g zero t hg h0
  obtain ⟨ts, hts, _, hall⟩ := hr hb
  rw [hc] at hts
  cases hts
  have h1 : 0 < cs.size := by omega
  obtain ⟨u, hu', hok⟩ := hall 0 cs[0] (by simp [h1])
  have : u = t := by simpa using hu'.symm
  subst this
  have hcell : w.cell? ⟨g, 0, none⟩ = some cs[0] := by simp [World.cell?, hh, h1]
  rw [hcell]
  unfold Cell.ok at hok
  rw [hu] at hok
  cases hv : cs[0] <;> rw [hv] at hok <;> first | (simp at hok; done) | (obtain ⟨rfl, _⟩ := hok; exact ⟨_, rfl⟩) | (simp at hok; obtain ⟨rfl, _⟩ := hok; exact ⟨_, rfl⟩) | (simp at hok; subst hok; exact ⟨_, rfl⟩)
theorem cell_of_var {W : World} {n : String} {g : Nat} {v : Value} (hg : Tryz.prog.globalNamed n = some g) (h : W.var? Tryz.prog n = some #[v]) : W.cell? ⟨g, 0, none⟩ = some v := by
  unfold World.var? at h
  rw [hg] at h
  change (match W.heap[g]? with | some (.cells cs _ _) => some cs | _ => none) = some #[v] at h
  unfold World.cell?
  split at h
  · next cs _ _ hh => rw [hh]; obtain rfl := Option.some.inj h; rfl
  · cases h
theorem star : "*" ++ "errors.errorString" = "*errors.errorString" := by decide
theorem row211 (u : TypeId) (h : Tryz.prog.typeName? 3 u = some "*errors.errorString") : u = 211 :=
  typeName_ptr_named (nm := "errors.errorString") (by rw [star]; kernel_rfl) (by kernel_rfl) (by decide) u (by rw [star]; exact h)
theorem glob_G_strconv_ErrSyntax {W : World} (h : laidMet Tryz.prog (Rows.loginThroughRow.laid.filter fun x => x.2.handleName?.isNone) W) : G_strconv_ErrSyntax W := by
  obtain ⟨a, s_, hv, _, _, _⟩ := laid_sentinel (n := "strconv.ErrSyntax") (h.tail.tail.tail.tail.tail) (by kernel_rfl : Tryz.prog.globalNamed "strconv.ErrSyntax" = some 2) (by kernel_rfl : (Tryz.prog.globals[2]?).map (·.type) = some 52) Tryz.underlying52 row211 Tryz.underlying211 Tryz.underlying213 rfl rfl Tryz.underlying9 (by kernel_rfl) (by kernel_rfl)
  exact ⟨_, cell_of_var (by kernel_rfl) hv, Or.inr ⟨_, _, rfl⟩⟩
theorem glob_G_strconv_ErrRange {W : World} (h : laidMet Tryz.prog (Rows.loginThroughRow.laid.filter fun x => x.2.handleName?.isNone) W) : G_strconv_ErrRange W := by
  obtain ⟨a, s_, hv, _, _, _⟩ := laid_sentinel (n := "strconv.ErrRange") (h.tail.tail.tail.tail) (by kernel_rfl : Tryz.prog.globalNamed "strconv.ErrRange" = some 3) (by kernel_rfl : (Tryz.prog.globals[3]?).map (·.type) = some 52) Tryz.underlying52 row211 Tryz.underlying211 Tryz.underlying213 rfl rfl Tryz.underlying9 (by kernel_rfl) (by kernel_rfl)
  exact ⟨_, cell_of_var (by kernel_rfl) hv, Or.inr ⟨_, _, rfl⟩⟩
theorem glob_pow {W : World} (h : laidMet Tryz.prog (Rows.loginThroughRow.laid.filter fun x => x.2.handleName?.isNone) W) : G_internal_strconv_uint64pow10 W :=
  Go.Lib.tabIs_of_head (by kernel_rfl) (by kernel_rfl : (Tryz.prog.globals[4]?).map (·.type) = some 204) Tryz.underlying204 Tryz.underlying85 (by kernel_rfl) (by kernel_rfl) (h.tail.tail)
theorem glob_max {W : World} (h : W.ShapedOpen Tryz.prog) : G_internal_bytealg_MaxLen W :=
  int_of_shape h (of_decide_eq_true (by kernel_rfl)) (by kernel_rfl : ((begin Tryz.prog (fun _ _ => 0) default).world.heap[1]?).bind Obj.row? = some (#[.int .i64 0], 3)) rfl (by kernel_rfl) (by kernel_rfl) Tryz.underlying3
set_option maxRecDepth 100000 in
theorem lifted (os : Os) (started : os.Started) (H : Type) (enc : TypeId × Value → H) (F : Stop.Interp) :
    ReturnsInHanded {} Tryz.checked os 4 .any ((OpenSpec.ofChange Rows.loginThroughSpec).preRow enc Tryz.prog Tryz.f4 Rows.loginThroughRow.domain false Rows.loginThroughRow.laid) (((OpenSpec.ofChange Rows.loginThroughSpec).at F).post enc Tryz.prog Tryz.f4 false true false false) := by
  obtain ⟨places, hx⟩ := reads os enc
  refine returnsInHanded_of_row (C := Tryz.checked) (s := OpenSpec.ofChange Rows.loginThroughSpec) own started (by kernel_rfl) Tryz.func4
    (witness_row_at (enc := enc) (C := Tryz.checked) false (laidWorld os) #[.agg #[.int .i64 0, .bool false, .bool false, .bool false, .bool false, .bool false, .int .i64 0, .int .i64 0, .string ByteArray.empty, .string ByteArray.empty, .int .u32 0, .int .u32 0], .string ByteArray.empty, .agg #[.string ByteArray.empty, .string ByteArray.empty]] rfl (by kernel_rfl) (by kernel_rfl) (by kernel_rfl)
      (OpenSpec.preRow_of_cond 8 hx (by kernel_rfl) (fun k hk => by cases hk) (by kernel_rfl) (laid_met os))) ?_
  intro W base args ds gs before hval hW _ _ _ hL hS_ _
  exact contract H enc W base args ds gs before hval hW ⟨glob_handle (laid_parts hL).2, glob_max hS_, glob_G_strconv_ErrSyntax (laid_parts hL).1, glob_G_strconv_ErrRange (laid_parts hL).1, glob_pow (laid_parts hL).1⟩
theorem said : Rows.LoginThroughSaid :=
  OpenClaim.holds_of_cond 4 Tryz.f4 rfl rfl rfl rfl rfl rfl rfl ⟨rfl, rfl, rfl, rfl, rfl⟩ rfl rfl rfl rfl rfl (by kernel_rfl) Tryz.func4 (by kernel_rfl)
    (of_decide_eq_true (by kernel_rfl)) (by unfold Func.isWrapper; first | (rw [if_pos (by decide +kernel)]; kernel_rfl) | (rw [if_neg (by decide +kernel)]; exact ⟨rfl, rfl⟩))
    (fun os started H enc _ F => by rw [OpenClaim.pre_eq_preRow]; exact lifted os started H enc F)
theorem plain (f : FuncId) (fn : Func) (hf : Tryz.pinned.checked.prog.funcNamed "headgate/headgatelaw22.LoginThrough" = some f) (hfn : Tryz.pinned.checked.prog.funcs[f]? = some fn) :
    true = Tryz.pinned.checked.prog.looks [] ∧ ∀ (j : Nat) t, fn.params[j]? = some t → Tryz.pinned.checked.prog.wantsStandIn t = false := by
  obtain rfl : f = 4 := Option.some.inj ((show Tryz.prog.funcNamed "headgate/headgatelaw22.LoginThrough" = some 4 by kernel_rfl).symm.trans hf) |>.symm
  obtain rfl : fn = Tryz.f4 := (Option.some.inj (Tryz.func4.symm.trans hfn)).symm
  refine ⟨by kernel_rfl, fun j t ht => ?_⟩
  rw [Tryz.params4] at ht
  have hm : t = 27 ∨ t = 9 ∨ t = 35 := by simpa using Array.mem_of_getElem? ht
  rcases hm with rfl | rfl | rfl
  · exact (show Tryz.prog.wantsStandIn 27 = false by kernel_rfl)
  · exact (show Tryz.prog.wantsStandIn 9 = false by kernel_rfl)
  · exact (show Tryz.prog.wantsStandIn 35 = false by kernel_rfl)
theorem card : Rows.LoginThroughCardSaid :=
  Claim7.holds_tied_plain_at .later [] _ _ _ _ said (fun _ h => by cases h) (by kernel_rfl) (fun _ h => by cases h) loginThrough_row_tie rfl ⟨rfl, rfl⟩ (by kernel_rfl) rfl plain (by kernel_rfl)
#print axioms card
end Go.Proofs.YthglbmihbmneaaaGreatDoor.loginThrough
namespace Go.Proofs.YthglbmihbmneaaaGreatDoor
/-- The card, under a short name, for the claim. -/
theorem loginThrough_holds : Rows.LoginThroughCardSaid := loginThrough.card
end Go.Proofs.YthglbmihbmneaaaGreatDoor
