-- written by this session's patched copy of the printer (wip/tools/patch_print.py); Lean checks it
import Derived.Test.YtflbeoejkbnhmaaDoorProg
import Derived.Below
import Derived.Deep.Draws
import Derived.Deep.AppendLies
import Derived.Maps.AppendAt
import Derived.OwnWalk
import Derived.Laws.BytesArg
import Derived.Laws.MakeOwn
import Derived.Laws.OwnMore
import Derived.Deep.OwnRows
import Derived.Tactics
import Derived.Lib.ConvBytes
import Derived.Laws.Slices
import Derived.WalkKit
import Derived.KernelRfl
import Derived.RowKit3
import Derived.Deep.LoopGhost
import Derived.Deep.QuietTactic
import Derived.BigQuiet
import Derived.WideLaws
import Derived.Deep.DeepCutAuto
import Derived.Deep.CutBlock
import Derived.Deep.RegionHeld3
import Derived.Laws.Rows
import Derived.Lib.AppendStr
import Derived.ArgAppend
import Derived.Laws.IdiomCopy
import Derived.OrdersHeld
import Derived.Laws.BitsLemmas
import Derived.RowKit
import Derived.Test.YtflbeoejkbnhmaaDoorWWords
import Derived.Test.YtflbeoejkbnhmaaDoorWLast
import Derived.Test.YtflbeoejkbnhmaaDoorWTab
import Derived.Test.YtflbeoejkbnhmaaDoorWFour
import Derived.Test.YtflbeoejkbnhmaaDoorWQPut
import Derived.Test.YtflbeoejkbnhmaaDoorWApart
import Derived.Test.YtflbeoejkbnhmaaDoorWArr
import Derived.Test.YtflbeoejkbnhmaaDoorWZeros
import Derived.Test.YtflbeoejkbnhmaaDoorWFoot
import Derived.Test.YtflbeoejkbnhmaaDoorWKept
import Derived.Test.YtflbeoejkbnhmaaDoorWShare
import Derived.Test.YtflbeoejkbnhmaaDoorWN
import Derived.Test.YtflbeoejkbnhmaaDoorWFootNe
import Derived.Test.YtflbeoejkbnhmaaDoorWAt
import Derived.Test.YtflbeoejkbnhmaaDoorWEqStruct
import Derived.Test.YtflbeoejkbnhmaaDoorWRepsOne
import Derived.Test.YtflbeoejkbnhmaaDoorWInv
import Derived.Test.YtflbeoejkbnhmaaDoorWInvWords
import Derived.Test.YtflbeoejkbnhmaaDoorWGuard
import Derived.Test.YtflbeoejkbnhmaaDoorWNEv
import Derived.Test.YtflbeoejkbnhmaaDoorWMore
namespace Go.Proofs.YtflbeoejkbnhmaaDoor.P
open Go.RowKit Go.Proofs.YtflbeoejkbnhmaaDoorW.PrintWords Go.Proofs.YtflbeoejkbnhmaaDoorW.PrintLast Go.Proofs.YtflbeoejkbnhmaaDoorW.PrintMore
attribute [local go_sem] max2_int min2_int max_two min_two max_three min_three max_four min_four   -- for this text's walks alone
set_option linter.unusedVariables false
set_option linter.unusedSimpArgs false



def errW : Option Int → Value
  | none => .nilIface
  | some c => .iface 0 (.int .i64 c)
theorem errW_none : errW none = .nilIface := rfl
theorem errW_some (c : Int) : errW (some c) = .iface 0 (.int .i64 c) := rfl

theorem info37 : (Tryd.prog.info? 37).map (fun i => (i.zero, i.size, i.bytes)) = some (some (.agg #[(.string ⟨#[]⟩), (.int .u64 0)]), 2, 24) := by kernel_rfl
-- the values' own types
/-! #### struct type 37 -/
structure S37 where
  f0 : ByteArray
  f1 : Int
def z37 : S37 := ⟨(⟨#[]⟩ : ByteArray), (0 : Int)⟩
def k37 : Kd S37 := Kd.iso (Kd.pair Kd.string (Kd.int .u64)) (fun x : S37 => (x.f0, x.f1))
theorem k37_open {w : World} {x : S37} {cs : List Value} (h : k37.K w x cs) : cs = [.string x.f0, .int .u64 x.f1] := by
  obtain ⟨_, _, rfl, rfl, rfl⟩ := h
  exact rfl
theorem k37_openM {w : World} {base : Nat} {ok : Nat → Prop} {x : S37} {cs : List Value} (h : k37.M w base ok x cs) : cs = [.string x.f0, .int .u64 x.f1] := by
  obtain ⟨_, _, rfl, rfl, rfl⟩ := h
  exact rfl
theorem k37_mk (w : World) (x : S37)  : k37.K w x [.string x.f0, .int .u64 x.f1] := ⟨[.string x.f0], [.int .u64 x.f1], rfl, rfl, rfl⟩
theorem k37_mkM (w : World) (base : Nat) (ok : Nat → Prop) (x : S37)  : k37.M w base ok x [.string x.f0, .int .u64 x.f1] := ⟨[.string x.f0], [.int .u64 x.f1], rfl, rfl, rfl⟩
def rd_T37 (xs : List S37) (i : Int) : S37 := xs.getD i.toNat z37
theorem at_T37 {w : World} {A : Option Addr} {n : Nat} {xs : List S37} (h : Kd.C k37 w A n xs) (i : Int) (h0 : 0 ≤ i) (h1 : i < n) : ∃ ad , A = some ad ∧ w.cell? (ad.add (i.toNat * 2)) = some (.string (rd_T37 xs i).f0) ∧ w.cell? ⟨(ad.add (i.toNat * 2)).block, (ad.add (i.toNat * 2)).off + 1, none⟩ = some (.int .u64 (rd_T37 xs i).f1) := by
  obtain ⟨ad, c, e, _, hK, hc0⟩ := Kd.C_get h z37 i h0 h1
  have hc : ∀ j u, c[j]? = some u → w.cell? (ad.add (i.toNat * 2 + j)) = some u := hc0
  obtain rfl := k37_open hK
  exact ⟨ad, e, hc 0 _ rfl, by rw [← add_field _ _ 1 (by omega)]; exact hc 1 _ rfl⟩

def rd_L4 (xs : List (List S37)) (i : Int) : (List S37) := xs.getD i.toNat ([] : List S37)
theorem at_L4 {w : World} {A : Option Addr} {n : Nat} {xs : List (List S37)} (h : Kd.C (Kd.slice 37 k37) w A n xs) (i : Int) (h0 : 0 ≤ i) (h1 : i < n) : ∃ ad A0 c0, A = some ad ∧ w.cell? (ad.add i.toNat) = some (.slice A0 (rd_L4 xs i).length c0) ∧ (rd_L4 xs i).length ≤ c0 ∧ k37.C w A0 (rd_L4 xs i).length (rd_L4 xs i) := by
  obtain ⟨ad, c, e, _, hK, hc0⟩ := Kd.C_get h ([] : List S37) i h0 h1
  have hc : ∀ j u, c[j]? = some u → w.cell? (ad.add (i.toNat * 1 + j)) = some u := hc0
  obtain ⟨A0, c0, rfl, l0, g0⟩ := hK
  exact ⟨ad, A0, c0, e, by have hq := hc 0 _ rfl; rwa [Nat.mul_one, Nat.add_zero] at hq, l0, g0⟩

/-! #### struct type 24 -/
structure S24 where
  f0 : Int
  f1 : ByteArray
def z24 : S24 := ⟨(0 : Int), (⟨#[]⟩ : ByteArray)⟩
def k24 : Kd S24 := Kd.iso (Kd.pair (Kd.int .i64) Kd.string) (fun x : S24 => (x.f0, x.f1))
theorem k24_open {w : World} {x : S24} {cs : List Value} (h : k24.K w x cs) : cs = [.int .i64 x.f0, .string x.f1] := by
  obtain ⟨_, _, rfl, rfl, rfl⟩ := h
  exact rfl
theorem k24_openM {w : World} {base : Nat} {ok : Nat → Prop} {x : S24} {cs : List Value} (h : k24.M w base ok x cs) : cs = [.int .i64 x.f0, .string x.f1] := by
  obtain ⟨_, _, rfl, rfl, rfl⟩ := h
  exact rfl
theorem k24_mk (w : World) (x : S24)  : k24.K w x [.int .i64 x.f0, .string x.f1] := ⟨[.int .i64 x.f0], [.string x.f1], rfl, rfl, rfl⟩
theorem k24_mkM (w : World) (base : Nat) (ok : Nat → Prop) (x : S24)  : k24.M w base ok x [.int .i64 x.f0, .string x.f1] := ⟨[.int .i64 x.f0], [.string x.f1], rfl, rfl, rfl⟩
def rd_T24 (xs : List S24) (i : Int) : S24 := xs.getD i.toNat z24
theorem at_T24 {w : World} {A : Option Addr} {n : Nat} {xs : List S24} (h : Kd.C k24 w A n xs) (i : Int) (h0 : 0 ≤ i) (h1 : i < n) : ∃ ad , A = some ad ∧ w.cell? (ad.add (i.toNat * 2)) = some (.int .i64 (rd_T24 xs i).f0) ∧ w.cell? ⟨(ad.add (i.toNat * 2)).block, (ad.add (i.toNat * 2)).off + 1, none⟩ = some (.string (rd_T24 xs i).f1) := by
  obtain ⟨ad, c, e, _, hK, hc0⟩ := Kd.C_get h z24 i h0 h1
  have hc : ∀ j u, c[j]? = some u → w.cell? (ad.add (i.toNat * 2 + j)) = some u := hc0
  obtain rfl := k24_open hK
  exact ⟨ad, e, hc 0 _ rfl, by rw [← add_field _ _ 1 (by omega)]; exact hc 1 _ rfl⟩

/-! #### struct type 27 -/
structure S27 where
  f0 : (List S37)
  f1 : S24
  f2 : Int
  f3 : Bool
def z27 : S27 := ⟨([] : List S37), z24, (0 : Int), false⟩
def k27 : Kd S27 := Kd.iso (Kd.pair (Kd.slice 37 k37) (Kd.pair k24 (Kd.pair (Kd.int .u32) Kd.bool))) (fun x : S27 => (x.f0, x.f1, x.f2, x.f3))
theorem k27_open {w : World} {x : S27} {cs : List Value} (h : k27.K w x cs) : ∃ A0 c0, cs = [.slice A0 x.f0.length c0, .int .i64 x.f1.f0, .string x.f1.f1, .int .u32 x.f2, .bool x.f3] ∧ x.f0.length ≤ c0 ∧ k37.C w A0 x.f0.length x.f0 := by
  obtain ⟨_, _, rfl, ⟨A0, c0, rfl, l0, g0⟩, ⟨_, _, rfl, s1, ⟨_, _, rfl, rfl, rfl⟩⟩⟩ := h
  obtain rfl := k24_open s1
  exact ⟨A0, c0, rfl, l0, g0⟩
theorem k27_openM {w : World} {base : Nat} {ok : Nat → Prop} {x : S27} {cs : List Value} (h : k27.M w base ok x cs) : ∃ v0, cs = [v0, .int .i64 x.f1.f0, .string x.f1.f1, .int .u32 x.f2, .bool x.f3] ∧ k37.R 37 w base ok v0 x.f0 := by
  obtain ⟨_, _, rfl, ⟨v0, rfl, g0⟩, ⟨_, _, rfl, s1, ⟨_, _, rfl, rfl, rfl⟩⟩⟩ := h
  obtain rfl := k24_openM s1
  exact ⟨v0, rfl, g0⟩
theorem k27_mk (w : World) (x : S27) {A0 : Option Addr} {c0 : Nat} (l0 : x.f0.length ≤ c0) (g0 : k37.C w A0 x.f0.length x.f0) : k27.K w x [.slice A0 x.f0.length c0, .int .i64 x.f1.f0, .string x.f1.f1, .int .u32 x.f2, .bool x.f3] := ⟨[.slice A0 x.f0.length c0], [.int .i64 x.f1.f0, .string x.f1.f1, .int .u32 x.f2, .bool x.f3], rfl, ⟨A0, c0, rfl, l0, g0⟩, ⟨[.int .i64 x.f1.f0, .string x.f1.f1], [.int .u32 x.f2, .bool x.f3], rfl, (k24_mk w x.f1 ), ⟨[.int .u32 x.f2], [.bool x.f3], rfl, rfl, rfl⟩⟩⟩
theorem k27_mkM (w : World) (base : Nat) (ok : Nat → Prop) (x : S27) {v0 : Value} (g0 : k37.R 37 w base ok v0 x.f0) : k27.M w base ok x [v0, .int .i64 x.f1.f0, .string x.f1.f1, .int .u32 x.f2, .bool x.f3] := ⟨[v0], [.int .i64 x.f1.f0, .string x.f1.f1, .int .u32 x.f2, .bool x.f3], rfl, ⟨v0, rfl, g0⟩, ⟨[.int .i64 x.f1.f0, .string x.f1.f1], [.int .u32 x.f2, .bool x.f3], rfl, (k24_mkM w base ok x.f1 ), ⟨[.int .u32 x.f2], [.bool x.f3], rfl, rfl, rfl⟩⟩⟩
def rd_T27 (xs : List S27) (i : Int) : S27 := xs.getD i.toNat z27
theorem at_T27 {w : World} {A : Option Addr} {n : Nat} {xs : List S27} (h : Kd.C k27 w A n xs) (i : Int) (h0 : 0 ≤ i) (h1 : i < n) : ∃ ad A0 c0, A = some ad ∧ w.cell? (ad.add (i.toNat * 5)) = some (.slice A0 (rd_T27 xs i).f0.length c0) ∧ w.cell? ⟨(ad.add (i.toNat * 5)).block, (ad.add (i.toNat * 5)).off + 1, none⟩ = some (.int .i64 (rd_T27 xs i).f1.f0) ∧ w.cell? ⟨(ad.add (i.toNat * 5)).block, (ad.add (i.toNat * 5)).off + 2, none⟩ = some (.string (rd_T27 xs i).f1.f1) ∧ w.cell? ⟨(ad.add (i.toNat * 5)).block, (ad.add (i.toNat * 5)).off + 3, none⟩ = some (.int .u32 (rd_T27 xs i).f2) ∧ w.cell? ⟨(ad.add (i.toNat * 5)).block, (ad.add (i.toNat * 5)).off + 4, none⟩ = some (.bool (rd_T27 xs i).f3) ∧ (rd_T27 xs i).f0.length ≤ c0 ∧ k37.C w A0 (rd_T27 xs i).f0.length (rd_T27 xs i).f0 := by
  obtain ⟨ad, c, e, _, hK, hc0⟩ := Kd.C_get h z27 i h0 h1
  have hc : ∀ j u, c[j]? = some u → w.cell? (ad.add (i.toNat * 5 + j)) = some u := hc0
  obtain ⟨A0, c0, rfl, l0, g0⟩ := k27_open hK
  exact ⟨ad, A0, c0, e, hc 0 _ rfl, by rw [← add_field _ _ 1 (by omega)]; exact hc 1 _ rfl, by rw [← add_field _ _ 2 (by omega)]; exact hc 2 _ rfl, by rw [← add_field _ _ 3 (by omega)]; exact hc 3 _ rfl, by rw [← add_field _ _ 4 (by omega)]; exact hc 4 _ rfl, l0, g0⟩

def G_access_lets.tab : List Int := [0, 1, 0, 5, 6, 13, 14]
def G_access_lets (w : World) : Prop := ∀ i : Nat, i < 7 → w.cell? ⟨0, i, none⟩ = some (.int .i64 (G_access_lets.tab.getD i 0))
theorem G_access_lets.keep {w w' : World} (h : G_access_lets w) (hb : Below w.heap.size w w') : G_access_lets w' := fun i hi => (hb.cell (World.block_lt_of_cell? w _ (h i hi))).trans (h i hi)
theorem G_access_lets.of_laid {w : World} (h : ∀ i, i < G_access_lets.tab.length → w.cell? ⟨0, i, none⟩ = some (.int .i64 (G_access_lets.tab.getD i 0))) : G_access_lets w := h
theorem G_access_lets.reads {w : World} (h : G_access_lets w) : Kd.C (Kd.int .i64) w (some ⟨0, 0, none⟩) G_access_lets.tab.length G_access_lets.tab := by
  refine ⟨rfl, by decide, fun _ => ⟨_, rfl, fun j p hp => ⟨[.int .i64 p], rfl, rfl, fun i u hu => ?_⟩⟩⟩
  have hj : j < 7 := (List.getElem?_eq_some_iff.mp hp).1
  have h1 := h j hj
  have h2 : G_access_lets.tab.getD j 0 = p := by
    show G_access_lets.tab.getD j 0 = p
    rw [List.getD_eq_getElem?_getD, hp]
    rfl
  rw [h2] at h1
  match i, hu with
  | 0, hu =>
    cases hu
    rw [← h1]
    show w.cell? (Addr.add _ (j * 1 + 0)) = _
    unfold Addr.add
    by_cases hz : j = 0
    · subst hz
      rfl
    · rw [if_neg (by omega)]
      simp

def Glob (w : World) : Prop := G_access_lets w
theorem Glob.access_lets {w : World} (h : Glob w) : G_access_lets w := h
theorem Glob.keep {w w1 : World} (h : Glob w) (hb : Below w.heap.size w w1) : Glob w1 := G_access_lets.keep h hb
end Go.Proofs.YtflbeoejkbnhmaaDoor.P
