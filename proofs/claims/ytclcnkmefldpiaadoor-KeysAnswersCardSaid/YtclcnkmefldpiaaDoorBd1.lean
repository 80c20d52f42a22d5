-- joined by this session's wip/tools/pack.py: words of the kit's print, cut to what the claim names; functions printed by a patched copy of the printer; walks and lemmas of this session; Lean checks it
import Derived.Test.YtclcnkmefldpiaaDoorBd0
import Derived.Test.YtclcnkmefldpiaaDoorProg
import Derived.WalkKit
import Derived.Laws.RangeAny
import Derived.Laws.BitsLemmas
import Derived.RowKit
import Derived.Shelf.Strings.Builder1
import Derived.Shelf.Small.Strs
import Derived.Shelf.Strings.BuilderF
import Derived.Shelf.Strings.BuilderK
import Derived.Shelf.Strconv.Itoa0
import Derived.Shelf.Strconv.Itoa1
import Derived.Shelf.LaysM
import Derived.Shelf.Strconv.Itoa2
import Derived.Shelf.Strconv.Itoa3
import Derived.Shelf.Strconv.Clone
import Derived.Shelf.Strconv.SyntaxError
import Derived.Shelf.LaysC
import Derived.Shelf.Strconv.ToError
import Derived.Shelf.Strconv.Lower
import Derived.Shelf.Strconv.RangeError
import Derived.Shelf.Strconv.ToErrorRange
import Derived.Shelf.Strings.Search1
import Derived.Shelf.Strings.Search2
import Derived.Shelf.Strings.Search3
import Derived.Shelf.Strings.Cut
import Derived.Shelf.Strings.Count
import Derived.Shelf.Strings.Shaped
import Derived.Shelf.Strings.Prefix
import Derived.Shelf.Strings.Split
import Derived.Shelf.Unicode.DecodeSlow
import Derived.Below
import Derived.Deep.Draws
import Derived.Deep.AppendLies
import Derived.Maps.AppendAt
import Derived.OwnWalk
import Derived.Laws.BytesArg
import Derived.Laws.MakeOwn
import Derived.Laws.OwnMore
import Derived.Deep.OwnRows
import Derived.Tactics
import Derived.Lib.ConvBytes
import Derived.Laws.Slices
import Derived.KernelRfl
import Derived.RowKit3
import Derived.Deep.LoopGhost
import Derived.Deep.QuietTactic
import Derived.BigQuiet
import Derived.WideLaws
import Derived.Deep.DeepCutAuto
import Derived.Deep.CutBlock
import Derived.Deep.RegionHeld3
import Derived.Laws.Rows
import Derived.Lib.AppendStr
import Derived.ArgAppend
import Derived.Laws.IdiomCopy
import Derived.OrdersHeld
import Derived.Lib.AppendIntMem
import Derived.IntWalk
import Derived.Maps.OwnSet
import Derived.StringKeys
import Derived.RegionTactic
import Derived.Maps.Own
import Derived.Maps.OwnOps
import Derived.Maps.Views
import Derived.Carry
import Derived.Lib.SliceRun
namespace Go.Proofs.YtclcnkmefldpiaaDoorW.PrintLast
open Go.Proofs.YtclcnkmefldpiaaDoorW.PrintWords (Aside0)
section
variable {P : Program} {ops : Array Oper} {Q : Exit → Act → World → Prop} {md : Region.Mode} {S : World → Prop} {ds : List Nat} {T : Bool × List (List Nat × List Nat)} {B : List Nat}
def dB (n m : Nat) : Array Bool := ((List.range n).map fun i => m.testBit i).toArray
theorem neg_first {p q : Prop} (hn : ¬ p → q) (hp : p → q) : q := (Classical.em p).elim hp hn
theorem la_ {α : Type} (l : List α) (i : Nat) (a : α) : l.toArray.setIfInBounds i a = (l.set i a).toArray := by simp
theorem lb_ {α : Type} (a x : α) (l : List α) : (a :: l).set 0 x = x :: l := rfl
theorem lc_ {α : Type} (a x : α) (l : List α) (i : Nat) : (a :: l).set (i + 1) x = a :: l.set i x := rfl
theorem pon_ (i : Nat) (N : Option Tmp) {oi : Oper} {v : Value} {fuel : Nat} {l : Array Bool} {a : Act} {w : World} (l' : Array Bool) (hT : rtab md ops = T) {a' : Act} (h : wpAnyLast P md ops Q S ds fuel l' a' w)
    (hi : ops[i]? = some oi := by rfl) (hN : oi.dst = N := by rfl) (hc : anyT T l.toList l'.toList i = true := by kernel_rfl) (hQ : ∀ c a w, Q (.panic c) (a.put oi.dst v) w → Q (.panic c) a w := by exact (fun _ _ _ h => h))
    (hw : Region.wanted oi (yielded ops a.tmps) = true := by rfl) (hy : ∀ w', (execOp a.eval oi).run P w' = .ok (.value v) w' := by intro w'; go_simp; with_reducible rfl)
    (ha : a.put N v = a' := by simp only [Act.put, la_, lb_, lc_, i64_w, i32_w]; rfl) : wpAnyLast P md ops Q S ds (fuel + 1) l a w :=
  pure_ (i := i) (N := N) (v := v) l' hi hN (any_of hT hc) hQ (Or.inl ⟨hw, hy⟩) ha h
theorem ptk_ (i : Nat) (N : Option Tmp) {oi : Oper} {v : Value} {fuel : Nat} {l : Array Bool} {a : Act} {w : World} (l' : Array Bool) (hT : rtab md ops = T) (hB : waitsOk T.2 B = true) (hS : S w) {a' : Act} (h : wpAnyLast P md ops Q S ds fuel l' a' w)
    (hi : ops[i]? = some oi := by rfl) (hN : oi.dst = N := by rfl) (hc : takeW T B ds l.toList l'.toList i = true := by kernel_rfl) (hQ : ∀ c a w, Q (.panic c) (a.put oi.dst v) w → Q (.panic c) a w := by exact (fun _ _ _ h => h))
    (hw : Region.wanted oi (yielded ops a.tmps) = true := by rfl) (hy : ∀ w', S w' → (execOp a.eval oi).run P w' = .ok (.value v) w' := by intro w' hs_; (try dsimp only at hs_); (repeat (obtain ⟨_, hs_⟩ := hs_)); go_simp; with_reducible rfl)
    (ha : a.put N v = a' := by simp only [Act.put, la_, lb_, lc_, i64_w, i32_w]; rfl) : wpAnyLast P md ops Q S ds (fuel + 1) l a w :=
  take_ (i := i) (N := N) (v := v) l' hi hN (take_ofW hT hB hc) hQ (Or.inl ⟨hw, hy⟩) hS ha h
theorem qon_ (i : Nat) (N : Option Tmp) {oi : Oper} {v : Value} {fuel : Nat} {l : Array Bool} {a : Act} {w : World} (l' : Array Bool) {a' : Act} (h : wpAnyLast P md ops Q S ds fuel l' a' w)
    (hi : ops[i]? = some oi := by rfl) (hN : oi.dst = N := by rfl) (hc : anyB md ops l l' i = true := by kernel_rfl) (hQ : ∀ c a w, Q (.panic c) (a.put oi.dst v) w → Q (.panic c) a w := by exact (fun _ _ _ h => h))
    (hw : Region.wanted oi (yielded ops a.tmps) = true := by rfl) (hy : ∀ w', (execOp a.eval oi).run P w' = .ok (.value v) w' := by intro w'; go_simp; with_reducible rfl)
    (ha : a.put N v = a' := by simp only [Act.put, la_, lb_, lc_, i64_w, i32_w]; rfl) : wpAnyLast P md ops Q S ds (fuel + 1) l a w :=
  pure_ (i := i) (N := N) (v := v) l' hi hN hc hQ (Or.inl ⟨hw, hy⟩) ha h
theorem qtk_ (i : Nat) (N : Option Tmp) {oi : Oper} {v : Value} {fuel : Nat} {l : Array Bool} {a : Act} {w : World} (l' : Array Bool) (hS : S w) {a' : Act} (h : wpAnyLast P md ops Q S ds fuel l' a' w)
    (hi : ops[i]? = some oi := by rfl) (hN : oi.dst = N := by rfl) (hc : takeB md ops ds l l' i = true := by kernel_rfl) (hQ : ∀ c a w, Q (.panic c) (a.put oi.dst v) w → Q (.panic c) a w := by exact (fun _ _ _ h => h))
    (hw : Region.wanted oi (yielded ops a.tmps) = true := by rfl) (hy : ∀ w', S w' → (execOp a.eval oi).run P w' = .ok (.value v) w' := by intro w' hs_; (try dsimp only at hs_); (repeat (obtain ⟨_, hs_⟩ := hs_)); go_simp; with_reducible rfl)
    (ha : a.put N v = a' := by simp only [Act.put, la_, lb_, lc_, i64_w, i32_w]; rfl) : wpAnyLast P md ops Q S ds (fuel + 1) l a w :=
  take_ (i := i) (N := N) (v := v) l' hi hN hc hQ (Or.inl ⟨hw, hy⟩) hS ha h
end
section
open Go.RowKit Go.Proofs.YtclcnkmefldpiaaDoorW.PrintWords
def Up (w' w : World) : Prop := ∀ (g : Nat) (o : Obj), w'.heap[g]? = some o → w.heap[g]? = some o
theorem up_refl {w : World} : Up w w := fun _ _ h => h
theorem up_drewN {w' w : World} {m : Nat} (h : Up w' w) : Up w' (w.drewN m) := fun g o x => blk_drewN (h g o x) m
theorem up_drew {w' w : World} (h : Up w' w) : Up w' w.drew := fun g o x => blk_drew (h g o x)
theorem up_alloc {w' w : World} {q : Obj} (h : Up w' w) : Up w' (w.alloc q) := fun g o x => blk_alloc (h g o x) q
theorem bk_ {w' w : World} {g : Nat} {o : Obj} (h : Aside0 (w'.heap[g]? = some o)) (e : Up w' w := by (with_reducible repeat (first | exact up_refl | refine up_drewN ?_ | refine up_drew ?_ | refine up_alloc ?_))) : w.heap[g]? = some o := e g o h.out
def UpB (w0 w' w : World) : Prop := Below w0.heap.size w0 w' → Below w0.heap.size w0 w
theorem upb_refl {w0 w : World} : UpB w0 w w := fun h => h
theorem upb_drewN {w0 w' w : World} {m : Nat} (h : UpB w0 w' w) : UpB w0 w' (w.drewN m) := fun x => pw_below_drewN (h x) m
theorem upb_drew {w0 w' w : World} (h : UpB w0 w' w) : UpB w0 w' w.drew := fun x => below_drew1 (h x)
theorem upb_alloc {w0 w' w : World} {q : Obj} (h : UpB w0 w' w) : UpB w0 w' (w.alloc q) := fun x => below_alloc (h x) q
theorem upb_set {w0 w' w : World} {g j : Nat} {v : Value} (h : UpB w0 w' w) (hg : w0.heap.size ≤ g) : UpB w0 w' (w.setCell ⟨g, j, none⟩ v) := fun x => below_set (h x) hg
theorem hb_ {w0 w' w : World} (h : Aside0 (Below w0.heap.size w0 w')) (e : UpB w0 w' w := by (with_reducible repeat (first | exact upb_refl | refine upb_drewN ?_ | refine upb_drew ?_ | refine upb_alloc ?_ | refine upb_set ?_ (Aside0.out (by assumption))))) : Below w0.heap.size w0 w := e h.out
end
end Go.Proofs.YtclcnkmefldpiaaDoorW.PrintLast
namespace Go.Proofs.YtclcnkmefldpiaaDoorW.PrintWords
open Go.RowKit
section
variable {P : Program} {ops : Array Oper} {rest : List Oper} {o : Oper} {a : Act} {Q : Exit → Act → World → Prop}
theorem lit_event {W : World} (hgd : o.guard = none) {N : Tmp} (_hd : o.dst = some N) {cs : Array Value} {t : TypeId} {n : Nat}
    (hrun : (execOp a.eval o).run P W = .ok (.value (.slice (some ⟨W.heap.size, 0, none⟩) n n)) (W.alloc (.cells cs t (0, 0))))
    (h : ∀ g, g = W.heap.size → ∀ w1, w1.heap[g]? = some (.cells cs t (0, 0)) → Below W.heap.size W w1 → wpList P ops Q rest (a.put o.dst (.slice (some ⟨g, 0, none⟩) n n)) w1) : wpList P ops Q (o :: rest) a W :=
  Kd.event_run hgd hrun (h _ rfl _ (blk_new W _) (below_alloc (Below.refl _ _) _))
end
def rowN (n : Nat) (f : Nat → Bool) : Array Value := ((List.range n).map fun i => Value.bool (f i)).toArray
theorem rowN_size (n : Nat) (f : Nat → Bool) : (rowN n f).size = n := by simp [rowN]
theorem rowN_get (n : Nat) (f : Nat → Bool) (i : Nat) (h : i < n) : (rowN n f)[i]? = some (.bool (f i)) := by
  unfold rowN
  rw [List.getElem?_toArray, List.getElem?_map, List.getElem?_range h]
  rfl
theorem rowN_set (n : Nat) (f : Nat → Bool) (c : Nat) (_h : c < n) : (rowN n f).setIfInBounds c (.bool true) = rowN n (fun i => f i || decide (i = c)) := by
  apply Array.ext
  · simp [rowN]
  · intro i h1 h2
    have hi : i < n := by simpa [rowN] using h2
    rw [Array.getElem_setIfInBounds (by rw [rowN_size]; exact hi)]
    simp only [rowN, List.getElem_toArray, List.getElem_map, List.getElem_range]
    by_cases hc : c = i
    · subst hc
      simp
    · rw [if_neg hc, decide_eq_false (Ne.symm hc)]
      simp
end Go.Proofs.YtclcnkmefldpiaaDoorW.PrintWords
namespace Go.Proofs.YtclcnkmefldpiaaDoor.Crc
open Go.RowKit
def poly : Nat := 2197175160
def f (x : Nat) : Nat := (x >>> 1) ^^^ (if x % 2 = 1 then poly else 0)
def it : Nat → Nat → Nat
  | 0, x => x
  | n + 1, x => it n (f x)
def tab : List Int := [0, 274646895, 549293790, 820201905, 1098587580, 1361435347, 1640403810, 1905808397, 2197175160, 2460548119, 2722870694, 2987750089, 3280807620, 3553878443, 3811616794, 4084100981]
def tat (i : Nat) : Int := tab.getD i 0
def half (w : Int) : Int := Go.bits .xor .u32 (w / 16) (tat (Go.bits .and .u32 w 15).toNat)
def step (w c : Int) : Int := half (half (Go.bits .xor .u32 w c))
def g (w : Nat) (l : List UInt8) : Nat := l.foldl (fun w c => it 8 (w ^^^ c.toNat)) w
end Go.Proofs.YtclcnkmefldpiaaDoor.Crc
namespace Go.Proofs
open Go.Shelf
def Tryd.lays137_ren : Go.Shelf.Ren := ⟨fun | 137 => 31 | 217 => 59 | 266 => 70 | n => n, fun | 9 => 9 | 5 => 5 | 3 => 3 | n => n, fun | n => n⟩
theorem Tryd.lays137 : Go.Proofs.Lays.n137 Tryd.prog Tryd.lays137_ren := {
  mixed := by kernel_rfl
  f137 := Tryd.func31.trans (congrArg some (by kernel_rfl))
  f217 := Tryd.func59.trans (congrArg some (by kernel_rfl))
  f266 := Tryd.func70.trans (congrArg some (by kernel_rfl))
  t3 := Tryd.underlying3
  a3 := Tryd.isAgg3
  z3 := Tryd.sizeOf3
  v3 := Tryd.zeroValue3
  t5 := Tryd.underlying5
  a5 := Tryd.isAgg5
  z5 := Tryd.sizeOf5
  v5 := Tryd.zeroValue5
  t9 := Tryd.underlying9
  a9 := Tryd.isAgg9
  z9 := Tryd.sizeOf9
  v9 := Tryd.zeroValue9 }
open Go.RowKit in
theorem Tryd.strings_IndexByte (s : ByteArray) (c : Int) (w : World) :
    Calls Tryd.prog 31 #[.string s, .int .u8 c] w fun e w' => e = .returned (.int .i64 (Lib.indexByte s.data.toList c.toNat.toUInt8)) ∧ w' = w := Any.strings_IndexByte Tryd.lays137 s c w
def Tryd.laysM171_ren : Go.Shelf.Ren := ⟨fun | 171 => 42 | 243 => 64 | 246 => 74 | 283 => 89 | 284 => 90 | 285 => 91 | 286 => 92 | 129 => 103 | 317 => 102 | 318 => 104 | 319 => 105 | 320 => 106 | 337 => 110 | 338 => 111 | n => n, fun | 3 => 3 | 9 => 9 | 2 => 2 | 4 => 4 | 171 => 115 | 0 => 0 | 53 => 98 | 37 => 66 | 5 => 5 | 173 => 118 | 212 => 131 | 51 => 121 | 20 => 20 | 213 => 132 | 46 => 42 | 232 => 142 | 233 => 143 | n => n, fun | 17 => 3 | 18 => 4 | 19 => 5 | n => n⟩
theorem Tryd.laysM171 : Go.Proofs.LaysM.n171 Tryd.prog Tryd.laysM171_ren := {
  mixed := by kernel_rfl
  f129 := Tryd.func103.trans (congrArg some (by kernel_rfl))
  f171 := Tryd.func42.trans (congrArg some (by kernel_rfl))
  f243 := Tryd.func64.trans (congrArg some (by kernel_rfl))
  f246 := Tryd.func74.trans (congrArg some (by kernel_rfl))
  f283 := Tryd.func89.trans (congrArg some (by kernel_rfl))
  f284 := Tryd.func90.trans (congrArg some (by kernel_rfl))
  f285 := Tryd.func91.trans (congrArg some (by kernel_rfl))
  f286 := Tryd.func92.trans (congrArg some (by kernel_rfl))
  f317 := Tryd.func102.trans (congrArg some (by kernel_rfl))
  f318 := Tryd.func104.trans (congrArg some (by kernel_rfl))
  f319 := Tryd.func105.trans (congrArg some (by kernel_rfl))
  f320 := Tryd.func106.trans (congrArg some (by kernel_rfl))
  f337 := Tryd.func110.trans (congrArg some (by kernel_rfl))
  f338 := Tryd.func111.trans (congrArg some (by kernel_rfl))
  t0 := Tryd.underlying0
  a0 := Tryd.isAgg0
  z0 := Tryd.sizeOf0
  v0 := Tryd.zeroValue0
  t2 := Tryd.underlying2
  a2 := Tryd.isAgg2
  z2 := Tryd.sizeOf2
  v2 := Tryd.zeroValue2
  t3 := Tryd.underlying3
  a3 := Tryd.isAgg3
  z3 := Tryd.sizeOf3
  v3 := Tryd.zeroValue3
  t4 := Tryd.underlying4
  a4 := Tryd.isAgg4
  z4 := Tryd.sizeOf4
  v4 := Tryd.zeroValue4
  t5 := Tryd.underlying5
  a5 := Tryd.isAgg5
  z5 := Tryd.sizeOf5
  v5 := Tryd.zeroValue5
  t9 := Tryd.underlying9
  a9 := Tryd.isAgg9
  z9 := Tryd.sizeOf9
  v9 := Tryd.zeroValue9
  t20 := Tryd.underlying20
  a20 := Tryd.isAgg20
  z20 := Tryd.sizeOf20
  v20 := Tryd.zeroValue20
  t37 := Tryd.underlying66
  a37 := Tryd.isAgg66
  z37 := Tryd.sizeOf66
  v37 := Tryd.zeroValue66
  t46 := Tryd.underlying42
  a46 := Tryd.isAgg42
  z46 := Tryd.sizeOf42
  v46 := Tryd.zeroValue42
  t51 := Tryd.underlying121
  a51 := Tryd.isAgg121
  z51 := Tryd.sizeOf121
  v51 := Tryd.zeroValue121
  t53 := Tryd.underlying98
  a53 := Tryd.isAgg98
  z53 := Tryd.sizeOf98
  v53 := Tryd.zeroValue98
  t171 := Tryd.underlying115
  a171 := Tryd.isAgg115
  z171 := Tryd.sizeOf115
  v171 := Tryd.zeroValue115
  t173 := Tryd.underlying118
  a173 := Tryd.isAgg118
  z173 := Tryd.sizeOf118
  v173 := Tryd.zeroValue118
  t212 := Tryd.underlying131
  a212 := Tryd.isAgg131
  z212 := Tryd.sizeOf131
  v212 := Tryd.zeroValue131
  t213 := Tryd.underlying132
  a213 := Tryd.isAgg132
  z213 := Tryd.sizeOf132
  t232 := Tryd.underlying142
  a232 := Tryd.isAgg142
  z232 := Tryd.sizeOf142
  v232 := Tryd.zeroValue142
  t233 := Tryd.underlying143
  a233 := Tryd.isAgg143
  z233 := Tryd.sizeOf143
  v233 := Tryd.zeroValue143
  g17 := by kernel_rfl
  g18 := by kernel_rfl
  g19 := by kernel_rfl
  i0 := by kernel_rfl
  i2 := by kernel_rfl
  i3 := by kernel_rfl
  i4 := by kernel_rfl
  i5 := by kernel_rfl
  i9 := by kernel_rfl
  i20 := by kernel_rfl
  i37 := by kernel_rfl
  i46 := by kernel_rfl
  i51 := by kernel_rfl
  i53 := by kernel_rfl
  i171 := by kernel_rfl
  i173 := by kernel_rfl
  i212 := by kernel_rfl
  i232 := by kernel_rfl
  i233 := by kernel_rfl
  m17 := by kernel_rfl
  m18 := by kernel_rfl
  m19 := by kernel_rfl }
open Go.RowKit Go.Sort Go.Lib in
theorem Tryd.strconv_Itoa (n : Int) (h0 : -9223372036854775808 ≤ n) (h1 : n ≤ 9223372036854775807) (w : World) (htab : Lib.TabIs Tryd.prog w "internal/strconv.uint64pow10" .u64 Lib.pow10Tab) :
    Calls Tryd.prog 42 #[.int .i64 n] w fun e w' => e = .returned (.string ⟨(Lib.itoa n).toArray⟩) ∧ ∃ k os, w' = grow (w.drewN k) os := Any.strconv_Itoa Tryd.laysM171 n h0 h1 w htab
def Tryd.laysC245_ren : Go.Shelf.Ren := ⟨fun | 245 => 73 | 279 => 85 | 280 => 86 | 281 => 87 | 282 => 88 | 316 => 100 | 171 => 42 | 205 => 101 | 243 => 64 | 246 => 74 | 283 => 89 | 284 => 90 | 285 => 91 | 286 => 92 | 129 => 103 | 317 => 102 | 318 => 104 | 319 => 105 | 320 => 106 | 337 => 110 | 338 => 111 | n => n, fun | 9 => 9 | 3 => 3 | 75 => 70 | 167 => 110 | 4 => 4 | 168 => 112 | 210 => 128 | 37 => 66 | 0 => 0 | 127 => 97 | 145 => 140 | 143 => 138 | 2 => 2 | 171 => 115 | 53 => 98 | 5 => 5 | 173 => 118 | 212 => 131 | 51 => 121 | 20 => 20 | 213 => 132 | 46 => 42 | 232 => 142 | 233 => 143 | 80 => 73 | n => n, fun | 15 => 1 | 16 => 2 | 17 => 3 | 18 => 4 | 19 => 5 | n => n⟩
theorem Tryd.laysC245 : Go.Proofs.LaysC.n245 Tryd.prog Tryd.laysC245_ren := {
  mixed := by kernel_rfl
  f129 := Tryd.func103.trans (congrArg some (by kernel_rfl))
  f171 := Tryd.func42.trans (congrArg some (by kernel_rfl))
  f205 := Tryd.func101.trans (congrArg some (by kernel_rfl))
  f243 := Tryd.func64.trans (congrArg some (by kernel_rfl))
  f245 := Tryd.func73.trans (congrArg some (by kernel_rfl))
  f246 := Tryd.func74.trans (congrArg some (by kernel_rfl))
  f279 := Tryd.func85.trans (congrArg some (by kernel_rfl))
  f280 := Tryd.func86.trans (congrArg some (by kernel_rfl))
  f281 := Tryd.func87.trans (congrArg some (by kernel_rfl))
  f282 := Tryd.func88.trans (congrArg some (by kernel_rfl))
  f283 := Tryd.func89.trans (congrArg some (by kernel_rfl))
  f284 := Tryd.func90.trans (congrArg some (by kernel_rfl))
  f285 := Tryd.func91.trans (congrArg some (by kernel_rfl))
  f286 := Tryd.func92.trans (congrArg some (by kernel_rfl))
  f316 := Tryd.func100.trans (congrArg some (by kernel_rfl))
  f317 := Tryd.func102.trans (congrArg some (by kernel_rfl))
  f318 := Tryd.func104.trans (congrArg some (by kernel_rfl))
  f319 := Tryd.func105.trans (congrArg some (by kernel_rfl))
  f320 := Tryd.func106.trans (congrArg some (by kernel_rfl))
  f337 := Tryd.func110.trans (congrArg some (by kernel_rfl))
  f338 := Tryd.func111.trans (congrArg some (by kernel_rfl))
  t0 := Tryd.underlying0
  a0 := Tryd.isAgg0
  z0 := Tryd.sizeOf0
  v0 := Tryd.zeroValue0
  t2 := Tryd.underlying2
  a2 := Tryd.isAgg2
  z2 := Tryd.sizeOf2
  v2 := Tryd.zeroValue2
  t3 := Tryd.underlying3
  a3 := Tryd.isAgg3
  z3 := Tryd.sizeOf3
  v3 := Tryd.zeroValue3
  t4 := Tryd.underlying4
  a4 := Tryd.isAgg4
  z4 := Tryd.sizeOf4
  v4 := Tryd.zeroValue4
  t5 := Tryd.underlying5
  a5 := Tryd.isAgg5
  z5 := Tryd.sizeOf5
  v5 := Tryd.zeroValue5
  t9 := Tryd.underlying9
  a9 := Tryd.isAgg9
  z9 := Tryd.sizeOf9
  v9 := Tryd.zeroValue9
  t20 := Tryd.underlying20
  a20 := Tryd.isAgg20
  z20 := Tryd.sizeOf20
  v20 := Tryd.zeroValue20
  t37 := Tryd.underlying66
  a37 := Tryd.isAgg66
  z37 := Tryd.sizeOf66
  v37 := Tryd.zeroValue66
  t46 := Tryd.underlying42
  a46 := Tryd.isAgg42
  z46 := Tryd.sizeOf42
  v46 := Tryd.zeroValue42
  t51 := Tryd.underlying121
  a51 := Tryd.isAgg121
  z51 := Tryd.sizeOf121
  v51 := Tryd.zeroValue121
  t53 := Tryd.underlying98
  a53 := Tryd.isAgg98
  z53 := Tryd.sizeOf98
  v53 := Tryd.zeroValue98
  t75 := Tryd.underlying70
  a75 := Tryd.isAgg70
  z75 := Tryd.sizeOf70
  v75 := Tryd.zeroValue70
  t127 := Tryd.underlying97
  a127 := Tryd.isAgg97
  z127 := Tryd.sizeOf97
  v127 := Tryd.zeroValue97
  t143 := Tryd.underlying138
  a143 := Tryd.isAgg138
  z143 := Tryd.sizeOf138
  v143 := Tryd.zeroValue138
  t145 := Tryd.underlying140
  a145 := Tryd.isAgg140
  z145 := Tryd.sizeOf140
  v145 := Tryd.zeroValue140
  t167 := Tryd.underlying110
  a167 := Tryd.isAgg110
  z167 := Tryd.sizeOf110
  v167 := Tryd.zeroValue110
  t168 := Tryd.underlying112
  a168 := Tryd.isAgg112
  z168 := Tryd.sizeOf112
  v168 := Tryd.zeroValue112
  t171 := Tryd.underlying115
  a171 := Tryd.isAgg115
  z171 := Tryd.sizeOf115
  v171 := Tryd.zeroValue115
  t173 := Tryd.underlying118
  a173 := Tryd.isAgg118
  z173 := Tryd.sizeOf118
  v173 := Tryd.zeroValue118
  t210 := Tryd.underlying128
  a210 := Tryd.isAgg128
  z210 := Tryd.sizeOf128
  v210 := Tryd.zeroValue128
  t212 := Tryd.underlying131
  a212 := Tryd.isAgg131
  z212 := Tryd.sizeOf131
  v212 := Tryd.zeroValue131
  t213 := Tryd.underlying132
  a213 := Tryd.isAgg132
  z213 := Tryd.sizeOf132
  t232 := Tryd.underlying142
  a232 := Tryd.isAgg142
  z232 := Tryd.sizeOf142
  v232 := Tryd.zeroValue142
  t233 := Tryd.underlying143
  a233 := Tryd.isAgg143
  z233 := Tryd.sizeOf143
  v233 := Tryd.zeroValue143
  g15 := by kernel_rfl
  g16 := by kernel_rfl
  g17 := by kernel_rfl
  g18 := by kernel_rfl
  g19 := by kernel_rfl
  t80 := Tryd.underlying73
  a80 := Tryd.isAgg73
  z80 := Tryd.sizeOf73
  v80 := Tryd.zeroValue73
  i0 := by kernel_rfl
  i2 := by kernel_rfl
  i3 := by kernel_rfl
  i4 := by kernel_rfl
  i5 := by kernel_rfl
  i9 := by kernel_rfl
  i20 := by kernel_rfl
  i37 := by kernel_rfl
  i46 := by kernel_rfl
  i51 := by kernel_rfl
  i53 := by kernel_rfl
  i75 := by kernel_rfl
  i80 := by kernel_rfl
  i127 := by kernel_rfl
  i143 := by kernel_rfl
  i145 := by kernel_rfl
  i167 := by kernel_rfl
  i168 := by kernel_rfl
  i171 := by kernel_rfl
  i173 := by kernel_rfl
  i210 := by kernel_rfl
  i212 := by kernel_rfl
  i232 := by kernel_rfl
  i233 := by kernel_rfl
  m15 := by kernel_rfl
  m16 := by kernel_rfl
  m17 := by kernel_rfl
  m18 := by kernel_rfl
  m19 := by kernel_rfl
  c0 := by kernel_rfl
  c2 := by kernel_rfl
  c3 := by kernel_rfl
  c4 := by kernel_rfl
  c5 := by kernel_rfl
  c9 := by kernel_rfl
  c20 := by kernel_rfl
  c37 := by kernel_rfl
  c46 := by kernel_rfl
  c51 := by kernel_rfl
  c53 := by kernel_rfl
  c75 := by kernel_rfl
  c80 := by kernel_rfl
  c127 := by kernel_rfl
  c143 := by kernel_rfl
  c145 := by kernel_rfl
  c167 := by kernel_rfl
  c168 := by kernel_rfl
  c171 := by kernel_rfl
  c173 := by kernel_rfl
  c210 := by kernel_rfl
  c212 := by kernel_rfl
  c213 := by kernel_rfl
  c232 := by kernel_rfl
  c233 := by kernel_rfl }
open Go.RowKit in
theorem Tryd.strconv_toError_syntax (fn s : ByteArray) (base bits : Int) (ev : Value) (w : World) (hlim : s.size ≤ 281474976710656) (hv : w.cell? ⟨1, 0, none⟩ = some ev) (hev : ev = .nilIface ∨ ∃ te pe, ev = .iface te pe) :
    Calls Tryd.prog 73 #[.string fn, .string s, .int .i64 base, .int .i64 bits, .iface 110 (.int .i64 2)] w fun e w' => ∃ N, e = .returned (.iface 112 (.pointer (some ⟨N, 0, none⟩))) ∧ w.heap.size ≤ N ∧ w'.heap[N]? = some (.cells #[.string fn, .string s, ev] 128 (0, 0)) ∧ Below w.heap.size w w' := Any.strconv_toError_syntax Tryd.laysC245 fn s base bits ev w hlim hv hev
def Tryd.lays321_ren : Go.Shelf.Ren := ⟨fun | 321 => 83 | n => n, fun | 5 => 5 | n => n, fun | n => n⟩
theorem Tryd.lays321 : Go.Proofs.Lays.n321 Tryd.prog Tryd.lays321_ren := {
  mixed := by kernel_rfl
  f321 := Tryd.func83.trans (congrArg some (by kernel_rfl))
  t5 := Tryd.underlying5
  a5 := Tryd.isAgg5
  z5 := Tryd.sizeOf5
  v5 := Tryd.zeroValue5 }
open Go.RowKit in
theorem Tryd.internal_strconv_lower (c : Int) (w : World) :
    Calls Tryd.prog 83 #[.int .u8 c] w fun e w' => e = .returned (.int .u8 (bits .or .u8 c 32)) ∧ w' = w := Any.internal_strconv_lower Tryd.lays321 c w
open Go.RowKit in
theorem Tryd.strconv_toError_range (fn s : ByteArray) (base bits : Int) (ev : Value) (w : World) (hlim : s.size ≤ 281474976710656) (hv : w.cell? ⟨2, 0, none⟩ = some ev) (hev : ev = .nilIface ∨ ∃ te pe, ev = .iface te pe) :
    Calls Tryd.prog 73 #[.string fn, .string s, .int .i64 base, .int .i64 bits, .iface 110 (.int .i64 1)] w fun e w' => ∃ N, e = .returned (.iface 112 (.pointer (some ⟨N, 0, none⟩))) ∧ w.heap.size ≤ N ∧ w'.heap[N]? = some (.cells #[.string fn, .string s, ev] 128 (0, 0)) ∧ Below w.heap.size w w' := Any.strconv_toError_range Tryd.laysC245 fn s base bits ev w hlim hv hev
def Tryd.lays206_ren : Go.Shelf.Ren := ⟨fun | 206 => 99 | n => n, fun | 9 => 9 | 4 => 4 | 3 => 3 | n => n, fun | n => n⟩
theorem Tryd.lays206 : Go.Proofs.Lays.n206 Tryd.prog Tryd.lays206_ren := {
  mixed := by kernel_rfl
  f206 := Tryd.func99.trans (congrArg some (by kernel_rfl))
  t3 := Tryd.underlying3
  a3 := Tryd.isAgg3
  z3 := Tryd.sizeOf3
  v3 := Tryd.zeroValue3
  t4 := Tryd.underlying4
  a4 := Tryd.isAgg4
  z4 := Tryd.sizeOf4
  v4 := Tryd.zeroValue4
  t9 := Tryd.underlying9
  a9 := Tryd.isAgg9
  z9 := Tryd.sizeOf9
  v9 := Tryd.zeroValue9 }
open Go.RowKit Go.Lib in
theorem Tryd.stringslite_HasPrefix (s p : ByteArray) (w : World) :
    Calls Tryd.prog 99 #[.string s, .string p] w fun e w' => e = .returned (.bool (Lib.hasPrefix s.data.toList p.data.toList)) ∧ w' = w := Any.stringslite_HasPrefix Tryd.lays206 s p w
def Tryd.lays99_ren : Go.Shelf.Ren := ⟨fun | 99 => 82 | 206 => 99 | n => n, fun | 9 => 9 | 4 => 4 | 3 => 3 | n => n, fun | n => n⟩
theorem Tryd.lays99 : Go.Proofs.Lays.n99 Tryd.prog Tryd.lays99_ren := {
  mixed := by kernel_rfl
  f99 := Tryd.func82.trans (congrArg some (by kernel_rfl))
  f206 := Tryd.func99.trans (congrArg some (by kernel_rfl))
  t3 := Tryd.underlying3
  a3 := Tryd.isAgg3
  z3 := Tryd.sizeOf3
  v3 := Tryd.zeroValue3
  t4 := Tryd.underlying4
  a4 := Tryd.isAgg4
  z4 := Tryd.sizeOf4
  v4 := Tryd.zeroValue4
  t9 := Tryd.underlying9
  a9 := Tryd.isAgg9
  z9 := Tryd.sizeOf9
  v9 := Tryd.zeroValue9 }
open Go.RowKit Go.Lib in
theorem Tryd.strings_HasPrefix (s p : ByteArray) (w : World) :
    Calls Tryd.prog 82 #[.string s, .string p] w fun e w' => e = .returned (.bool (Lib.hasPrefix s.data.toList p.data.toList)) ∧ w' = w := Any.strings_HasPrefix Tryd.lays99 s p w
def Tryd.lays146_ren : Go.Shelf.Ren := ⟨fun | 146 => 65 | 221 => 75 | 268 => 93 | 138 => 94 | 143 => 95 | 195 => 107 | 197 => 108 | 218 => 109 | 219 => 69 | 260 => 112 | 217 => 59 | 225 => 78 | 224 => 79 | 267 => 80 | 266 => 70 | 314 => 97 | n => n, fun | 9 => 9 | 31 => 96 | 3 => 3 | 4 => 4 | 0 => 0 | 105 => 135 | 21 => 21 | 5 => 5 | 46 => 42 | 119 => 144 | 139 => 147 | 138 => 146 | 146 => 122 | 51 => 121 | n => n, fun | 1 => 0 | 3 => 6 | 4 => 7 | n => n⟩
theorem Tryd.lays146 : Go.Proofs.Lays.n146 Tryd.prog Tryd.lays146_ren := {
  mixed := by kernel_rfl
  f138 := Tryd.func94.trans (congrArg some (by kernel_rfl))
  f143 := Tryd.func95.trans (congrArg some (by kernel_rfl))
  f146 := Tryd.func65.trans (congrArg some (by kernel_rfl))
  f195 := Tryd.func107.trans (congrArg some (by kernel_rfl))
  f197 := Tryd.func108.trans (congrArg some (by kernel_rfl))
  f217 := Tryd.func59.trans (congrArg some (by kernel_rfl))
  f218 := Tryd.func109.trans (congrArg some (by kernel_rfl))
  f219 := Tryd.func69.trans (congrArg some (by kernel_rfl))
  f221 := Tryd.func75.trans (congrArg some (by kernel_rfl))
  f224 := Tryd.func79.trans (congrArg some (by kernel_rfl))
  f225 := Tryd.func78.trans (congrArg some (by kernel_rfl))
  f260 := Tryd.func112.trans (congrArg some (by kernel_rfl))
  f266 := Tryd.func70.trans (congrArg some (by kernel_rfl))
  f267 := Tryd.func80.trans (congrArg some (by kernel_rfl))
  f268 := Tryd.func93.trans (congrArg some (by kernel_rfl))
  f314 := Tryd.func97.trans (congrArg some (by kernel_rfl))
  t0 := Tryd.underlying0
  a0 := Tryd.isAgg0
  z0 := Tryd.sizeOf0
  v0 := Tryd.zeroValue0
  t3 := Tryd.underlying3
  a3 := Tryd.isAgg3
  z3 := Tryd.sizeOf3
  v3 := Tryd.zeroValue3
  t4 := Tryd.underlying4
  a4 := Tryd.isAgg4
  z4 := Tryd.sizeOf4
  v4 := Tryd.zeroValue4
  t5 := Tryd.underlying5
  a5 := Tryd.isAgg5
  z5 := Tryd.sizeOf5
  v5 := Tryd.zeroValue5
  t9 := Tryd.underlying9
  a9 := Tryd.isAgg9
  z9 := Tryd.sizeOf9
  v9 := Tryd.zeroValue9
  t21 := Tryd.underlying21
  a21 := Tryd.isAgg21
  z21 := Tryd.sizeOf21
  v21 := Tryd.zeroValue21
  t31 := Tryd.underlying96
  a31 := Tryd.isAgg96
  z31 := Tryd.sizeOf96
  v31 := Tryd.zeroValue96
  t46 := Tryd.underlying42
  a46 := Tryd.isAgg42
  z46 := Tryd.sizeOf42
  v46 := Tryd.zeroValue42
  t51 := Tryd.underlying121
  a51 := Tryd.isAgg121
  z51 := Tryd.sizeOf121
  v51 := Tryd.zeroValue121
  t105 := Tryd.underlying135
  a105 := Tryd.isAgg135
  z105 := Tryd.sizeOf135
  v105 := Tryd.zeroValue135
  t119 := Tryd.underlying144
  a119 := Tryd.isAgg144
  z119 := Tryd.sizeOf144
  t138 := Tryd.underlying146
  a138 := Tryd.isAgg146
  z138 := Tryd.sizeOf146
  v138 := Tryd.zeroValue146
  t139 := Tryd.underlying147
  a139 := Tryd.isAgg147
  z139 := Tryd.sizeOf147
  v139 := Tryd.zeroValue147
  t146 := Tryd.underlying122
  a146 := Tryd.isAgg122
  z146 := Tryd.sizeOf122
  v146 := Tryd.zeroValue122
  g1 := by kernel_rfl
  g3 := by kernel_rfl
  g4 := by kernel_rfl }
open Go.RowKit Go.Lib in
theorem Tryd.strings_Split (s sep : ByteArray) (m : Int) (w : World) (hs : s.size < 4294967281) (hm : w.cell? ⟨0, 0, none⟩ = some (.int .i64 m)) (h1 : 1 ≤ sep.size) :
    Calls Tryd.prog 65 #[.string s, .string sep] w fun e w' =>
      e = .returned (.slice (some ⟨w.heap.size, 0, none⟩) (Lib.countB s sep + 1) (Lib.countB s sep + 1)) ∧ w' = w.alloc (.cells ((Lib.splitB sep 0 (Lib.countB s sep) s).map Value.string).toArray 9) := Any.strings_Split Tryd.lays146 (by kernel_rfl) s sep m w hs hm h1
end Go.Proofs
namespace Go.Proofs.YtclcnkmefldpiaaDoor.P
open Go.RowKit Go.Proofs.YtclcnkmefldpiaaDoorW.PrintWords Go.Proofs.YtclcnkmefldpiaaDoorW.PrintLast Go.Proofs.YtclcnkmefldpiaaDoorW.PrintMore
attribute [local go_sem] max2_int min2_int max_two min_two max_three min_three max_four min_four   -- for this text's walks alone
set_option linter.unusedVariables false
set_option linter.unusedSimpArgs false
set_option linter.unnecessarySimpa false
def errW : Option Int → Value
  | none => .nilIface
  | some c => .iface 0 (.int .i64 c)
theorem errW_none : errW none = .nilIface := rfl
theorem errW_some (c : Int) : errW (some c) = .iface 0 (.int .i64 c) := rfl
theorem info45 : (Tryd.prog.info? 45).map (fun i => (i.zero, i.size, i.bytes)) = some (some (.agg #[(.string ⟨#[]⟩), (.string ⟨#[]⟩)]), 2, 32) := by kernel_rfl
structure S45 where
  f0 : ByteArray
  f1 : ByteArray
def z45 : S45 := ⟨(⟨#[]⟩ : ByteArray), (⟨#[]⟩ : ByteArray)⟩
def k45 : Kd S45 := Kd.iso (Kd.pair Kd.string Kd.string) (fun x : S45 => (x.f0, x.f1))
theorem k45_open {w : World} {x : S45} {cs : List Value} (h : k45.K w x cs) : cs = [.string x.f0, .string x.f1] := by
  obtain ⟨_, _, rfl, rfl, rfl⟩ := h
  exact rfl
theorem k45_mkM (w : World) (base : Nat) (ok : Nat → Prop) (x : S45)  : k45.M w base ok x [.string x.f0, .string x.f1] := ⟨[.string x.f0], [.string x.f1], rfl, rfl, rfl⟩
def rd_T45 (xs : List S45) (i : Int) : S45 := xs.getD i.toNat z45
theorem at_T45 {w : World} {A : Option Addr} {n : Nat} {xs : List S45} (h : Kd.C k45 w A n xs) (i : Int) (h0 : 0 ≤ i) (h1 : i < n) : ∃ ad , A = some ad ∧ w.cell? (ad.add (i.toNat * 2)) = some (.string (rd_T45 xs i).f0) ∧ w.cell? ⟨(ad.add (i.toNat * 2)).block, (ad.add (i.toNat * 2)).off + 1, none⟩ = some (.string (rd_T45 xs i).f1) := by
  obtain ⟨ad, c, e, _, hK, hc0⟩ := Kd.C_get h z45 i h0 h1
  have hc : ∀ j u, c[j]? = some u → w.cell? (ad.add (i.toNat * 2 + j)) = some u := hc0
  obtain rfl := k45_open hK
  exact ⟨ad, e, hc 0 _ rfl, by rw [← add_field _ _ 1 (by omega)]; exact hc 1 _ rfl⟩
structure S23 where
  f0 : Bool
  f1 : Bool
  f2 : Bool
  f3 : Bool
  f4 : Int
  f5 : Int
  f6 : ByteArray
  f7 : ByteArray
def k23 : Kd S23 := Kd.iso (Kd.pair Kd.bool (Kd.pair Kd.bool (Kd.pair Kd.bool (Kd.pair Kd.bool (Kd.pair (Kd.int .i64) (Kd.pair (Kd.int .i64) (Kd.pair Kd.string Kd.string))))))) (fun x : S23 => (x.f0, x.f1, x.f2, x.f3, x.f4, x.f5, x.f6, x.f7))
theorem k23_open {w : World} {x : S23} {cs : List Value} (h : k23.K w x cs) : cs = [.bool x.f0, .bool x.f1, .bool x.f2, .bool x.f3, .int .i64 x.f4, .int .i64 x.f5, .string x.f6, .string x.f7] := by
  obtain ⟨_, _, rfl, rfl, ⟨_, _, rfl, rfl, ⟨_, _, rfl, rfl, ⟨_, _, rfl, rfl, ⟨_, _, rfl, rfl, ⟨_, _, rfl, rfl, ⟨_, _, rfl, rfl, rfl⟩⟩⟩⟩⟩⟩⟩ := h
  exact rfl
def G_internal_bytealg_MaxLen (w : World) : Prop := ∃ m : Int, w.cell? ⟨0, 0, none⟩ = some (.int .i64 m)
theorem G_internal_bytealg_MaxLen.keep {w w' : World} (h : G_internal_bytealg_MaxLen w) (hb : Below w.heap.size w w') : G_internal_bytealg_MaxLen w' := by
  obtain ⟨m, h⟩ := h
  exact ⟨m, (hb.cell (World.block_lt_of_cell? w _ h)).trans h⟩
def G_strconv_ErrSyntax (w : World) : Prop := ∃ ev : Value, w.cell? ⟨1, 0, none⟩ = some ev ∧ (ev = .nilIface ∨ ∃ te pe, ev = .iface te pe)
theorem G_strconv_ErrSyntax.keep {w w' : World} (h : G_strconv_ErrSyntax w) (hb : Below w.heap.size w w') : G_strconv_ErrSyntax w' := by
  obtain ⟨ev, h, he⟩ := h
  exact ⟨ev, (hb.cell (World.block_lt_of_cell? w _ h)).trans h, he⟩
def G_strconv_ErrRange (w : World) : Prop := ∃ ev : Value, w.cell? ⟨2, 0, none⟩ = some ev ∧ (ev = .nilIface ∨ ∃ te pe, ev = .iface te pe)
theorem G_strconv_ErrRange.keep {w w' : World} (h : G_strconv_ErrRange w) (hb : Below w.heap.size w w') : G_strconv_ErrRange w' := by
  obtain ⟨ev, h, he⟩ := h
  exact ⟨ev, (hb.cell (World.block_lt_of_cell? w _ h)).trans h, he⟩
def G_internal_strconv_uint64pow10 (w : World) : Prop := Go.Lib.TabIs Tryd.prog w "internal/strconv.uint64pow10" .u64 Go.Lib.pow10Tab
theorem G_internal_strconv_uint64pow10.keep {w w' : World} (h : G_internal_strconv_uint64pow10 w) (hb : Below w.heap.size w w') : G_internal_strconv_uint64pow10 w' := by
  unfold G_internal_strconv_uint64pow10 Go.Lib.TabIs World.var? at h ⊢
  obtain ⟨g, hg, h⟩ := Option.bind_eq_some_iff.mp h
  rw [hg]
  show (match w'.heap[g]? with | some (.cells cs _ _) => some cs | _ => none) = _
  have hlt : g < w.heap.size := by
    by_cases hx : g < w.heap.size
    · exact hx
    · rw [Array.getElem?_eq_none (Nat.le_of_not_lt hx)] at h
      cases h
  rw [hb.block g hlt]
  exact h
def Glob (w : World) : Prop := G_internal_bytealg_MaxLen w ∧ G_strconv_ErrSyntax w ∧ G_strconv_ErrRange w ∧ G_internal_strconv_uint64pow10 w
theorem Glob.internal_bytealg_MaxLen {w : World} (h : Glob w) : G_internal_bytealg_MaxLen w := h.1
theorem Glob.strconv_ErrSyntax {w : World} (h : Glob w) : G_strconv_ErrSyntax w := h.2.1
theorem Glob.strconv_ErrRange {w : World} (h : Glob w) : G_strconv_ErrRange w := h.2.2.1
theorem Glob.internal_strconv_uint64pow10 {w : World} (h : Glob w) : G_internal_strconv_uint64pow10 w := h.2.2.2
theorem Glob.keep {w w1 : World} (h : Glob w) (hb : Below w.heap.size w w1) : Glob w1 := ⟨h.1.keep hb, h.2.1.keep hb, h.2.2.1.keep hb, h.2.2.2.keep hb⟩
end Go.Proofs.YtclcnkmefldpiaaDoor.P
namespace Go.Proofs.YtclcnkmefldpiaaDoor.P
open Go.RowKit Go.Proofs.YtclcnkmefldpiaaDoorW.PrintWords Go.Proofs.YtclcnkmefldpiaaDoorW.PrintLast Go.Proofs.YtclcnkmefldpiaaDoorW.PrintMore
attribute [local go_sem] max2_int min2_int max_two min_two max_three min_three max_four min_four   -- for this text's walks alone
set_option linter.unusedVariables false
set_option linter.unusedSimpArgs false
set_option linter.unnecessarySimpa false
def headgatelaw21_Large.l0 : Nat → List (S45) → Int → Option (Bool)
  | 0, _, _ => none
  | k + 1, x0, x3 => if x3 < (x0.length : Int) then (if 0 ≤ x3 then (if (((rd_T45 x0 x3).f0).size : Int) > 1000 then (some true) else (if (((rd_T45 x0 x3).f1).size : Int) > 1000 then (some true) else (headgatelaw21_Large.l0 k x0 (wrap64 (x3 + 1))))) else (none)) else (some false)
def headgatelaw21_Large.f (k : Nat) (l0 : List (S45)) : Option (Bool) := if (l0.length : Int) > 100 then (some true) else (headgatelaw21_Large.l0 k l0 0)
theorem headgatelaw21_Large.mono_l : ∀ k, (∀ y0 y1, LeO (headgatelaw21_Large.l0 k y0 y1) (headgatelaw21_Large.l0 (k + 1) y0 y1))
  | 0 => fun _ _ r h => by simp [headgatelaw21_Large.l0] at h
  | k + 1 => by
    have ih0 := headgatelaw21_Large.mono_l k
    · intro y0 y1
      unfold headgatelaw21_Large.l0
      repeat' first
      | (with_reducible exact ih0 _ _)
      | (with_reducible exact LeO.refl _)
      | (with_reducible exact LeO.none _)
      | (with_reducible refine LeO.ite ?_ ?_)
      | (with_reducible refine LeO.bind ?_ (fun _ => ?_))
      | exact ih0 _ _
      | exact LeO.none _
      | refine LeO.ite ?_ ?_
      | refine LeO.bind ?_ (fun _ => ?_)
theorem headgatelaw21_Large.mono : ∀ a0 k, LeO (headgatelaw21_Large.f k a0) (headgatelaw21_Large.f (k + 1) a0) := by
  intro a0 k
  have ih0 := headgatelaw21_Large.mono_l k
  unfold headgatelaw21_Large.f
  repeat' first
      | (with_reducible exact ih0 _ _)
      | (with_reducible exact LeO.refl _)
      | (with_reducible exact LeO.none _)
      | (with_reducible refine LeO.ite ?_ ?_)
      | (with_reducible refine LeO.bind ?_ (fun _ => ?_))
      | exact ih0 _ _
      | exact LeO.none _
      | refine LeO.ite ?_ ?_
      | refine LeO.bind ?_ (fun _ => ?_)
set_option maxHeartbeats 8000000 in
set_option maxRecDepth 100000 in
theorem headgatelaw21_Large.calls (k : Nat) (A0 : Option Addr) (c0 : Nat) (l0 : List (S45)) (r : Bool) (w : World) (hr0 : Kd.C k45 w A0 l0.length l0) (hc0 : l0.length ≤ c0) (h : headgatelaw21_Large.f k l0 = some r) :
    Calls Tryd.prog 8 #[.slice A0 l0.length c0] w fun e w' => e = .returned (.bool r) ∧ Drawn0 w w' := by
  have HR0 := Aside0.mk hr0
  have HC0 := Aside0.mk hc0
  clear hr0 hc0
  have H : (if (l0.length : Int) > 100 then (some true) else (headgatelaw21_Large.l0 k l0 0)) = some r := h
  clear h
  by_cases c2 : (l0.length : Int) > 100
  · rw [if_pos c2] at H
    have c2b0 : decide (100 < (l0.length : Int)) = true := decide_eq_true c2
    have c2b1 : decide (100 < l0.length) = true := decide_eq_true (by omega)
    clear c2
    obtain rfl := Option.some.inj H
    go_enter Tryd.func8, Tryd.ntmps8
    go_wp2
    go_ret
    exact ⟨by first | rfl | (simp; done) | (simp [*]; done), by repeat (first | exact Drawn0.refl _ | apply Drawn0.step)⟩
  · rw [if_neg c2] at H
    have c2b0 : decide (100 < (l0.length : Int)) = false := decide_eq_false c2
    have c2b1 : decide (100 < l0.length) = false := decide_eq_false (by omega)
    clear c2
    have H' := Aside0.mk H
    clear H
    go_enter Tryd.func8, Tryd.ntmps8
    go_wp2
    go_loopg [3] k (fun kq v3 w' => ∃ (x3_1 : Int), v3 = .int .i64 x3_1 ∧ Aside0 (headgatelaw21_Large.l0 kq l0 x3_1 = some r) ∧ Aside0 (kq ≤ k) ∧ Drawn0 w w')
    case atStart => exact ⟨(0), (by first | rfl | (simp; done) | (simp [*]; done)), H', ⟨Nat.le_refl _⟩, by repeat (first | exact Drawn0.refl _ | apply Drawn0.step)⟩
    case round =>
      clear H'
      try clear c2
      try clear c2b0
      try clear c2b1
      try clear p2
      obtain ⟨x3_1, rfl, HA, HK1, ⟨m1, rfl⟩⟩ := hrel
      cases gk with
      | zero => exact absurd HA.out (by simp [headgatelaw21_Large.l0])
      | succ k1 =>
        have H := HA.out
        clear HA
        simp only [headgatelaw21_Large.l0] at H
        by_cases c3 : x3_1 < (l0.length : Int)
        · rw [if_pos c3] at H
          have c3b0 : decide (x3_1 < (l0.length : Int)) = true := decide_eq_true c3
          clear c3
          by_cases c4 : 0 ≤ x3_1
          · rw [if_pos c4] at H
            have c4b0 : decide (0 ≤ x3_1) = true := decide_eq_true c4
            clear c4
            by_cases c5 : (((rd_T45 l0 x3_1).f0).size : Int) > 1000
            · rw [if_pos c5] at H
              have c5b0 : decide (1000 < (((rd_T45 l0 x3_1).f0).size : Int)) = true := decide_eq_true c5
              have c5b1 : decide (1000 < ((rd_T45 l0 x3_1).f0).size) = true := decide_eq_true (by omega)
              clear c5
              obtain rfl := Option.some.inj H
              have p101 : 0 ≤ (x3_1 : Int) := of_decide_eq_true (by first | (with_reducible assumption) | assumption)
              have q101 : x3_1 < (l0.length : Int) := of_decide_eq_true (by first | (with_reducible assumption) | assumption)
              obtain ⟨ad101, e101, hx101_0, hx101_1⟩ := at_T45 HR0.out x3_1 p101 q101
              cases e101
              replace p101 := eq_true p101
              replace q101 := eq_true q101
              go_wp2
              go_ret
              exact ⟨by first | rfl | (simp; done) | (simp [*]; done), by repeat (first | exact Drawn0.refl _ | apply Drawn0.step)⟩
            · rw [if_neg c5] at H
              have c5b0 : decide (1000 < (((rd_T45 l0 x3_1).f0).size : Int)) = false := decide_eq_false c5
              have c5b1 : decide (1000 < ((rd_T45 l0 x3_1).f0).size) = false := decide_eq_false (by omega)
              clear c5
              by_cases c6 : (((rd_T45 l0 x3_1).f1).size : Int) > 1000
              · rw [if_pos c6] at H
                have c6b0 : decide (1000 < (((rd_T45 l0 x3_1).f1).size : Int)) = true := decide_eq_true c6
                have c6b1 : decide (1000 < ((rd_T45 l0 x3_1).f1).size) = true := decide_eq_true (by omega)
                clear c6
                obtain rfl := Option.some.inj H
                have p101 : 0 ≤ (x3_1 : Int) := of_decide_eq_true (by first | (with_reducible assumption) | assumption)
                have q101 : x3_1 < (l0.length : Int) := of_decide_eq_true (by first | (with_reducible assumption) | assumption)
                obtain ⟨ad101, e101, hx101_0, hx101_1⟩ := at_T45 HR0.out x3_1 p101 q101
                cases e101
                replace p101 := eq_true p101
                replace q101 := eq_true q101
                have p102 : 0 ≤ (x3_1 : Int) := of_decide_eq_true (by first | (with_reducible assumption) | assumption)
                have q102 : x3_1 < (l0.length : Int) := of_decide_eq_true (by first | (with_reducible assumption) | assumption)
                obtain ⟨ad102, e102, hx102_0, hx102_1⟩ := at_T45 HR0.out x3_1 p102 q102
                obtain rfl : ad101 = ad102 := (by injection e102)
                replace p102 := eq_true p102
                replace q102 := eq_true q102
                go_wp2
                go_ret
                exact ⟨by first | rfl | (simp; done) | (simp [*]; done), by repeat (first | exact Drawn0.refl _ | apply Drawn0.step)⟩
              · rw [if_neg c6] at H
                have c6b0 : decide (1000 < (((rd_T45 l0 x3_1).f1).size : Int)) = false := decide_eq_false c6
                have c6b1 : decide (1000 < ((rd_T45 l0 x3_1).f1).size) = false := decide_eq_false (by omega)
                clear c6
                have H' := Aside0.mk H
                clear H
                have p101 : 0 ≤ (x3_1 : Int) := of_decide_eq_true (by first | (with_reducible assumption) | assumption)
                have q101 : x3_1 < (l0.length : Int) := of_decide_eq_true (by first | (with_reducible assumption) | assumption)
                obtain ⟨ad101, e101, hx101_0, hx101_1⟩ := at_T45 HR0.out x3_1 p101 q101
                cases e101
                replace p101 := eq_true p101
                replace q101 := eq_true q101
                have p102 : 0 ≤ (x3_1 : Int) := of_decide_eq_true (by first | (with_reducible assumption) | assumption)
                have q102 : x3_1 < (l0.length : Int) := of_decide_eq_true (by first | (with_reducible assumption) | assumption)
                obtain ⟨ad102, e102, hx102_0, hx102_1⟩ := at_T45 HR0.out x3_1 p102 q102
                obtain rfl : ad101 = ad102 := (by injection e102)
                replace p102 := eq_true p102
                replace q102 := eq_true q102
                go_wp2
                go_roundg k1
                case measure => have := HK1.out; omega
                case rel => exact ⟨(wrap64 (x3_1 + 1)), (by first | rfl | (simp; done) | (simp [*]; done)), H', ⟨by have := HK1.out; omega⟩, by repeat (first | exact Drawn0.refl _ | apply Drawn0.step)⟩
          · rw [if_neg c4] at H
            exact absurd H (by simp)
        · rw [if_neg c3] at H
          have c3b0 : decide (x3_1 < (l0.length : Int)) = false := decide_eq_false c3
          clear c3
          obtain rfl := Option.some.inj H
          go_wp2
          go_ret
          exact ⟨by first | rfl | (simp; done) | (simp [*]; done), by repeat (first | exact Drawn0.refl _ | apply Drawn0.step)⟩
def keyC (c : UInt8) : Bool := decide (97 ≤ c.toNat ∧ c.toNat ≤ 122) || decide (65 ≤ c.toNat ∧ c.toNat ≤ 90) || decide (48 ≤ c.toNat ∧ c.toNat ≤ 57) || decide (0 ≤ Go.Lib.indexByte [46, 45, 43, 64, 95] c)
def keyB (s : ByteArray) : Bool := decide (1 ≤ s.size) && decide (s.size ≤ 63) && s.data.toList.all keyC
def keys_key.f (a0 : ByteArray) : Option Bool := some (keyB a0)
theorem byte_at (s : ByteArray) (i : Nat) (h : i < s.size) : s[i] = s.data.toList[i]'(by simpa using h) := rfl
theorem take_one {α : Type} (p : α → Bool) (l : List α) (k : Nat) (h : k < l.length) {b : Bool} (hn : ∀ x ∈ l.take k, p x = b) (hk : p l[k] = b) : ∀ x ∈ l.take (k + 1), p x = b := by
  intro x hx
  rw [List.take_succ_eq_append_getElem h] at hx
  rcases List.mem_append.mp hx with hx | hx
  · exact hn x hx
  · rw [List.mem_singleton.mp hx]
    exact hk
set_option maxHeartbeats 8000000 in
set_option maxRecDepth 100000 in
theorem key_walk (s : ByteArray) (w : World) (h1 : 1 ≤ s.size) (h2 : s.size ≤ 63) :
    Calls Tryd.prog 30 #[.string s] w fun e w' => e = .returned (.bool (s.data.toList.all keyC)) ∧ Drawn0 w w' := by
  have i1 : (1 : Int) ≤ s.size := by omega
  have i2 : (s.size : Int) ≤ 63 := by omega
  obtain ⟨V, hV⟩ : ∃ V, s.data.toList.all keyC = V := ⟨_, rfl⟩
  rw [hV]
  have HV := Aside0.mk hV
  clear hV
  go_enter Tryd.func30, Tryd.ntmps30
  go_wp2
  go_loop [15] (fun vi => ∃ i : Nat, vi = .int .i64 i ∧ i ≤ s.size ∧ Aside0 (∀ c ∈ s.data.toList.take i, keyC c = true)) (fun vi => s.size - (intOf vi).toNat)
  case atStart => exact ⟨0, rfl, by omega, ⟨by intro x hx; cases hx⟩⟩
  case round =>
    obtain ⟨i, rfl, hi, hn⟩ := hrel
    by_cases hlt : i < s.size
    · have hil : i < s.data.toList.length := by simpa using hlt
      obtain ⟨c, hc⟩ : ∃ c, s[i] = c := ⟨_, rfl⟩
      have hc256 : c.toNat < 256 := c.toNat_lt
      have HC := Aside0.mk ((byte_at s i hlt).symm.trans hc)
      have e0 : ((c.toNat : Int)).toNat.toUInt8 = c := by simp
      obtain ⟨x, hx⟩ : ∃ x : Int, Go.Lib.indexByte [46, 45, 43, 64, 95] c = x := ⟨_, rfl⟩
      have HX := Aside0.mk hx
      have E0 := Aside0.mk e0
      clear hx e0
      go_wp2_with (go_at_call 31; refine (Tryd.strings_IndexByte _ _ _).mono ?_; rintro e w' ⟨rfl, rfl⟩; rw [show (c.toNat : Int).toNat.toUInt8 = c from E0.out, HX.out])
      all_goals first
        | (refine ⟨⟨i + 1, by go_num, by omega, ⟨take_one keyC _ i hil hn.out ?_⟩⟩, by simp [intOf]; omega⟩
           rw [HC.out]; unfold keyC; simp only [Bool.or_eq_true, decide_eq_true_eq]; rw [HX.out]; omega)
        | (have hno : keyC c = false := by
             unfold keyC; simp only [Bool.or_eq_false_iff, decide_eq_false_iff_not]; rw [HX.out]; omega
           have hall : s.data.toList.all keyC = false := List.all_eq_false.mpr ⟨c, by rw [← HC.out]; exact List.getElem_mem _, by rw [hno]; decide⟩
           have hv := HV.out.symm.trans hall
           have HVV := Aside0.mk hv
           clear hno hall hv
           go_ret
           exact ⟨by rw [HVV.out]; rfl, Drawn0.refl _⟩)
    · have hall : s.data.toList.all keyC = true := List.all_eq_true.mpr fun c hc => hn.out c (by rwa [List.take_of_length_le (by have : s.data.toList.length = s.size := rfl; omega)])
      have hv := HV.out.symm.trans hall
      have HVV := Aside0.mk hv
      clear hall hv
      go_wp2
      go_ret
      exact ⟨by rw [HVV.out]; rfl, Drawn0.refl _⟩
set_option maxHeartbeats 8000000 in
set_option maxRecDepth 100000 in
theorem key_not (s : ByteArray) (w : World) (h : s.size < 1 ∨ 63 < s.size) :
    Calls Tryd.prog 30 #[.string s] w fun e w' => e = .returned (.bool false) ∧ Drawn0 w w' := by
  rcases h with h | h
  · have i1 : (s.size : Int) < 1 := by omega
    go_enter Tryd.func30, Tryd.ntmps30
    go_wp2
    go_ret
    exact ⟨rfl, Drawn0.refl _⟩
  · have i1 : (63 : Int) < s.size := by omega
    have i2 : (1 : Int) ≤ s.size := by omega
    go_enter Tryd.func30, Tryd.ntmps30
    go_wp2
    go_ret
    exact ⟨rfl, Drawn0.refl _⟩
theorem keys_key.calls (a0 : ByteArray) (r : Bool) (w : World) (h : keys_key.f a0 = some r) :
    Calls Tryd.prog 30 #[.string a0] w fun e w' => e = .returned (.bool r) ∧ Drawn0 w w' := by
  obtain rfl := Option.some.inj h
  unfold keyB
  by_cases h1 : 1 ≤ a0.size
  · by_cases h2 : a0.size ≤ 63
    · rw [decide_eq_true h1, decide_eq_true h2]
      exact key_walk a0 w h1 h2
    · rw [decide_eq_false h2, Bool.and_false, Bool.false_and]
      exact key_not a0 w (Or.inr (by omega))
  · rw [decide_eq_false h1, Bool.false_and, Bool.false_and]
    exact key_not a0 w (Or.inl (by omega))
def keyIn (l : List S45) (s : ByteArray) : Bool := l.any fun q => q.f0.toList == s.toList
def pairB (p : S45) : Bool := keyB p.f0 && decide (p.f1.size ≤ 255) && decide (Go.Lib.indexByte p.f1.data.toList 0 < 0)
def goodL (l : List S45) : List S45 → Bool
  | [] => true
  | p :: r => !keyIn l p.f0 && pairB p && goodL (l ++ [p]) r
def goodB (l : List S45) : Bool := decide (l.length ≤ 16) && goodL [] l
def smallB (l : List S45) : Bool := l.all fun p => decide (p.f0.size ≤ 1000000) && decide (p.f1.size ≤ 1000000)
def keys_good.f (l0 : List S45) : Option Bool := if smallB l0 = true then some (goodB l0) else none
theorem small_at {l : List S45} (h : smallB l = true) (i : Nat) (hi : i < l.length) : l[i].f0.size ≤ 1000000 ∧ l[i].f1.size ≤ 1000000 := by
  have h := List.all_eq_true.mp h _ (List.getElem_mem hi)
  simpa using h
theorem keyIn_snoc (l : List S45) (p : S45) (s : ByteArray) : keyIn (l ++ [p]) s = (keyIn l s || p.f0.toList == s.toList) := by
  unfold keyIn
  rw [List.any_append]
  simp
def Met (D : DataW Nat) (l : List S45) : Prop := Maps.IsMap D ∧ ∀ s : ByteArray, D.atKey (.string s.data.toList) (.lit (.int .i64 0)) = .lit (.int .i64 (if keyIn l s = true then 1 else 0))
theorem met_nil : Met (.map []) [] := ⟨⟨_, rfl⟩, fun _ => rfl⟩
theorem key_lit (s : ByteArray) : WideAt.IsKeyLit (.string s.data.toList) := by unfold WideAt.IsKeyLit; trivial
theorem toList_data (s t : ByteArray) : s.toList = t.toList ↔ s.data.toList = t.data.toList := by rw [ByteArray.toList_eq, ByteArray.toList_eq]
theorem met_snoc {D : DataW Nat} {l : List S45} (h : Met D l) (p : S45) : Met (D.put (.string p.f0.data.toList) (.lit (.int .i64 1))) (l ++ [p]) := by
  refine ⟨h.1.put _ _, fun s => ?_⟩
  rw [keyIn_snoc]
  by_cases e : s.data.toList = p.f0.data.toList
  · rw [e, Maps.atKey_put_same h.1 (key_lit _)]
    have : (p.f0.toList == s.toList) = true := beq_iff_eq.mpr ((toList_data _ _).mpr e.symm)
    rw [this, Bool.or_true, if_pos rfl]
  · rw [Maps.atKey_put_other (fun z => e (by injection z)), h.2 s]
    have : (p.f0.toList == s.toList) = false := beq_eq_false_iff_ne.mpr fun z => e ((toList_data _ _).mp z).symm
    rw [this, Bool.or_false]
theorem met_c {D : DataW Nat} {l : List S45} {s : ByteArray} {c : Int} (h : Met D l) (hat : D.atKey (.string s.data.toList) (.lit (.int .i64 0)) = .lit (.int .i64 c)) : c = if keyIn l s = true then 1 else 0 := by
  have h1 := (h.2 s).symm.trans hat
  injection h1 with h1
  injection h1 with _ h1
  exact h1.symm
theorem goodL_snoc (p : S45) (l r : List S45) : goodL l (p :: r) = (!keyIn l p.f0 && pairB p && goodL (l ++ [p]) r) := rfl
theorem rd_pair (l : List S45) (j : Nat) (hj : j < l.length) : rd_T45 l (j : Int) = l[j] := by
  unfold rd_T45
  simp [List.getD, List.getElem?_eq_getElem hj]
set_option maxHeartbeats 8000000 in
set_option maxRecDepth 100000 in
theorem good_walk (A0 : Option Addr) (c0 : Nat) (l : List S45) (w : World) (hr : Kd.C k45 w A0 l.length l) (hc0 : l.length ≤ c0) (h16 : l.length ≤ 16) (hsm : smallB l = true) :
    Calls Tryd.prog 22 #[.slice A0 l.length c0] w fun e w' => e = .returned (.bool (goodL [] l)) ∧ Below w.heap.size w w' := by
  have K : Maps.Keyed Tryd.prog 9 := Maps.string_keyed Tryd.underlying9
  have hmm := @run_makeMap Tryd.prog
  have hz : ∀ w : World, (zeroValue 3).run Tryd.prog w = .ok (.int .i64 0) w := fun w => by kernel_rfl
  have i16 : (l.length : Int) ≤ 16 := by omega
  have HR := Aside0.mk hr
  have HSM := Aside0.mk hsm
  clear hr hsm
  obtain ⟨V, hV⟩ : ∃ V, goodL [] l = V := ⟨_, rfl⟩
  rw [hV]
  have HV := Aside0.mk hV
  clear hV
  go_enter Tryd.func22, Tryd.ntmps22
  go_wp2
  go_loopw [12] (fun vi wr => ∃ (i : Nat) (D : DataW Nat), vi = .int .i64 i ∧ i ≤ l.length ∧ Aside0 (wr.ownsMap Tryd.prog 9 (plainElem Tryd.prog 3) w.heap.size i D) ∧ Aside0 (Met D (l.take i)) ∧ Aside0 (goodL (l.take i) (l.drop i) = V) ∧ Aside0 (Below w.heap.size w wr)) (fun vi _ => l.length - (intOf vi).toNat)
  case atStart => exact ⟨0, .map [], rfl, by omega, ⟨World.ownsMap_made _ _ _ _⟩, ⟨met_nil⟩, HV, ⟨(Below.refl _ _).alloc (Nat.le_refl _) _⟩⟩
  case round =>
    obtain ⟨i, D, rfl, hi, hO, hM, hL, hB⟩ := hrel
    by_cases hlt : i < l.length
    · obtain ⟨ad, hA, hc1, hc2⟩ := at_T45 (Kd.C_below HR.out hB.out) i (by omega) (by omega)
      subst hA
      obtain ⟨p, hp⟩ : ∃ p, l[i] = p := ⟨_, rfl⟩
      have hpr : rd_T45 l i = p := by rw [← hp]; exact rd_pair l i hlt
      rw [hpr] at hc1 hc2
      clear hpr
      simp only [Int.toNat_natCast] at hc1 hc2
      have hdrop : l.drop i = p :: l.drop (i + 1) := by rw [List.drop_eq_getElem_cons hlt, hp]
      have htake : l.take (i + 1) = l.take i ++ [p] := by rw [List.take_succ_eq_append_getElem hlt, hp]
      have hstep := hL.out
      rw [hdrop, goodL_snoc, ← htake] at hstep
      have HST := Aside0.mk hstep
      have HTK := Aside0.mk htake
      have hsz : p.f0.size ≤ maxLen := by have := (small_at HSM.out i hlt).1; rw [hp] at this; unfold maxLen; omega
      have HP := Aside0.mk hp
      clear hdrop htake hstep hp hL
      have HKEY := Aside0.mk (Go.WideMaps.keyOf_string_mk (P := Tryd.prog) Tryd.underlying9 hsz)
      clear hsz
      by_cases hk : keyIn (l.take i) p.f0 = true
      · have HK := Aside0.mk hk
        clear hk
        go_wp2_with (first
          | (at_lookup; refine wpList_lookup_own_int _ rfl _ _ 77 rfl 9 3 .i64 K Tryd.underlying77 Tryd.underlying3 (hz _) w.heap.size (i + 1) (D.put (.string p.f0.data.toList) (.lit (.int .i64 2))) rfl HO1.out _ _ rfl HKEY.out ?_; intro c hat hwc; obtain rfl : c = 2 := (by (rw [Maps.atKey_put_same hM.out.1 (key_lit _)] at hat; injection hat with hat; injection hat with _ hat; exact hat.symm)); clear hat hwc)
          | (at_lookup; refine wpList_lookup_own_int _ rfl _ _ 77 rfl 9 3 .i64 K Tryd.underlying77 Tryd.underlying3 (hz _) w.heap.size i (D) rfl (hO.out.alloc _) _ _ rfl HKEY.out ?_; intro c hat hwc; obtain rfl : c = 1 := (met_c hM.out hat).trans (if_pos HK.out); clear hat hwc)
          | (at_mapUpdate; refine wpList_mapUpdate_own _ rfl _ _ _ 77 rfl 9 3 K Tryd.underlying77 _ w.heap.size i D rfl (hO.out.alloc _) (show i < maxLen by (have : maxLen = 9223372036854775807 := rfl); omega) _ _ _ rfl rfl HKEY.out _ [] (plainElem_int Tryd.underlying3 (show (Lit.int .i64 2).wf = true by decide)) ?_; intro w1 hown1 hgrow1; have HO1 := Aside0.mk hown1; have HG1 := Aside0.mk hgrow1; clear hown1 hgrow1; have hbx : w1.heap[wr.heap.size]? = some (.cells #[.string p.f0, .string p.f1] 45 (0, 0)) := (HG1.out.block wr.heap.size (by show wr.heap.size < (wr.heap.push _).size; simp) (fun e => by injection e with e; have := hO.out.lt; omega)).trans Array.getElem?_push_size; have hb0 : w1.cell? ⟨wr.heap.size, 0, none⟩ = some (.string p.f0) := (blk_cell hbx 0).trans rfl; have hb1 : w1.cell? ⟨wr.heap.size, 1, none⟩ = some (.string p.f1) := (blk_cell hbx 1).trans rfl; have HB1 := Aside0.mk (show Below w.heap.size w w1 from (below_alloc hB.out _).grown HG1.out (below_size (below_alloc hB.out _)) (fun k hk => by cases hk; exact Nat.le_refl _)); clear hbx))
        go_ret
        have hV : V = false := by rw [← HST.out, HK.out]; rfl
        exact ⟨by rw [hV]; rfl, HB1.out⟩
      · have hk : keyIn (l.take i) p.f0 = false := by simpa using hk
        have HK := Aside0.mk hk
        clear hk
        have hst := HST.out
        rw [HK.out, Bool.not_false, Bool.true_and] at hst
        have HS2 := Aside0.mk hst
        clear hst
        obtain ⟨kb, hkb⟩ : ∃ b, keyB p.f0 = b := ⟨_, rfl⟩
        have HKB := Aside0.mk hkb
        obtain ⟨x, hx⟩ : ∃ x, Go.Lib.indexByte p.f1.data.toList 0 = x := ⟨_, rfl⟩
        have HX := Aside0.mk hx
        have hpb : pairB p = (kb && decide (p.f1.size ≤ 255) && decide (x < 0)) := by unfold pairB; rw [hkb, hx]
        have HPB := Aside0.mk hpb
        clear hkb hx hpb
        cases kb
        · go_wp2_with (first
            | (at_lookup; refine wpList_lookup_own_int _ rfl _ _ 77 rfl 9 3 .i64 K Tryd.underlying77 Tryd.underlying3 (hz _) w.heap.size (i + 1) (D.put (.string p.f0.data.toList) (.lit (.int .i64 1))) rfl HO1.out _ _ rfl HKEY.out ?_; intro c hat hwc; obtain rfl : c = 1 := (by (rw [Maps.atKey_put_same hM.out.1 (key_lit _)] at hat; injection hat with hat; injection hat with _ hat; exact hat.symm)); clear hat hwc)
            | (at_lookup; refine wpList_lookup_own_int _ rfl _ _ 77 rfl 9 3 .i64 K Tryd.underlying77 Tryd.underlying3 (hz _) w.heap.size i (D) rfl (hO.out.alloc _) _ _ rfl HKEY.out ?_; intro c hat hwc; obtain rfl : c = 0 := (met_c hM.out hat).trans (if_neg (by rw [HK.out]; decide)); clear hat hwc)
            | (at_mapUpdate; refine wpList_mapUpdate_own _ rfl _ _ _ 77 rfl 9 3 K Tryd.underlying77 _ w.heap.size i D rfl (hO.out.alloc _) (show i < maxLen by (have : maxLen = 9223372036854775807 := rfl); omega) _ _ _ rfl rfl HKEY.out _ [] (plainElem_int Tryd.underlying3 (show (Lit.int .i64 1).wf = true by decide)) ?_; intro w1 hown1 hgrow1; have HO1 := Aside0.mk hown1; have HG1 := Aside0.mk hgrow1; clear hown1 hgrow1; have hbx : w1.heap[wr.heap.size]? = some (.cells #[.string p.f0, .string p.f1] 45 (0, 0)) := (HG1.out.block wr.heap.size (by show wr.heap.size < (wr.heap.push _).size; simp) (fun e => by injection e with e; have := hO.out.lt; omega)).trans Array.getElem?_push_size; have hb0 : w1.cell? ⟨wr.heap.size, 0, none⟩ = some (.string p.f0) := (blk_cell hbx 0).trans rfl; have hb1 : w1.cell? ⟨wr.heap.size, 1, none⟩ = some (.string p.f1) := (blk_cell hbx 1).trans rfl; have HB1 := Aside0.mk (show Below w.heap.size w w1 from (below_alloc hB.out _).grown HG1.out (below_size (below_alloc hB.out _)) (fun k hk => by cases hk; exact Nat.le_refl _)); clear hbx)
            | (go_at_call 30; refine (keys_key.calls p.f0 _ _ rfl).mono ?_; rintro e w2 ⟨rfl, ⟨nd, rfl⟩⟩; rw [HKB.out])
            | (go_at_call 31; refine (Tryd.strings_IndexByte p.f1 0 _).mono ?_; rintro e w3 ⟨rfl, rfl⟩; rw [show Go.Lib.indexByte p.f1.data.toList (0 : Int).toNat.toUInt8 = x from HX.out]))
          go_ret
          have hV : V = false := by rw [← HS2.out, HPB.out]; simp
          exact ⟨by rw [hV]; rfl, by repeat (first | exact HB1.out | apply pw_below_drewN)⟩
        · by_cases f255 : p.f1.size ≤ 255
          · have j255 : (p.f1.size : Int) ≤ 255 := by omega
            by_cases fx : x < 0
            · go_wp2_with (first
                | (at_lookup; refine wpList_lookup_own_int _ rfl _ _ 77 rfl 9 3 .i64 K Tryd.underlying77 Tryd.underlying3 (hz _) w.heap.size (i + 1) (D.put (.string p.f0.data.toList) (.lit (.int .i64 1))) rfl HO1.out _ _ rfl HKEY.out ?_; intro c hat hwc; obtain rfl : c = 1 := (by (rw [Maps.atKey_put_same hM.out.1 (key_lit _)] at hat; injection hat with hat; injection hat with _ hat; exact hat.symm)); clear hat hwc)
                | (at_lookup; refine wpList_lookup_own_int _ rfl _ _ 77 rfl 9 3 .i64 K Tryd.underlying77 Tryd.underlying3 (hz _) w.heap.size i (D) rfl (hO.out.alloc _) _ _ rfl HKEY.out ?_; intro c hat hwc; obtain rfl : c = 0 := (met_c hM.out hat).trans (if_neg (by rw [HK.out]; decide)); clear hat hwc)
                | (at_mapUpdate; refine wpList_mapUpdate_own _ rfl _ _ _ 77 rfl 9 3 K Tryd.underlying77 _ w.heap.size i D rfl (hO.out.alloc _) (show i < maxLen by (have : maxLen = 9223372036854775807 := rfl); omega) _ _ _ rfl rfl HKEY.out _ [] (plainElem_int Tryd.underlying3 (show (Lit.int .i64 1).wf = true by decide)) ?_; intro w1 hown1 hgrow1; have HO1 := Aside0.mk hown1; have HG1 := Aside0.mk hgrow1; clear hown1 hgrow1; have hbx : w1.heap[wr.heap.size]? = some (.cells #[.string p.f0, .string p.f1] 45 (0, 0)) := (HG1.out.block wr.heap.size (by show wr.heap.size < (wr.heap.push _).size; simp) (fun e => by injection e with e; have := hO.out.lt; omega)).trans Array.getElem?_push_size; have hb0 : w1.cell? ⟨wr.heap.size, 0, none⟩ = some (.string p.f0) := (blk_cell hbx 0).trans rfl; have hb1 : w1.cell? ⟨wr.heap.size, 1, none⟩ = some (.string p.f1) := (blk_cell hbx 1).trans rfl; have HB1 := Aside0.mk (show Below w.heap.size w w1 from (below_alloc hB.out _).grown HG1.out (below_size (below_alloc hB.out _)) (fun k hk => by cases hk; exact Nat.le_refl _)); clear hbx)
                | (go_at_call 30; refine (keys_key.calls p.f0 _ _ rfl).mono ?_; rintro e w2 ⟨rfl, ⟨nd, rfl⟩⟩; rw [HKB.out])
                | (go_at_call 31; refine (Tryd.strings_IndexByte p.f1 0 _).mono ?_; rintro e w3 ⟨rfl, rfl⟩; rw [show Go.Lib.indexByte p.f1.data.toList (0 : Int).toNat.toUInt8 = x from HX.out]))
              go_roundw
              case rel => exact ⟨i + 1, _, by go_num, by omega, ⟨by repeat (first | exact HO1.out | apply World.ownsMap.drewN)⟩, ⟨by rw [HTK.out]; exact met_snoc hM.out p⟩, ⟨by rw [← HS2.out, HPB.out]; simp [f255, fx]⟩, ⟨by repeat (first | exact HB1.out | apply pw_below_drewN)⟩⟩
              case measure => simp [intOf]; omega
            · have jx : 0 ≤ x := by omega
              go_wp2_with (first
                | (at_lookup; refine wpList_lookup_own_int _ rfl _ _ 77 rfl 9 3 .i64 K Tryd.underlying77 Tryd.underlying3 (hz _) w.heap.size (i + 1) (D.put (.string p.f0.data.toList) (.lit (.int .i64 1))) rfl HO1.out _ _ rfl HKEY.out ?_; intro c hat hwc; obtain rfl : c = 1 := (by (rw [Maps.atKey_put_same hM.out.1 (key_lit _)] at hat; injection hat with hat; injection hat with _ hat; exact hat.symm)); clear hat hwc)
                | (at_lookup; refine wpList_lookup_own_int _ rfl _ _ 77 rfl 9 3 .i64 K Tryd.underlying77 Tryd.underlying3 (hz _) w.heap.size i (D) rfl (hO.out.alloc _) _ _ rfl HKEY.out ?_; intro c hat hwc; obtain rfl : c = 0 := (met_c hM.out hat).trans (if_neg (by rw [HK.out]; decide)); clear hat hwc)
                | (at_mapUpdate; refine wpList_mapUpdate_own _ rfl _ _ _ 77 rfl 9 3 K Tryd.underlying77 _ w.heap.size i D rfl (hO.out.alloc _) (show i < maxLen by (have : maxLen = 9223372036854775807 := rfl); omega) _ _ _ rfl rfl HKEY.out _ [] (plainElem_int Tryd.underlying3 (show (Lit.int .i64 1).wf = true by decide)) ?_; intro w1 hown1 hgrow1; have HO1 := Aside0.mk hown1; have HG1 := Aside0.mk hgrow1; clear hown1 hgrow1; have hbx : w1.heap[wr.heap.size]? = some (.cells #[.string p.f0, .string p.f1] 45 (0, 0)) := (HG1.out.block wr.heap.size (by show wr.heap.size < (wr.heap.push _).size; simp) (fun e => by injection e with e; have := hO.out.lt; omega)).trans Array.getElem?_push_size; have hb0 : w1.cell? ⟨wr.heap.size, 0, none⟩ = some (.string p.f0) := (blk_cell hbx 0).trans rfl; have hb1 : w1.cell? ⟨wr.heap.size, 1, none⟩ = some (.string p.f1) := (blk_cell hbx 1).trans rfl; have HB1 := Aside0.mk (show Below w.heap.size w w1 from (below_alloc hB.out _).grown HG1.out (below_size (below_alloc hB.out _)) (fun k hk => by cases hk; exact Nat.le_refl _)); clear hbx)
                | (go_at_call 30; refine (keys_key.calls p.f0 _ _ rfl).mono ?_; rintro e w2 ⟨rfl, ⟨nd, rfl⟩⟩; rw [HKB.out])
                | (go_at_call 31; refine (Tryd.strings_IndexByte p.f1 0 _).mono ?_; rintro e w3 ⟨rfl, rfl⟩; rw [show Go.Lib.indexByte p.f1.data.toList (0 : Int).toNat.toUInt8 = x from HX.out]))
              go_ret
              have hV : V = false := by rw [← HS2.out, HPB.out, decide_eq_false (show ¬ x < 0 from Int.not_lt.mpr jx), Bool.and_false, Bool.false_and]
              exact ⟨by rw [hV]; rfl, by repeat (first | exact HB1.out | apply pw_below_drewN)⟩
          · have j255 : (255 : Int) < p.f1.size := by omega
            go_wp2_with (first
              | (at_lookup; refine wpList_lookup_own_int _ rfl _ _ 77 rfl 9 3 .i64 K Tryd.underlying77 Tryd.underlying3 (hz _) w.heap.size (i + 1) (D.put (.string p.f0.data.toList) (.lit (.int .i64 1))) rfl HO1.out _ _ rfl HKEY.out ?_; intro c hat hwc; obtain rfl : c = 1 := (by (rw [Maps.atKey_put_same hM.out.1 (key_lit _)] at hat; injection hat with hat; injection hat with _ hat; exact hat.symm)); clear hat hwc)
              | (at_lookup; refine wpList_lookup_own_int _ rfl _ _ 77 rfl 9 3 .i64 K Tryd.underlying77 Tryd.underlying3 (hz _) w.heap.size i (D) rfl (hO.out.alloc _) _ _ rfl HKEY.out ?_; intro c hat hwc; obtain rfl : c = 0 := (met_c hM.out hat).trans (if_neg (by rw [HK.out]; decide)); clear hat hwc)
              | (at_mapUpdate; refine wpList_mapUpdate_own _ rfl _ _ _ 77 rfl 9 3 K Tryd.underlying77 _ w.heap.size i D rfl (hO.out.alloc _) (show i < maxLen by (have : maxLen = 9223372036854775807 := rfl); omega) _ _ _ rfl rfl HKEY.out _ [] (plainElem_int Tryd.underlying3 (show (Lit.int .i64 1).wf = true by decide)) ?_; intro w1 hown1 hgrow1; have HO1 := Aside0.mk hown1; have HG1 := Aside0.mk hgrow1; clear hown1 hgrow1; have hbx : w1.heap[wr.heap.size]? = some (.cells #[.string p.f0, .string p.f1] 45 (0, 0)) := (HG1.out.block wr.heap.size (by show wr.heap.size < (wr.heap.push _).size; simp) (fun e => by injection e with e; have := hO.out.lt; omega)).trans Array.getElem?_push_size; have hb0 : w1.cell? ⟨wr.heap.size, 0, none⟩ = some (.string p.f0) := (blk_cell hbx 0).trans rfl; have hb1 : w1.cell? ⟨wr.heap.size, 1, none⟩ = some (.string p.f1) := (blk_cell hbx 1).trans rfl; have HB1 := Aside0.mk (show Below w.heap.size w w1 from (below_alloc hB.out _).grown HG1.out (below_size (below_alloc hB.out _)) (fun k hk => by cases hk; exact Nat.le_refl _)); clear hbx)
              | (go_at_call 30; refine (keys_key.calls p.f0 _ _ rfl).mono ?_; rintro e w2 ⟨rfl, ⟨nd, rfl⟩⟩; rw [HKB.out])
              | (go_at_call 31; refine (Tryd.strings_IndexByte p.f1 0 _).mono ?_; rintro e w3 ⟨rfl, rfl⟩; rw [show Go.Lib.indexByte p.f1.data.toList (0 : Int).toNat.toUInt8 = x from HX.out]))
            go_ret
            have hV : V = false := by rw [← HS2.out, HPB.out, decide_eq_false f255]; simp
            exact ⟨by rw [hV]; rfl, by repeat (first | exact HB1.out | apply pw_below_drewN)⟩
    · have hil : i = l.length := by omega
      subst hil
      have hV : V = true := by rw [← hL.out, List.drop_eq_nil_of_le (Nat.le_refl _)]; rfl
      have HVT := Aside0.mk hV
      clear hV
      go_wp2
      go_ret
      exact ⟨by rw [HVT.out]; rfl, hB.out⟩
theorem keys_good.calls (A0 : Option Addr) (c0 : Nat) (l0 : List S45) (r : Bool) (w : World) (hr0 : Kd.C k45 w A0 l0.length l0) (hc0 : l0.length ≤ c0) (h : keys_good.f l0 = some r) :
    Calls Tryd.prog 22 #[.slice A0 l0.length c0] w fun e w' => e = .returned (.bool r) ∧ Below w.heap.size w w' := by
  unfold keys_good.f at h
  split at h
  · next hsm =>
    obtain rfl := Option.some.inj h
    unfold goodB
    by_cases h16 : l0.length ≤ 16
    · rw [decide_eq_true h16, Bool.true_and]
      exact good_walk A0 c0 l0 w hr0 hc0 h16 hsm
    · rw [decide_eq_false h16, Bool.false_and]
      have i16 : (16 : Int) < l0.length := by omega
      clear h hr0
      go_enter Tryd.func22, Tryd.ntmps22
      go_wp2
      go_ret
      exact ⟨rfl, Below.refl _ _⟩
  · cases h
def lo_ : Nat → Nat
  | 0 => 97 | 1 => 48 | 2 => 46 | 3 => 45 | _ => 58
def hi_ : Nat → Nat
  | 0 => 122 | 1 => 57 | 2 => 46 | 3 => 45 | _ => 58
def lit_ (k : Nat) : ByteArray := ⟨#[UInt8.ofNat (lo_ k), UInt8.ofNat (hi_ k)]⟩
def mark_ : Nat → Nat → Bool
  | 0, _ => false
  | k + 1, i => mark_ k i || decide (lo_ k ≤ i ∧ i < hi_ k + 1)
theorem lohi_ : ∀ k, k < 5 → 0 < lo_ k ∧ lo_ k ≤ hi_ k ∧ hi_ k < 256 := by decide
theorem lit_0 (k : Nat) (hk : k < 5) : ∀ h : 0 < (lit_ k).size, (((lit_ k)[0]'h).toNat : Int) = (lo_ k : Int) := by
  intro h
  have := lohi_ k hk
  show ((UInt8.ofNat (lo_ k)).toNat : Int) = _
  rw [UInt8.toNat_ofNat']
  omega
theorem lit_1 (k : Nat) (hk : k < 5) : ∀ h : 1 < (lit_ k).size, (((lit_ k)[1]'h).toNat : Int) = (hi_ k : Int) := by
  intro h
  have := lohi_ k hk
  show ((UInt8.ofNat (hi_ k)).toNat : Int) = _
  rw [UInt8.toNat_ofNat']
  omega
set_option maxHeartbeats 8000000 in
set_option maxRecDepth 100000 in
theorem names_letters.calls (w : World) : Calls Tryd.prog 98 #[] w fun e w' => ∃ g, e = .returned (.pointer (some ⟨g, 0, none⟩)) ∧ w.heap.size ≤ g ∧ w'.heap[g]? = some (.cells (rowN 256 (mark_ 5)) 137 (0, 0)) ∧ Below w.heap.size w w' := by
  have HB := Aside0.mk (Below.refl w.heap.size w)
  go_enter Tryd.func98, Tryd.ntmps98
  go_wp2_with (first
    | ((with_reducible refine gate_dst (N := 1) rfl ?_); refine box_event ?hg (N := 1) ?hd (cs := rowN 256 (fun _ => false)) (t := 137) ?hr ?_; (case hd => rfl); (case hg => rfl); (case hr => first | (kernel_rfl) | (go_simp; done) | (go_simp; rfl)); intro g hg w1 hbox hb; have GE := Aside0.mk (show w.heap.size ≤ g by rw [hg]; exact below_size HB.out); have n1_ := Aside0.mk (below_step HB.out hb); have BK := Aside0.mk hbox; clear HB; have HB := n1_; clear n1_ hb hbox hg)
    | ((with_reducible refine gate_dst (N := 5) rfl ?_); refine lit_event ?hg (N := 5) ?hd (cs := #[.string (lit_ 0), .string (lit_ 1), .string (lit_ 2), .string (lit_ 3), .string (lit_ 4)]) (t := 9) (n := 5) ?hr ?_; (case hd => rfl); (case hg => rfl); (case hr => first | (go_simp; done) | (go_simp; rfl)); intro gs hg w2 hbox hb; have NE := Aside0.mk (show g ≠ gs by rw [hg]; exact Nat.ne_of_lt (blk_lt BK.out)); have n1_ := Aside0.mk (below_step HB.out hb); have n2_ := Aside0.mk (blk_below BK.out hb); have BS := Aside0.mk hbox; clear HB BK; have HB := n1_; have BK := n2_; clear n1_ n2_ hb hbox hg))
  go_loopw [7] (fun kv wr => ∃ k : Nat, k ≤ 5 ∧ kv = .int .i64 k ∧ Aside0 (wr.heap[g]? = some (.cells (rowN 256 (mark_ k)) 137 (0, 0))) ∧ Aside0 (wr.heap[gs]? = some (.cells #[.string (lit_ 0), .string (lit_ 1), .string (lit_ 2), .string (lit_ 3), .string (lit_ 4)] 9 (0, 0))) ∧ Aside0 (Below w.heap.size w wr)) (fun kv _ => 5 - (intOf kv).toNat)
  case atStart => exact ⟨0, by omega, rfl, BK, BS, HB⟩
  case round =>
    clear HB BK BS
    obtain ⟨k, hk, rfl, BK, BS, HB⟩ := hrel
    obtain ⟨wo, hwo⟩ : ∃ wo : World, wo = wr := ⟨_, rfl⟩
    subst hwo
    by_cases hlt : k < 5
    · obtain ⟨lo, hlo⟩ : ∃ lo, lo = lo_ k := ⟨_, rfl⟩
      obtain ⟨hi, hhi⟩ : ∃ hi, hi = hi_ k := ⟨_, rfl⟩
      have hb := lohi_ k hlt
      have hx0 := lit_0 k hlt
      have hx1 := lit_1 k hlt
      have hz : (lit_ k).size = 2 := rfl
      have hcell : wo.cell? ⟨gs, k, none⟩ = some (.string (lit_ k)) := by
        rw [blk_cell BS.out k]
        match k, hlt with
        | 0, _ => rfl
        | 1, _ => rfl
        | 2, _ => rfl
        | 3, _ => rfl
        | 4, _ => rfl
      rw [← hlo, ← hhi] at hb
      rw [← hlo] at hx0
      rw [← hhi] at hx1
      have hmk : Aside0 (mark_ (k + 1) = fun i => mark_ k i || decide (lo ≤ i ∧ i < hi + 1)) := ⟨by rw [hlo, hhi]; rfl⟩
      obtain ⟨s, hs⟩ : ∃ s, s = lit_ k := ⟨_, rfl⟩
      rw [← hs] at hcell
      rw [← hs] at hz
      have hy0 : ∀ h : 0 < s.size, ((s[0]'h).toNat : Int) = (lo : Int) := by rw [hs]; exact hx0
      have hy1 : ∀ h : 1 < s.size, ((s[1]'h).toNat : Int) = (hi : Int) := by rw [hs]; exact hx1
      have hz0 : (0 < s.size) = True := eq_true (by omega)
      have hz1 : (1 < s.size) = True := eq_true (by omega)
      have hz2 : ((0 : Int) < (s.size : Int)) = True := eq_true (by omega)
      have hz3 : ((1 : Int) < (s.size : Int)) = True := eq_true (by omega)
      obtain ⟨hb1, hb2, hb3⟩ := hb
      clear hs hlo hhi hx0 hx1 hz
      go_wp2
      go_loopw [4] (fun cv wr => ∃ c : Nat, lo ≤ c ∧ c ≤ hi + 1 ∧ cv = .int .i64 c ∧ Aside0 (wr.heap[g]? = some (.cells (rowN 256 (fun i => mark_ k i || decide (lo ≤ i ∧ i < c))) 137 (0, 0))) ∧ Aside0 (wr.heap[gs]? = some (.cells #[.string (lit_ 0), .string (lit_ 1), .string (lit_ 2), .string (lit_ 3), .string (lit_ 4)] 9 (0, 0))) ∧ Aside0 (Below w.heap.size w wr)) (fun cv _ => hi + 1 - (intOf cv).toNat)
      case atStart =>
        refine ⟨lo, by omega, by omega, rfl, ⟨?_⟩, BS, HB⟩
        have e : (fun i => mark_ k i || decide (lo ≤ i ∧ i < lo)) = mark_ k := by
          funext i
          rw [decide_eq_false (by omega), Bool.or_false]
        rw [e]
        exact BK.out
      case round =>
        clear HB BK BS hcell
        obtain ⟨c, hc1, hc2, rfl, BK, BS, HB⟩ := hrel
        by_cases hcl : c < hi + 1
        · have hd : decide ((c : Int) ≤ (hi : Int)) = true := decide_eq_true (by omega)
          have hcc : wr.cell? ⟨g, c, none⟩ = some (.bool (mark_ k c || decide (lo ≤ c ∧ c < c))) := (blk_cell BK.out c).trans (rowN_get 256 _ c (by omega))
          have hcf := blk_frozen BK.out c
          have hc0 : (0 : Int) ≤ (c : Int) := by omega
          have hc256 : (c : Int) < 256 := by omega
          go_wp2
          go_roundw
          case rel =>
            refine ⟨c + 1, by omega, by omega, by go_num, ⟨?_⟩, ⟨blk_far BS.out (Ne.symm NE.out) _⟩, ⟨below_set HB.out GE.out⟩⟩
            refine blk_put BK.out c _ ?_
            rw [rowN_set 256 _ c (by omega)]
            congr 1
            funext i
            rw [Bool.or_assoc]
            congr 1
            rw [Bool.eq_iff_iff]
            simp
            omega
          case measure => simp [intOf]; omega
        · have hd : decide ((c : Int) ≤ (hi : Int)) = false := decide_eq_false (by omega)
          have hce : c = hi + 1 := by omega
          subst hce
          go_wp2
          go_roundw
          case rel => exact ⟨k + 1, by omega, by go_num, ⟨by rw [hmk.out]; exact BK.out⟩, BS, HB⟩
          case measure => simp [intOf]; omega
    · have hk5 : k = 5 := by omega
      subst hk5
      go_wp2
      go_ret
      exact ⟨g, rfl, GE.out, BK.out, HB.out⟩
def nameB (s : ByteArray) : Bool := decide (1 ≤ s.size ∧ s.size ≤ 64 ∧ 97 ≤ bt s 0 ∧ bt s 0 ≤ 122) && s.data.toList.all (fun c => mark_ 5 c.toNat)
def names_Name.f (a0 : ByteArray) : Option Bool := some (nameB a0)
set_option maxHeartbeats 8000000 in
set_option maxRecDepth 100000 in
theorem names_Name.calls (a0 : ByteArray) (r : Bool) (w : World) (h : names_Name.f a0 = some r) :
    Calls Tryd.prog 81 #[.string a0] w fun e w' => e = .returned (.bool r) ∧ Below w.heap.size w w' := by
  obtain rfl := Option.some.inj h
  clear h
  have HB := Aside0.mk (Below.refl w.heap.size w)
  by_cases h1 : a0.size < 1
  · have er : nameB a0 = false := by
      unfold nameB
      rw [decide_eq_false (by omega)]
      rfl
    rw [er]
    clear er
    have e0 : a0 = ByteArray.empty := ByteArray.ext (Array.eq_empty_of_size_eq_zero (show a0.size = 0 by omega))
    subst e0
    clear h1
    go_enter Tryd.func81, Tryd.ntmps81
    go_wp2
    go_ret
    exact ⟨rfl, HB.out⟩
  · have d1 : decide (a0.size < 1) = false := decide_eq_false h1
    have d2 : decide ((a0.size : Int) < 1) = false := decide_eq_false (by omega)
    have d3 : (a0 = ByteArray.empty) = False := eq_false (fun h_ => by rw [h_] at h1; exact h1 (by decide))
    by_cases h2 : a0.size > 64
    · have er : nameB a0 = false := by
        unfold nameB
        rw [decide_eq_false (by omega)]
        rfl
      rw [er]
      have d4 : decide (64 < a0.size) = true := decide_eq_true h2
      have d5 : decide ((64 : Int) < (a0.size : Int)) = true := decide_eq_true (by omega)
      clear er h1 h2
      go_enter Tryd.func81, Tryd.ntmps81
      go_wp2
      go_ret
      exact ⟨rfl, HB.out⟩
    · have d4 : decide (64 < a0.size) = false := decide_eq_false h2
      have d5 : decide ((64 : Int) < (a0.size : Int)) = false := decide_eq_false (by omega)
      have hx0 := bt_at a0 0
      have hx : ∀ h : 0 < a0.size, ((a0[0]'h).toNat : Int) = bt a0 0 := bt_at a0 0
      have z0 : (0 < a0.size) = True := eq_true (by omega)
      have z1 : ((0 : Int) < (a0.size : Int)) = True := eq_true (by omega)
      clear hx0
      have er0 := (rfl : nameB a0 = nameB a0)
      obtain ⟨b, hb⟩ : ∃ b, b = bt a0 0 := ⟨_, rfl⟩
      rw [← hb] at hx
      by_cases h3 : b < 97
      · have er : nameB a0 = false := by
          unfold nameB
          rw [decide_eq_false (by rw [← hb]; omega)]
          rfl
        rw [er]
        have d6 : decide (b < 97) = true := decide_eq_true h3
        clear er h1 h2 h3 hb er0
        go_enter Tryd.func81, Tryd.ntmps81
        go_wp2
        go_ret
        exact ⟨rfl, HB.out⟩
      · have d6 : decide (b < 97) = false := decide_eq_false h3
        by_cases h4 : b > 122
        · have er : nameB a0 = false := by
            unfold nameB
            rw [decide_eq_false (by rw [← hb]; omega)]
            rfl
          rw [er]
          have d7 : decide (122 < b) = true := decide_eq_true h4
          clear er h1 h2 h3 h4 hb er0
          go_enter Tryd.func81, Tryd.ntmps81
          go_wp2
          go_ret
          exact ⟨rfl, HB.out⟩
        · have d7 : decide (122 < b) = false := decide_eq_false h4
          have er : Aside0 (nameB a0 = a0.data.toList.all (fun c => mark_ 5 c.toNat)) := ⟨by
            unfold nameB
            rw [decide_eq_true (by rw [← hb]; omega)]
            rfl⟩
          have hsz : a0.data.toList.length = a0.size := rfl
          clear er0 hb h3 h4
          generalize hR : nameB a0 = R at er ⊢
          clear hR
          go_enter Tryd.func81, Tryd.ntmps81
          go_wp2_with (first
            | (go_at_call 98; refine (names_letters.calls _).mono ?_; rintro e w1 ⟨g, rfl, hge, hbk, hb⟩; have GE := Aside0.mk (show w.heap.size ≤ g from Nat.le_trans (below_size HB.out) hge); have n1_ := Aside0.mk (below_step HB.out hb); have BK := Aside0.mk hbk; clear HB; have HB := n1_; clear n1_ hb hbk hge))
          clear hx z0 z1
          go_loopw [26] (fun iv wr => ∃ k : Nat, k ≤ a0.size ∧ iv = .int .i64 k ∧ Aside0 ((a0.data.toList.drop k).all (fun c => mark_ 5 c.toNat) = R) ∧ Aside0 (wr.heap[g]? = some (.cells (rowN 256 (mark_ 5)) 137 (0, 0))) ∧ Aside0 (Below w.heap.size w wr)) (fun iv _ => a0.size - (intOf iv).toNat)
          case atStart => exact ⟨0, Nat.zero_le _, rfl, ⟨er.out.symm⟩, BK, HB⟩
          case round =>
            clear HB BK er
            obtain ⟨k, hk, rfl, er, BK, HB⟩ := hrel
            by_cases hlt : k < a0.size
            · have hl : k < a0.data.toList.length := hlt
              obtain ⟨c, hc⟩ : ∃ c : Nat, c = (a0[k]'hlt).toNat := ⟨_, rfl⟩
              have hc256 : c < 256 := by rw [hc]; exact (a0[k]'hlt).toNat_lt
              have hx : ∀ h : k < a0.size, ((a0[k]'h).toNat : Int) = (c : Int) := fun h => by rw [hc]
              have er2 : Aside0 ((mark_ 5 c && (a0.data.toList.drop (k + 1)).all (fun c => mark_ 5 c.toNat)) = R) := ⟨by
                have := er.out
                rw [List.drop_eq_getElem_cons hl, List.all_cons] at this
                rw [← this, hc]
                rfl⟩
              have hcell : wr.cell? ⟨g, c, none⟩ = some (.bool (mark_ 5 c)) := (blk_cell BK.out c).trans (rowN_get 256 _ c hc256)
              have k0 : (0 : Int) ≤ (k : Int) := Int.natCast_nonneg k
              have c0 : (0 : Int) ≤ (c : Int) := Int.natCast_nonneg c
              have c1 : (c : Int) < 256 := by omega
              have k1 : ((k : Int) < (a0.size : Int)) = True := eq_true (by omega)
              have k2 : (k < a0.size) = True := eq_true hlt
              clear hc er hc256 hl
              cases hm : mark_ 5 c
              · rw [hm] at hcell er2
                have er3 : R = false := er2.out.symm
                go_wp2
                go_quiet (fail)
                go_wp2
                go_ret
                exact ⟨by rw [er3]; rfl, pw_below_drewN HB.out _⟩
              · rw [hm] at hcell er2
                go_wp2
                go_quiet (fail)
                go_wp2
                go_roundw
                case rel => exact ⟨k + 1, by omega, by go_num, ⟨er2.out⟩, ⟨blk_drewN BK.out _⟩, ⟨pw_below_drewN HB.out _⟩⟩
                case measure => simp [intOf]; omega
            · have er3 : R = true := by
                have := er.out
                rw [List.drop_eq_nil_of_le (by omega)] at this
                exact this.symm
              go_wp2
              go_ret
              exact ⟨by rw [er3]; rfl, HB.out⟩
def stringslite_HasPrefix.f (a0 : ByteArray) (a1 : ByteArray) : Option (Bool) := if (a0.size : Int) ≥ (a1.size : Int) then (if 0 ≤ (a1.size : Int) then (if (a1.size : Int) ≤ (a0.size : Int) then (some ((a0.extract 0 ((a1.size : Int) : Int).toNat).toList == a1.toList)) else (none)) else (none)) else (some false)
set_option maxHeartbeats 8000000 in
set_option maxRecDepth 100000 in
theorem stringslite_HasPrefix.calls (a0 : ByteArray) (a1 : ByteArray) (r : Bool) (w : World) (h : stringslite_HasPrefix.f a0 a1 = some r) :
    Calls Tryd.prog 99 #[.string a0, .string a1] w fun e w' => e = .returned (.bool r) ∧ Drawn0 w w' := by
  have H : (if (a0.size : Int) ≥ (a1.size : Int) then (if 0 ≤ (a1.size : Int) then (if (a1.size : Int) ≤ (a0.size : Int) then (some ((a0.extract 0 ((a1.size : Int) : Int).toNat).toList == a1.toList)) else (none)) else (none)) else (some false)) = some r := h
  clear h
  by_cases c3 : (a0.size : Int) ≥ (a1.size : Int)
  · rw [if_pos c3] at H
    have c3b0 : decide ((a1.size : Int) ≤ (a0.size : Int)) = true := decide_eq_true c3
    have c3b1 : decide (a1.size ≤ a0.size) = true := decide_eq_true (Int.ofNat_le.mp c3)
    clear c3
    by_cases c4 : 0 ≤ (a1.size : Int)
    · rw [if_pos c4] at H
      have c4b0 := eq_true c4
      have c4b1 : decide (0 ≤ (a1.size : Int)) = true := decide_eq_true c4
      clear c4
      by_cases c5 : (a1.size : Int) ≤ (a0.size : Int)
      · rw [if_pos c5] at H
        have c5b0 := eq_true c5
        have c5b1 : decide ((a1.size : Int) ≤ (a0.size : Int)) = true := decide_eq_true c5
        clear c5
        obtain rfl := Option.some.inj H
        go_enter Tryd.func99, Tryd.ntmps99
        go_wp2
        go_ret
        exact ⟨by first | rfl | (simp; done) | (simp [*]; done), by repeat (first | exact Drawn0.refl _ | apply Drawn0.step)⟩
      · rw [if_neg c5] at H
        exact absurd H (by simp)
    · rw [if_neg c4] at H
      exact absurd H (by simp)
  · rw [if_neg c3] at H
    have c3b0 : decide ((a1.size : Int) ≤ (a0.size : Int)) = false := decide_eq_false c3
    have c3b1 : decide (a1.size ≤ a0.size) = false := decide_eq_false (fun h => c3 (Int.ofNat_le.mpr h))
    clear c3
    obtain rfl := Option.some.inj H
    go_enter Tryd.func99, Tryd.ntmps99
    go_wp2
    go_ret
    exact ⟨by first | rfl | (simp; done) | (simp [*]; done), by repeat (first | exact Drawn0.refl _ | apply Drawn0.step)⟩
def strings_HasPrefix.f (a0 : ByteArray) (a1 : ByteArray) : Option (Bool) := (stringslite_HasPrefix.f a0 a1).bind fun t103 => (some t103)
set_option maxHeartbeats 8000000 in
set_option maxRecDepth 100000 in
theorem strings_HasPrefix.calls (a0 : ByteArray) (a1 : ByteArray) (r : Bool) (w : World) (h : strings_HasPrefix.f a0 a1 = some r) :
    Calls Tryd.prog 82 #[.string a0, .string a1] w fun e w' => e = .returned (.bool r) ∧ Drawn0 w w' := by
  have H : ((stringslite_HasPrefix.f a0 a1).bind fun t103 => (some t103)) = some r := h
  clear h
  replace H := Option.bind_eq_some_iff.mp H
  obtain ⟨t103, A30, H⟩ := H
  replace H : (some t103) = some r := H
  have A3 := Aside0.mk A30
  clear A30
  obtain rfl := Option.some.inj H
  go_enter Tryd.func82, Tryd.ntmps82
  go_wp2_with (first | ((with_reducible refine gate_callee (f := 99) rfl ?_); refine goesL_ (some 7) rfl rfl Tryd.func99 (by kernel_rfl) rfl #[.string a0, .string a1] rfl (by (try simp only [List.map_toArray, List.map_cons, List.map_nil]); first | done | rfl | (simp only [List.length_drop, List.length_take]; rfl)) ?_; (with_reducible refine (stringslite_HasPrefix.calls a0 a1 t103 _ A3.out).mono ?_); rintro e w' ⟨rfl, ⟨nd, rfl⟩⟩; refine ⟨_, rfl, ?_⟩))
  go_ret
  exact ⟨by first | rfl | (simp; done) | (simp [*]; done), by repeat (first | exact Drawn0.refl _ | apply Drawn0.step)⟩
end Go.Proofs.YtclcnkmefldpiaaDoor.P
namespace Go.Proofs.YtclcnkmefldpiaaDoor.P
open Go.RowKit Go.Proofs.YtclcnkmefldpiaaDoorW.PrintWords Go.Proofs.YtclcnkmefldpiaaDoorW.PrintLast Go.Proofs.YtclcnkmefldpiaaDoorW.PrintMore
attribute [local go_sem] max2_int min2_int max_two min_two max_three min_three max_four min_four   -- for this text's walks alone
set_option linter.unusedVariables false
set_option linter.unusedSimpArgs false
set_option linter.unnecessarySimpa false
def good_ (s : ByteArray) (j : Nat) : Bool := if j = 4 then decide (bt s 8 = 45) else if j = 7 then decide (bt s 11 = 46) else decide (48 ≤ bt s ((4 + j : Nat) : Int) ∧ bt s ((4 + j : Nat) : Int) ≤ 57)
def month_ (s : ByteArray) : Int := (bt s 9 - 48) * 10 + (bt s 10 - 48)
def restB (s : ByteArray) : Bool := (List.range 8).all (good_ s) && (decide (1 ≤ month_ s ∧ month_ s ≤ 12) && nameB (s.extract 12 s.size))
def names_dated.f (a0 : ByteArray) (a1 : ByteArray) : Option Bool :=
  if a1.size ≤ 100 then (if nameB a0 = true then (if 12 < a0.size then (strings_HasPrefix.f a0 (a1 ++ (⟨#[46]⟩ : ByteArray))).bind fun p => if p = true then some (restB a0) else some false else some false) else some false) else none
theorem name_le (s : ByteArray) (h : nameB s = true) : s.size ≤ 64 := by
  unfold nameB at h
  rw [Bool.and_eq_true] at h
  exact (of_decide_eq_true h.1).2.1
theorem all_range_take {f : Nat → Bool} {n m : Nat} (h : (List.range n).all f = false) (hm : n ≤ m) : (List.range m).all f = false := by
  rw [Bool.eq_false_iff] at h ⊢
  intro hh
  apply h
  rw [List.all_eq_true] at hh ⊢
  intro x hx
  exact hh x (List.mem_range.mpr (by have := List.mem_range.mp hx; omega))
def pat_ : ByteArray := ⟨#[100, 100, 100, 100, 45, 100, 100, 46]⟩
theorem pat_at : ∀ (pos : Nat) (h : pos < pat_.size), (pat_[pos]'h).toNat = if pos = 4 then 45 else if pos = 7 then 46 else 100
  | 0, _ => rfl | 1, _ => rfl | 2, _ => rfl | 3, _ => rfl | 4, _ => rfl | 5, _ => rfl | 6, _ => rfl | 7, _ => rfl
  | n + 8, h => absurd (show n + 8 < 8 from h) (by omega)
theorem restB_bad (s : ByteArray) (pos : Nat) (hp : pos < 8) (h : (List.range (pos + 1)).all (good_ s) = false) : restB s = false := by
  unfold restB
  rw [all_range_take h (by omega)]
  rfl
set_option maxHeartbeats 8000000 in
set_option maxRecDepth 100000 in
theorem names_dated.calls (a0 : ByteArray) (a1 : ByteArray) (r : Bool) (w : World) (h : names_dated.f a0 a1 = some r) :
    Calls Tryd.prog 71 #[.string a0, .string a1] w fun e w' => e = .returned (.bool r) ∧ Below w.heap.size w w' := by
  have HB := Aside0.mk (Below.refl w.heap.size w)
  unfold names_dated.f at h
  by_cases h0 : a1.size ≤ 100
  · rw [if_pos h0] at h
    have hc0 : a1.size + 1 ≤ 9223372036854775807 := by omega
    have hc1 := eq_true hc0
    have hc2 : decide (a1.size + 1 ≤ 9223372036854775807) = true := decide_eq_true hc0
    have hc3 : (9223372036854775807 < a1.size + 1) = False := eq_false (Nat.not_lt.2 hc0)
    by_cases h1 : nameB a0 = true
    · rw [if_pos h1] at h
      have h64 := name_le a0 h1
      have HN : names_Name.f a0 = some true := congrArg some h1
      by_cases h2 : 12 < a0.size
      · rw [if_pos h2] at h
        have d2 : decide (a0.size ≤ 12) = false := decide_eq_false (by omega)
        have d3 : decide ((a0.size : Int) ≤ 12) = false := decide_eq_false (by omega)
        replace h := Option.bind_eq_some_iff.mp h
        obtain ⟨p, hp, h⟩ := h
        cases p
        · rw [if_neg (by decide)] at h
          obtain rfl := Option.some.inj h
          clear h h1
          have HN' := Aside0.mk HN
          have HP := Aside0.mk hp
          clear HN hp h2 h64 h0
          go_enter Tryd.func71, Tryd.ntmps71
          go_wp2_with (first
            | (go_at_call 81; refine (names_Name.calls a0 true _ HN'.out).mono ?_; rintro e w1 ⟨rfl, hb⟩; have n1_ := Aside0.mk (below_step HB.out hb); clear HB hb; have HB := n1_; clear n1_)
            | (go_at_call 82; refine (strings_HasPrefix.calls a0 (a1 ++ (⟨#[46]⟩ : ByteArray)) false _ HP.out).mono ?_; rintro e w2 ⟨rfl, ⟨nd, rfl⟩⟩; have n1_ := Aside0.mk (pw_below_drewN HB.out nd); clear HB; have HB := n1_; clear n1_))
          go_ret
          exact ⟨rfl, HB.out⟩
        · rw [if_pos rfl] at h
          obtain rfl := Option.some.inj h
          clear h h1
          have HN' := Aside0.mk HN
          have HP := Aside0.mk hp
          clear HN hp h0
          obtain ⟨R, hR⟩ : ∃ R, R = restB a0 := ⟨_, rfl⟩
          rw [← hR]
          replace hR := Aside0.mk hR
          have hps : pat_.size = 8 := rfl
          obtain ⟨pt, hpt⟩ : ∃ pt, pt = pat_ := ⟨_, rfl⟩
          go_enter Tryd.func71, Tryd.ntmps71
          go_wp2_with (first
            | (go_at_call 81; refine (names_Name.calls a0 true _ HN'.out).mono ?_; rintro e w1 ⟨rfl, hb⟩; have n1_ := Aside0.mk (below_step HB.out hb); clear HB hb; have HB := n1_; clear n1_)
            | (go_at_call 82; refine (strings_HasPrefix.calls a0 (a1 ++ (⟨#[46]⟩ : ByteArray)) true _ HP.out).mono ?_; rintro e w2 ⟨rfl, ⟨nd, hnd⟩⟩; have n1_ := Aside0.mk (show Below w.heap.size w w2 by rw [hnd]; exact pw_below_drewN HB.out nd); clear HB hnd; have HB := n1_; clear n1_))
          have hbd : ∀ i : Int, 0 ≤ bt a0 i ∧ bt a0 i < 256 := fun i => by
            unfold bt
            split
            · rename_i hh
              have := (a0[i.toNat]'hh).toNat_lt
              omega
            · omega
          have hl12 : 12 < a0.size := h2
          clear h2
          go_loopw [5] (fun _ wr => ∃ pos : Nat, pos ≤ 8 ∧ wr = w2.iter pat_ pos ∧ Aside0 ((List.range pos).all (good_ a0) = true)) (fun _ wr => 8 - wr.iterPos w2.heap.size)
          case atStart => exact ⟨0, by omega, rfl, ⟨rfl⟩⟩
          case round =>
            obtain ⟨pos, hpos, rfl, HG⟩ := hrel
            by_cases hlt : pos < 8
            · have hxg : ∀ (j : Nat), 4 + j < a0.size → ∀ h : 4 + j < a0.size, ((a0[4 + j]'h).toNat : Int) = bt a0 ((4 + j : Nat) : Int) := fun j hj h => by
                unfold bt
                rw [dif_pos (show (((4 + j : Nat) : Int)).toNat < a0.size by rw [Int.toNat_natCast]; exact h)]
                rfl
              have hgs : (List.range (pos + 1)).all (good_ a0) = good_ a0 pos := by
                rw [List.range_succ, List.all_append, HG.out]
                simp
              have hx := hxg pos (by omega)
              obtain ⟨x, hxx⟩ : ∃ x, x = bt a0 ((4 + pos : Nat) : Int) := ⟨_, rfl⟩
              have hxb := hbd ((4 + pos : Nat) : Int)
              rw [← hxx] at hx hxb
              obtain ⟨hxb0, hxb1⟩ := hxb
              have hpa := pat_at pos hlt
              have hq : (4 + pos < a0.size) = True := eq_true (by omega)
              have hq2 : ((4 : Int) + (pos : Int) < (a0.size : Int)) = True := eq_true (by omega)
              have hq3 : (0 : Int) ≤ 4 + (pos : Int) := by omega
              have hq4 : ((4 : Int) + (pos : Int)).toNat = 4 + pos := by omega
              have hq5 : IntKind.i64.wrap (4 + (pos : Int)) = 4 + (pos : Int) := by rw [IntKind.wrap_i64]; omega
              by_cases p4 : pos = 4
              · rw [if_pos p4] at hpa
                have hn := run_next_ascii (P := Tryd.prog) w2 pat_ pos 0 hlt (by omega)
                rw [hpa] at hn
                have hn' : (Instr.next (.pointer (some ⟨w2.heap.size, 0, none⟩)) true 0).run Tryd.prog (w2.iter pat_ pos) = .ok (.tuple #[.bool true, .int .i64 (pos : Int), .int .i32 45]) (w2.iter pat_ (pos + 1)) := hn
                have hgd : good_ a0 pos = decide (x = 45) := by
                  unfold good_
                  rw [if_pos p4, hxx, p4]
                  rfl
                rw [hgd] at hgs
                clear hpa hn p4 hgd hxx hxg
                by_cases hok : x = 45
                · have t1 : (x == 45) = true := beq_iff_eq.mpr hok
                  have t2 : (x != 45) = false := bne_eq_false_iff_eq.mpr hok
                  rw [decide_eq_true hok] at hgs
                  have HG' := Aside0.mk hgs
                  clear hok hgs HG
                  go_wp2
                  go_roundw
                  case rel => exact ⟨pos + 1, by omega, rfl, HG'⟩
                  case measure => simp; omega
                · have t1 : (x == 45) = false := beq_eq_false_iff_ne.mpr hok
                  have t2 : (x != 45) = true := bne_iff_ne.mpr hok
                  rw [decide_eq_false hok] at hgs
                  have er3 : R = false := hR.out.trans (restB_bad a0 pos hlt hgs)
                  clear hok hgs HG
                  go_wp2
                  go_ret
                  exact ⟨by rw [er3]; rfl, below_alloc HB.out _⟩
              · rw [if_neg p4] at hpa
                by_cases p7 : pos = 7
                · rw [if_pos p7] at hpa
                  have hn := run_next_ascii (P := Tryd.prog) w2 pat_ pos 0 hlt (by omega)
                  rw [hpa] at hn
                  have hn' : (Instr.next (.pointer (some ⟨w2.heap.size, 0, none⟩)) true 0).run Tryd.prog (w2.iter pat_ pos) = .ok (.tuple #[.bool true, .int .i64 (pos : Int), .int .i32 46]) (w2.iter pat_ (pos + 1)) := hn
                  have hgd : good_ a0 pos = decide (x = 46) := by
                    unfold good_
                    rw [if_neg p4, if_pos p7, hxx, p7]
                    rfl
                  rw [hgd] at hgs
                  clear hpa hn p4 p7 hgd hxx hxg
                  by_cases hok : x = 46
                  · have t1 : (x == 46) = true := beq_iff_eq.mpr hok
                    have t2 : (x != 46) = false := bne_eq_false_iff_eq.mpr hok
                    rw [decide_eq_true hok] at hgs
                    have HG' := Aside0.mk hgs
                    clear hok hgs HG
                    go_wp2
                    go_roundw
                    case rel => exact ⟨pos + 1, by omega, rfl, HG'⟩
                    case measure => simp; omega
                  · have t1 : (x == 46) = false := beq_eq_false_iff_ne.mpr hok
                    have t2 : (x != 46) = true := bne_iff_ne.mpr hok
                    rw [decide_eq_false hok] at hgs
                    have er3 : R = false := hR.out.trans (restB_bad a0 pos hlt hgs)
                    clear hok hgs HG
                    go_wp2
                    go_ret
                    exact ⟨by rw [er3]; rfl, below_alloc HB.out _⟩
                · rw [if_neg p7] at hpa
                  have hn := run_next_ascii (P := Tryd.prog) w2 pat_ pos 0 hlt (by omega)
                  rw [hpa] at hn
                  have hn' : (Instr.next (.pointer (some ⟨w2.heap.size, 0, none⟩)) true 0).run Tryd.prog (w2.iter pat_ pos) = .ok (.tuple #[.bool true, .int .i64 (pos : Int), .int .i32 100]) (w2.iter pat_ (pos + 1)) := hn
                  have hgd : good_ a0 pos = decide (48 ≤ x ∧ x ≤ 57) := by
                    unfold good_
                    rw [if_neg p4, if_neg p7, hxx]
                  rw [hgd] at hgs
                  clear hpa hn p4 p7 hgd hxx hxg
                  by_cases hlo : x < 48
                  · have t1 : decide (x < 48) = true := decide_eq_true hlo
                    rw [decide_eq_false (by omega)] at hgs
                    have er3 : R = false := hR.out.trans (restB_bad a0 pos hlt hgs)
                    clear hlo hgs HG
                    go_wp2
                    go_ret
                    exact ⟨by rw [er3]; rfl, below_alloc HB.out _⟩
                  · have t1 : decide (x < 48) = false := decide_eq_false hlo
                    by_cases hhi : x > 57
                    · have t2 : decide (57 < x) = true := decide_eq_true hhi
                      rw [decide_eq_false (by omega)] at hgs
                      have er3 : R = false := hR.out.trans (restB_bad a0 pos hlt hgs)
                      clear hlo hhi hgs HG
                      go_wp2
                      go_ret
                      exact ⟨by rw [er3]; rfl, below_alloc HB.out _⟩
                    · have t2 : decide (57 < x) = false := decide_eq_false hhi
                      rw [decide_eq_true (by omega)] at hgs
                      have HG' := Aside0.mk hgs
                      clear hlo hhi hgs HG
                      go_wp2
                      go_roundw
                      case rel => exact ⟨pos + 1, by omega, rfl, HG'⟩
                      case measure => simp; omega
            · have hp8 : pos = 8 := by omega
              subst hp8
              have hn := run_next_end (P := Tryd.prog) w2 pat_ 8 0 (by decide)
              have hall := HG.out
              have g5 : good_ a0 5 = true := List.all_eq_true.mp hall 5 (by decide)
              have g6 : good_ a0 6 = true := List.all_eq_true.mp hall 6 (by decide)
              have g5' : 48 ≤ bt a0 9 ∧ bt a0 9 ≤ 57 := of_decide_eq_true (show decide (48 ≤ bt a0 9 ∧ bt a0 9 ≤ 57) = true from g5)
              have g6' : 48 ≤ bt a0 10 ∧ bt a0 10 ≤ 57 := of_decide_eq_true (show decide (48 ≤ bt a0 10 ∧ bt a0 10 ≤ 57) = true from g6)
              have hr : Aside0 (R = (decide (1 ≤ month_ a0 ∧ month_ a0 ≤ 12) && nameB (a0.extract 12 a0.size))) := ⟨by
                rw [hR.out]
                unfold restB
                rw [hall]
                rfl⟩
              have hx9 : ∀ h : 9 < a0.size, ((a0[9]'h).toNat : Int) = bt a0 9 := bt_at a0 9
              have hx10 : ∀ h : 10 < a0.size, ((a0[10]'h).toNat : Int) = bt a0 10 := bt_at a0 10
              have hq9 : (9 < a0.size) = True := eq_true (by omega)
              have hq10 : (10 < a0.size) = True := eq_true (by omega)
              have hz9 : ((9 : Int) < (a0.size : Int)) = True := eq_true (by omega)
              have hz10 : ((10 : Int) < (a0.size : Int)) = True := eq_true (by omega)
              have hmo : month_ a0 = (bt a0 9 - 48) * 10 + (bt a0 10 - 48) := rfl
              rw [hmo] at hr
              generalize bt a0 9 = u at *
              generalize bt a0 10 = v at *
              obtain ⟨hu0, hu1⟩ := g5'
              obtain ⟨hv0, hv1⟩ := g6'
              clear g5 g6 hall HG hmo hR hbd
              by_cases m1 : 1 ≤ (u - 48) * 10 + (v - 48)
              · have t1 : decide ((1 : Int) ≤ (u - 48) * 10 + (v - 48)) = true := decide_eq_true m1
                by_cases m2 : (u - 48) * 10 + (v - 48) ≤ 12
                · have t2 : decide ((u - 48) * 10 + (v - 48) ≤ (12 : Int)) = true := decide_eq_true m2
                  have er3 : R = nameB (a0.extract 12 a0.size) := by rw [hr.out, decide_eq_true ⟨m1, m2⟩]; rfl
                  have HM : Aside0 (names_Name.f (a0.extract 12 a0.size) = some R) := ⟨by rw [er3]; rfl⟩
                  have hs12 : (12 : Int) ≤ (a0.size : Int) := by omega
                  clear hr er3
                  go_wp2
                  go_quiet (fail)
                  have HB3 : Aside0 (Below w.heap.size w ((w2.iter pat_ 8).drewN nq)) := ⟨pw_below_drewN (below_alloc HB.out _) nq⟩
                  clear HB hn
                  generalize ((w2.iter pat_ 8).drewN nq) = w3 at HB3 ⊢
                  go_wp2_with (first
                    | (go_at_call 81; refine (names_Name.calls (a0.extract 12 a0.size) R _ HM.out).mono ?_; rintro e w4 ⟨rfl, hb⟩; have n1_ := Aside0.mk (below_step HB3.out hb); clear HB3 hb; have HB3 := n1_; clear n1_))
                  go_ret
                  exact ⟨rfl, HB3.out⟩
                · have t2 : decide ((u - 48) * 10 + (v - 48) ≤ (12 : Int)) = false := decide_eq_false m2
                  have er3 : R = false := by rw [hr.out, decide_eq_false (fun z => m2 z.2)]; rfl
                  clear hr
                  go_wp2
                  go_quiet (fail)
                  go_wp2
                  go_ret
                  exact ⟨by rw [er3]; rfl, pw_below_drewN (below_alloc HB.out _) _⟩
              · have t1 : decide ((1 : Int) ≤ (u - 48) * 10 + (v - 48)) = false := decide_eq_false m1
                have er3 : R = false := by rw [hr.out, decide_eq_false (fun z => m1 z.1)]; rfl
                clear hr
                go_wp2
                go_quiet (fail)
                go_wp2
                go_ret
                exact ⟨by rw [er3]; rfl, pw_below_drewN (below_alloc HB.out _) _⟩
      · rw [if_neg h2] at h
        obtain rfl := Option.some.inj h
        have d2 : decide (a0.size ≤ 12) = true := decide_eq_true (by omega)
        have d3 : decide ((a0.size : Int) ≤ 12) = true := decide_eq_true (by omega)
        have HN' := Aside0.mk HN
        clear HN h h1 h0 h2 h64
        go_enter Tryd.func71, Tryd.ntmps71
        go_wp2_with (first
          | (go_at_call 81; refine (names_Name.calls a0 true _ HN'.out).mono ?_; rintro e w1 ⟨rfl, hb⟩; have n1_ := Aside0.mk (below_step HB.out hb); clear HB hb; have HB := n1_; clear n1_))
        go_ret
        exact ⟨rfl, HB.out⟩
    · rw [if_neg h1] at h
      obtain rfl := Option.some.inj h
      have HN : names_Name.f a0 = some false := congrArg some (by simpa using h1)
      have HN' := Aside0.mk HN
      clear HN h h1 h0
      go_enter Tryd.func71, Tryd.ntmps71
      go_wp2_with (first
        | (go_at_call 81; refine (names_Name.calls a0 false _ HN'.out).mono ?_; rintro e w1 ⟨rfl, hb⟩; have n1_ := Aside0.mk (below_step HB.out hb); clear HB hb; have HB := n1_; clear n1_))
      go_ret
      exact ⟨rfl, HB.out⟩
  · rw [if_neg h0] at h
    exact absurd h (by simp)
def names_Iqn.f (a0 : ByteArray) : Option (Bool) := (names_dated.f a0 (⟨#[105, 113, 110]⟩ : ByteArray)).bind fun t104 => (some t104)
set_option maxHeartbeats 8000000 in
set_option maxRecDepth 100000 in
theorem names_Iqn.calls (a0 : ByteArray) (r : Bool) (w : World) (h : names_Iqn.f a0 = some r) :
    Calls Tryd.prog 61 #[.string a0] w fun e w' => e = .returned (.bool r) ∧ Below w.heap.size w w' := by
  have HB := Aside0.mk (Below.refl w.heap.size w)
  have H : ((names_dated.f a0 (⟨#[105, 113, 110]⟩ : ByteArray)).bind fun t104 => (some t104)) = some r := h
  clear h
  replace H := Option.bind_eq_some_iff.mp H
  obtain ⟨t104, A20, H⟩ := H
  replace H : (some t104) = some r := H
  have A2 := Aside0.mk A20
  clear A20
  obtain rfl := Option.some.inj H
  go_enter Tryd.func61, Tryd.ntmps61
  go_wp2_with (first | ((with_reducible refine gate_callee (f := 71) rfl ?_); refine goesL_ (some 4) rfl rfl Tryd.func71 (by kernel_rfl) rfl #[.string a0, .string (⟨#[105, 113, 110]⟩ : ByteArray)] rfl (by (try simp only [List.map_toArray, List.map_cons, List.map_nil]); first | done | rfl | (simp only [List.length_drop, List.length_take]; rfl)) ?_; (with_reducible refine (names_dated.calls a0 (⟨#[105, 113, 110]⟩ : ByteArray) t104 _ A2.out).mono ?_); rintro e w3 ⟨rfl, hb⟩; refine ⟨_, rfl, ?_⟩; have n0_ := Aside0.mk (below_step (by repeat (first | (with_reducible first | exact HB.out | apply below_alloc | apply pw_below_drewN | apply below_drew1) | exact HB.out)) hb); clear HB; have HB := n0_; clear n0_; (try clear hb); (try clear hb2); (try clear hk); (try clear hi)))
  go_ret
  exact ⟨by first | rfl | (simp [errW_none, errW_some] <;> rfl) | (simp [*, errW_none, errW_some] <;> rfl) | (simp [bt, *]; done) | (unfold bt; simp [*]; done), by repeat (first | (with_reducible first | exact HB.out | apply below_alloc | apply pw_below_drewN | apply below_drew1) | exact HB.out)⟩
def IsS23 (w0 W : World) (g : Nat) (f0 : Bool) (f1 : Bool) (f2 : Bool) (f3 : Bool) (f4 : Int) (f5 : Int) (f6 : ByteArray) (f7 : ByteArray) : Prop := W.heap[g]? = some (.cells #[.bool f0, .bool f1, .bool f2, .bool f3, .int .i64 f4, .int .i64 f5, .string f6, .string f7] 23 (0, 0)) ∧ w0.heap.size ≤ g
theorem IsS23.grown {w0 W : World} {g : Nat} {f0 : Bool} {f1 : Bool} {f2 : Bool} {f3 : Bool} {f4 : Int} {f5 : Int} {f6 : ByteArray} {f7 : ByteArray} {W1 : World} {row : Option Nat} (h : IsS23 w0 W g f0 f1 f2 f3 f4 f5 f6 f7) (hw : W.grownBy W1 row) (hne : some g ≠ row) : IsS23 w0 W1 g f0 f1 f2 f3 f4 f5 f6 f7 := by
 obtain ⟨hb, hg⟩ := h
 exact ⟨blk_grown hb hw hne, hg⟩
theorem IsS23.kept {w0 W : World} {g : Nat} {f0 : Bool} {f1 : Bool} {f2 : Bool} {f3 : Bool} {f4 : Int} {f5 : Int} {f6 : ByteArray} {f7 : ByteArray} {W1 : World} {S : Nat → Prop} (h : IsS23 w0 W g f0 f1 f2 f3 f4 f5 f6 f7) (hk : Kept W W1 S) (hne : ¬ S g) : IsS23 w0 W1 g f0 f1 f2 f3 f4 f5 f6 f7 := by
 obtain ⟨hb, hg⟩ := h
 exact ⟨blk_kept hb hk hne, hg⟩
theorem IsS23.below {w0 W : World} {g : Nat} {f0 : Bool} {f1 : Bool} {f2 : Bool} {f3 : Bool} {f4 : Int} {f5 : Int} {f6 : ByteArray} {f7 : ByteArray} {W1 : World} (h : IsS23 w0 W g f0 f1 f2 f3 f4 f5 f6 f7) (hw : Below W.heap.size W W1) : IsS23 w0 W1 g f0 f1 f2 f3 f4 f5 f6 f7 := h.grown (grown_of_below hw none) (by simp)
theorem IsS23.alloc {w0 W : World} {g : Nat} {f0 : Bool} {f1 : Bool} {f2 : Bool} {f3 : Bool} {f4 : Int} {f5 : Int} {f6 : ByteArray} {f7 : ByteArray} (h : IsS23 w0 W g f0 f1 f2 f3 f4 f5 f6 f7) (o : Obj) : IsS23 w0 (W.alloc o) g f0 f1 f2 f3 f4 f5 f6 f7 := h.below (below_alloc (Below.refl _ _) o)
theorem IsS23.drewN {w0 W : World} {g : Nat} {f0 : Bool} {f1 : Bool} {f2 : Bool} {f3 : Bool} {f4 : Int} {f5 : Int} {f6 : ByteArray} {f7 : ByteArray} (h : IsS23 w0 W g f0 f1 f2 f3 f4 f5 f6 f7) (m : Nat) : IsS23 w0 (W.drewN m) g f0 f1 f2 f3 f4 f5 f6 f7 := h
theorem IsS23.drew {w0 W : World} {g : Nat} {f0 : Bool} {f1 : Bool} {f2 : Bool} {f3 : Bool} {f4 : Int} {f5 : Int} {f6 : ByteArray} {f7 : ByteArray} (h : IsS23 w0 W g f0 f1 f2 f3 f4 f5 f6 f7) : IsS23 w0 W.drew g f0 f1 f2 f3 f4 f5 f6 f7 := h
theorem IsS23.at_ {w0 W : World} {g : Nat} {f0 : Bool} {f1 : Bool} {f2 : Bool} {f3 : Bool} {f4 : Int} {f5 : Int} {f6 : ByteArray} {f7 : ByteArray} {w' : World} {m : Nat} (hq : W.drewN m = w') (h : IsS23 w0 W g f0 f1 f2 f3 f4 f5 f6 f7) : IsS23 w0 w' g f0 f1 f2 f3 f4 f5 f6 f7 := by subst hq; exact IsS23.drewN h m
theorem IsS23.apart {w0 W : World} {g : Nat} {f0 : Bool} {f1 : Bool} {f2 : Bool} {f3 : Bool} {f4 : Int} {f5 : Int} {f6 : ByteArray} {f7 : ByteArray} {α : Type} {d : Kd α} {e : Nat} {base : Nat} {ok : Nat → Prop} {v : Value} {xs : List α} (h : IsS23 w0 W g f0 f1 f2 f3 f4 f5 f6 f7) (ho : d.R e W base ok v xs) (ht : ∀ q, q ∈ e :: d.E → q ≠ 23) : d.R e W base (fun k => ok k ∧ k ≠ g) v xs := by
 obtain ⟨hb, hg⟩ := h
 exact Kd.R_types ho hb ht
theorem IsS23.own_ne {w0 W : World} {g : Nat} {f0 : Bool} {f1 : Bool} {f2 : Bool} {f3 : Bool} {f4 : Int} {f5 : Int} {f6 : ByteArray} {f7 : ByteArray} {α : Type} {d : Kd α} {e : Nat} {base : Nat} {ok : Nat → Prop} {v : Value} {xs : List α} (h : IsS23 w0 W g f0 f1 f2 f3 f4 f5 f6 f7) (ho : d.R e W base ok v xs) (ht : e ≠ 23) : some g ≠ v.ownBlock := by
 obtain ⟨hb, hg⟩ := h
 exact Kd.R_ne ho hb ht
theorem IsS23.lt {w0 W : World} {g : Nat} {f0 : Bool} {f1 : Bool} {f2 : Bool} {f3 : Bool} {f4 : Int} {f5 : Int} {f6 : ByteArray} {f7 : ByteArray} (h : IsS23 w0 W g f0 f1 f2 f3 f4 f5 f6 f7) : g < W.heap.size := by
 obtain ⟨hb, hg⟩ := h
 exact blk_lt hb
def pieces (s : ByteArray) : List ByteArray := Go.Lib.splitB (⟨#[44]⟩ : ByteArray) 0 (Go.Lib.countB s (⟨#[44]⟩ : ByteArray)) s
def isOne (L : List ByteArray) (x : ByteArray) : Bool := L.any fun y => x.toList == y.toList
def chosen (L : List ByteArray) (s : ByteArray) : Option ByteArray := (pieces s).find? (isOne L)
def chosenV (L : List ByteArray) (s : ByteArray) : Value := match chosen L s with | some x => .tuple #[.string x, .bool true] | none => .tuple #[.string (⟨#[]⟩ : ByteArray), .bool false]
theorem find_at {α : Type} (p : α → Bool) : ∀ (l : List α) (k : Nat) (h : k < l.length), (∀ x ∈ l.take k, p x = false) → l.find? p = if p l[k] = true then some l[k] else (l.drop (k + 1)).find? p
  | a :: l, 0, h, _ => by
    rw [List.find?_cons]
    cases hp : p a <;> simp [hp]
  | a :: l, k + 1, h, hn => by
    have h1 := hn a (by simp)
    rw [List.find?_cons, h1]
    exact find_at p l k (by simpa using h) (fun x hx => hn x (by simp [hx]))
theorem find_none {α : Type} (p : α → Bool) (l : List α) (h : ∀ x ∈ l.take l.length, p x = false) : l.find? p = none := by
  rw [List.find?_eq_none]
  intro x hx
  rw [h x (by simpa using hx)]
  decide
set_option maxHeartbeats 8000000 in
set_option maxRecDepth 100000 in
theorem choice_calls (s : ByteArray) (gl cl : Nat) (L : List ByteArray) (w : World) (hG : Glob w) (hs : s.size ≤ 1000000) (hL : L.length ≤ 1000) (hgl : gl < w.heap.size) (hc : ∀ j (h : j < L.length), w.cell? ⟨gl, j, none⟩ = some (.string L[j])) :
    Calls Tryd.prog 48 #[.string s, .slice (some ⟨gl, 0, none⟩) L.length cl] w fun e w' => e = .returned (chosenV L s) ∧ Below w.heap.size w w' := by
  have HG := Aside0.mk hG
  have HC := Aside0.mk hc
  have HGL := Aside0.mk hgl
  have HS := Aside0.mk hs
  clear hG hc hgl hs
  obtain ⟨N, hN⟩ : ∃ N, Go.Lib.countB s (⟨#[44]⟩ : ByteArray) + 1 = N := ⟨_, rfl⟩
  have hP : (pieces s).length = N := (Go.Lib.splitB_all (⟨#[44]⟩ : ByteArray) (by decide) 0 _ s rfl).trans hN
  have hNs : N ≤ 1000001 := by have := Go.Lib.countB_le (⟨#[44]⟩ : ByteArray) (by decide) s.size s (Nat.le_refl _); have := HS.out; omega
  obtain ⟨P, hPe⟩ : ∃ P, pieces s = P := ⟨_, rfl⟩
  have HPE := Aside0.mk hPe
  rw [hPe] at hP
  obtain ⟨V, hV⟩ : ∃ V, chosenV L s = V := ⟨_, rfl⟩
  rw [hV]
  have HVs : ∀ x, P.find? (isOne L) = some x → Value.tuple #[.string x, .bool true] = V := fun x h => by rw [← hV]; unfold chosenV chosen; rw [hPe, h]
  have HVn : P.find? (isOne L) = none → Value.tuple #[.string (⟨#[]⟩ : ByteArray), .bool false] = V := fun h => by rw [← hV]; unfold chosenV chosen; rw [hPe, h]
  have HVS := Aside0.mk HVs
  have HVN := Aside0.mk HVn
  clear HVs HVn hV
  have HN := Aside0.mk hN
  clear hPe hN
  obtain ⟨m, hm⟩ := HG.out.internal_bytealg_MaxLen
  have HM := Aside0.mk hm
  clear hm
  go_enter Tryd.func48, Tryd.ntmps48
  go_wp2_with (go_at_call 65; refine (Tryd.strings_Split s (⟨#[44]⟩ : ByteArray) m _ (Nat.lt_of_le_of_lt HS.out (by decide)) HM.out (by decide)).mono ?_; rintro e w1 ⟨rfl, hw1⟩; rw [HN.out]; have HW1 := Aside0.mk hw1; clear hw1)
  have hB := HW1.out
  have hcell : ∀ j (h : j < P.length), w1.cell? ⟨w.heap.size, j, none⟩ = some (.string P[j]) := by
    intro j h
    have e : Go.Lib.splitB (⟨#[44]⟩ : ByteArray) 0 (Go.Lib.countB s (⟨#[44]⟩ : ByteArray)) s = P := HPE.out
    have hb : w1.heap[w.heap.size]? = some (.cells (P.map Value.string).toArray 9 (0, 0)) := by rw [hB, e]; exact Array.getElem?_push_size
    rw [blk_cell hb j]
    simp [h]
  have hlow : Below w.heap.size w w1 := by rw [hB]; exact below_alloc (Below.refl _ _) _
  have hcl : ∀ j (h : j < L.length), w1.cell? ⟨gl, j, none⟩ = some (.string L[j]) := fun j h => (hlow.cell (p := ⟨gl, j, none⟩) HGL.out).trans (HC.out j h)
  have HCL := Aside0.mk hcl
  have HCP := Aside0.mk hcell
  have HLOW := Aside0.mk hlow
  clear hcl hcell hlow hB HW1 HC
  have HP := Aside0.mk hP
  have HNS := Aside0.mk hNs
  clear hP hNs
  go_loop [13] (fun vi => ∃ i : Nat, vi = .int .i64 i ∧ i ≤ N ∧ Aside0 (∀ x ∈ P.take i, isOne L x = false)) (fun vi => N - (intOf vi).toNat)
  case atStart => exact ⟨0, rfl, by omega, ⟨by intro x hx; cases hx⟩⟩
  case round =>
    obtain ⟨i, rfl, hi, hn⟩ := hrel
    have hNs := HNS.out
    by_cases hlt : i < N
    · have hiP : i < P.length := by rw [HP.out]; exact hlt
      have hci := HCP.out i hiP
      have HF := Aside0.mk (find_at (isOne L) P i hiP hn.out)
      obtain ⟨x, hx⟩ : ∃ x, P[i] = x := ⟨_, rfl⟩
      rw [hx] at hci
      have HX := Aside0.mk hx
      clear hx
      go_wp2
      go_loop [19] (fun vj => ∃ j : Nat, vj = .int .i64 j ∧ j ≤ L.length ∧ Aside0 (∀ y ∈ L.take j, (x.toList == y.toList) = false)) (fun vj => L.length - (intOf vj).toNat)
      case atStart => exact ⟨0, rfl, by omega, ⟨by intro x hx; cases hx⟩⟩
      case round =>
        obtain ⟨j, rfl, hj, hm⟩ := hrel
        by_cases hjl : j < L.length
        · have hcj := HCL.out j hjl
          obtain ⟨y, hy⟩ : ∃ y, L[j] = y := ⟨_, rfl⟩
          rw [hy] at hcj
          have HY := Aside0.mk hy
          clear hy
          by_cases he : (x.toList == y.toList) = true
          · have HE := Aside0.mk he
            have hone : isOne L P[i] = true := by rw [HX.out]; exact List.any_eq_true.mpr ⟨L[j], List.getElem_mem hjl, by rw [HY.out]; exact HE.out⟩
            have hfind : P.find? (isOne L) = some x := by rw [HF.out, if_pos hone, HX.out]
            have HFI := Aside0.mk hfind
            clear hone hfind
            go_wp2
            go_ret2
            exact ⟨congrArg Ending.returned (HVS.out _ HFI.out), HLOW.out⟩
          · have he : (x.toList == y.toList) = false := by simpa using he
            have HE := Aside0.mk he
            go_wp2
            go_round
            case rel => exact ⟨j + 1, by go_num, by omega, ⟨take_one (fun y => x.toList == y.toList) L j hjl hm.out (by rw [HY.out]; exact HE.out)⟩⟩
            case measure => simp [intOf]; omega
        · have hjl : j = L.length := by omega
          subst hjl
          have hone : isOne L P[i] = false := by
            rw [HX.out]
            exact List.any_eq_false.mpr fun y hy => by rw [hm.out y (by simpa using hy)]; decide
          have HO := Aside0.mk (take_one (isOne L) P i hiP hn.out hone)
          clear hone
          go_wp2
          go_round
          case rel => exact ⟨i + 1, by go_num, by omega, HO⟩
          case measure => simp [intOf]; omega
    · have hiN : i = P.length := by rw [HP.out]; omega
      have hfind : P.find? (isOne L) = none := find_none _ _ (by rw [← hiN]; exact hn.out)
      have HFI := Aside0.mk hfind
      clear hfind hiN
      go_wp2
      go_ret2
      exact ⟨congrArg Ending.returned (HVN.out HFI.out), HLOW.out⟩
def pu (n : Nat) : List UInt8 → Nat × Int
  | [] => (n, 0)
  | c :: l => if 48 ≤ c.toNat ∧ c.toNat ≤ 57 then (if n * 10 + (c.toNat - 48) ≤ 16777215 then pu (n * 10 + (c.toNat - 48)) l else (16777215, 1)) else (0, 2)
def puErr (e : Int) : Value := if e = 0 then .nilIface else .iface 110 (.int .i64 e)
def puTup (r : Nat × Int) : Value := .tuple #[.int .u64 (r.1 : Nat), puErr r.2]
theorem pu_lt : ∀ (l : List UInt8) (n : Nat), n ≤ 16777215 → (pu n l).1 ≤ 16777215
  | [], n, h => h
  | c :: l, n, h => by
    unfold pu
    split
    · split
      · next h1 => exact pu_lt l _ h1
      · exact Nat.le_refl _
    · exact Nat.zero_le _
theorem pu_err : ∀ (l : List UInt8) (n : Nat), (pu n l).2 = 0 ∨ (pu n l).2 = 1 ∨ (pu n l).2 = 2
  | [], n => Or.inl rfl
  | c :: l, n => by
    unfold pu
    split
    · split
      · exact pu_err l _
      · exact Or.inr (Or.inl rfl)
    · exact Or.inr (Or.inr rfl)
set_option maxHeartbeats 8000000 in
set_option maxRecDepth 100000 in
theorem parse_inner (s : ByteArray) (w : World) (h0 : 0 < s.size) (h8 : s.size ≤ 8) :
    Calls Tryd.prog 72 #[.string s, .int .i64 10, .int .i64 24] w fun e w' => e = .returned (puTup (pu 0 s.data.toList)) ∧ Below w.heap.size w w' := by
  have hemp : s.toList.isEmpty = false := by
    rw [← decide_eq_emptyBytes]
    exact decide_eq_false (fun h => by rw [h] at h0; exact absurd h0 (by decide))
  have hcv := Go.Lib.run_convert_string_bytes (P := Tryd.prog) w 9 66 5 s (u := .string) Tryd.underlying9 Tryd.underlying66 Tryd.underlying5
  have hB : ∀ j, j < s.size → (Go.Lib.bytesWorld w 5 s).cell? ⟨w.heap.size, j, none⟩ = some (.int .u8 (s.data.toList.getD j 0).toNat) := fun j hj => Go.Lib.bytesWorld_cell w 5 s j hj
  have hW := Aside0.mk (Go.Lib.bytesWorld_below w 5 s)
  obtain ⟨W1, hW1⟩ : ∃ W1, W1 = Go.Lib.bytesWorld w 5 s := ⟨_, rfl⟩
  rw [← hW1] at hcv hB hW
  clear hW1
  obtain ⟨bs, hL⟩ : ∃ bs, bs = s.data.toList := ⟨_, rfl⟩
  have hLn : bs.length = s.size := by rw [hL]; rfl
  rw [← hL] at hB ⊢
  clear hL
  have hmv : IntKind.u64.wrap (IntKind.u64.wrap 16777216 - 1) = 16777215 := by
    rw [IntKind.wrap_u64, IntKind.wrap_u64]
    decide
  go_enter Tryd.func72, Tryd.ntmps72
  go_wp2
  go_loop [12, 13, 101] (fun vu vn vi => ∃ (k acc : Nat) (a : Int), vu = .bool false ∧ vn = .int .u64 a ∧ vi = .int .i64 k ∧ k ≤ s.size ∧ Hid (a = (acc : Int) ∧ acc ≤ 16777215 ∧ pu 0 bs = pu acc (bs.drop k))) (fun _ _ vi => s.size - (intOf vi).toNat)
  case atStart => exact ⟨0, 0, 0, rfl, rfl, rfl, by omega, rfl, by omega, rfl⟩
  case round =>
    obtain ⟨k, acc, a, rfl, rfl, rfl, hk, hh⟩ := hrel
    obtain ⟨ha, hacc, hdec⟩ := hh.out
    clear hh
    have a0 : 0 ≤ a := by omega
    have a1 : a ≤ 16777215 := by omega
    by_cases hkn : k < s.size
    · have hc := hB k hkn
      have hdrop : bs.drop k = bs[k]'(by omega) :: bs.drop (k + 1) := List.drop_eq_getElem_cons (by omega)
      have hget : bs.getD k 0 = bs[k]'(by omega) := by simp [List.getD, List.getElem?_eq_getElem (show k < bs.length by omega)]
      rw [hdrop] at hdec
      rw [hget] at hc
      generalize bs[k]'(by omega) = c at hc hdec
      have hc256 : c.toNat < 256 := c.toNat_lt
      clear hB hdrop hget
      by_cases hdig : 48 ≤ c.toNat ∧ c.toNat ≤ 57
      · by_cases hov : acc * 10 + (c.toNat - 48) ≤ 16777215
        · have hF : pu acc (c :: bs.drop (k + 1)) = pu (acc * 10 + (c.toNat - 48)) (bs.drop (k + 1)) := by rw [pu, if_pos hdig, if_pos hov]
          obtain ⟨hd0, hd1⟩ := hdig
          have HN : Hid (a * 10 + ((c.toNat : Int) - 48) = ((acc * 10 + (c.toNat - 48) : Nat) : Int) ∧ acc * 10 + (c.toNat - 48) ≤ 16777215 ∧ pu 0 bs = pu (acc * 10 + (c.toNat - 48)) (bs.drop (k + 1))) := ⟨by omega, by omega, hdec.trans hF⟩
          have iov : a * 10 + ((c.toNat : Int) - 48) ≤ 16777215 := by omega
          clear hacc hF hov hdec ha
          go_wp2
          refine ⟨⟨k + 1, acc * 10 + (c.toNat - 48), a * 10 + ((c.toNat : Int) - 48), rfl, (by first | rfl | (congr 1; omega)), (by first | rfl | (congr 1; omega)), by omega, HN⟩, by simp [intOf]; omega⟩
        · have hF : pu acc (c :: bs.drop (k + 1)) = (16777215, 1) := by rw [pu, if_pos hdig, if_neg hov]
          obtain ⟨hd0, hd1⟩ := hdig
          rw [hF] at hdec
          have iov : 16777215 < a * 10 + ((c.toNat : Int) - 48) := by omega
          clear hacc hF hov ha
          go_wp2
          go_ret2
          first | exact ⟨rfl, hW.out⟩ | exact ⟨by rw [hdec]; rfl, hW.out⟩
      · have hF : pu acc (c :: bs.drop (k + 1)) = (0, 2) := by rw [pu, if_neg hdig]
        rw [hF] at hdec
        clear hacc hF ha
        have hv0 := bits_lo_u8 .or (c.toNat : Int) 32
        have hv1 := bits_hi_u8 .or (c.toNat : Int) 32
        have hu0 := bits_lo_u8 .or 95 32
        have hu1 := bits_hi_u8 .or 95 32
        go_wp2_with (go_at_call 83; refine (Tryd.internal_strconv_lower _ _).mono ?_; rintro e w' ⟨rfl, rfl⟩)
        all_goals go_ret2
        all_goals first | exact ⟨rfl, hW.out⟩ | exact ⟨by rw [hdec]; rfl, hW.out⟩
    · have hkk : k = s.size := by omega
      subst hkk
      have hF : pu acc (bs.drop s.size) = (acc, 0) := by rw [List.drop_eq_nil_of_le (by omega)]; rfl
      rw [hF] at hdec
      subst ha
      clear hacc hF a0 a1
      go_wp2
      go_ret2
      first | exact ⟨rfl, hW.out⟩ | exact ⟨by rw [hdec]; rfl, hW.out⟩
set_option maxHeartbeats 4000000 in
set_option maxRecDepth 100000 in
theorem parse_good (s : ByteArray) (n : Nat) (w : World) (h0 : 0 < s.size) (h8 : s.size ≤ 8) (h : pu 0 s.data.toList = (n, 0)) :
    Calls Tryd.prog 63 #[.string s, .int .i64 10, .int .i64 24] w fun e w' => e = .returned (.tuple #[.int .u64 (n : Nat), .nilIface]) ∧ Below w.heap.size w w' := by
  have HH := Aside0.mk h
  have HB := Aside0.mk (Below.refl w.heap.size w)
  clear h
  go_enter Tryd.func63, Tryd.ntmps63
  go_wp2_with (go_at_call 72; refine (parse_inner s _ h0 h8).mono ?_; rintro e w1 ⟨rfl, hb⟩; have HB1 := Aside0.mk hb; clear hb; rw [HH.out, show puTup (n, 0) = .tuple #[.int .u64 (n : Nat), .nilIface] from rfl])
  go_ret2
  exact ⟨rfl, HB1.out⟩
set_option maxHeartbeats 4000000 in
set_option maxRecDepth 100000 in
theorem parse_range (s : ByteArray) (n : Nat) (w : World) (h0 : 0 < s.size) (h8 : s.size ≤ 8) (h : pu 0 s.data.toList = (n, 1)) (hG : G_strconv_ErrRange w) :
    Calls Tryd.prog 63 #[.string s, .int .i64 10, .int .i64 24] w fun e w' => (∃ t p, e = .returned (.tuple #[.int .u64 (n : Nat), .iface t p])) ∧ Below w.heap.size w w' := by
  have HH := Aside0.mk h
  have HB := Aside0.mk (Below.refl w.heap.size w)
  have HG := Aside0.mk hG
  have H8 := Aside0.mk h8
  clear h hG h8
  go_enter Tryd.func63, Tryd.ntmps63
  go_wp2_with (go_at_call 72; refine (parse_inner s _ h0 H8.out).mono ?_; rintro e w1 ⟨rfl, hb⟩; have HB1 := Aside0.mk hb; clear hb; rw [HH.out, show puTup (n, 1) = .tuple #[.int .u64 (n : Nat), .iface 110 (.int .i64 1)] from rfl])
  obtain ⟨ev, h1, h2⟩ := G_strconv_ErrRange.keep HG.out HB1.out
  have H1 := Aside0.mk h1
  have H2 := Aside0.mk h2
  clear h1 h2
  go_wp2_with (go_at_call 73; with_reducible refine (Tryd.strconv_toError_range _ s 10 24 ev _ (Nat.le_trans H8.out (by decide)) H1.out H2.out).mono ?_; rintro e w2 ⟨N, rfl, -, -, hb⟩; have HB2 := Aside0.mk (below_step HB1.out hb); clear hb)
  go_ret2
  exact ⟨⟨_, _, rfl⟩, HB2.out⟩
set_option maxHeartbeats 4000000 in
set_option maxRecDepth 100000 in
theorem parse_syntax (s : ByteArray) (n : Nat) (w : World) (h0 : 0 < s.size) (h8 : s.size ≤ 8) (h : pu 0 s.data.toList = (n, 2)) (hG : G_strconv_ErrSyntax w) :
    Calls Tryd.prog 63 #[.string s, .int .i64 10, .int .i64 24] w fun e w' => (∃ t p, e = .returned (.tuple #[.int .u64 (n : Nat), .iface t p])) ∧ Below w.heap.size w w' := by
  have HH := Aside0.mk h
  have HB := Aside0.mk (Below.refl w.heap.size w)
  have HG := Aside0.mk hG
  have H8 := Aside0.mk h8
  clear h hG h8
  go_enter Tryd.func63, Tryd.ntmps63
  go_wp2_with (go_at_call 72; refine (parse_inner s _ h0 H8.out).mono ?_; rintro e w1 ⟨rfl, hb⟩; have HB1 := Aside0.mk hb; clear hb; rw [HH.out, show puTup (n, 2) = .tuple #[.int .u64 (n : Nat), .iface 110 (.int .i64 2)] from rfl])
  obtain ⟨ev, h1, h2⟩ := G_strconv_ErrSyntax.keep HG.out HB1.out
  have H1 := Aside0.mk h1
  have H2 := Aside0.mk h2
  clear h1 h2
  go_wp2_with (go_at_call 73; with_reducible refine (Tryd.strconv_toError_syntax _ s 10 24 ev _ (Nat.le_trans H8.out (by decide)) H1.out H2.out).mono ?_; rintro e w2 ⟨N, rfl, -, -, hb⟩; have HB2 := Aside0.mk (below_step HB1.out hb); clear hb)
  go_ret2
  exact ⟨⟨_, _, rfl⟩, HB2.out⟩
def numB (s : ByteArray) (least : Int) : Int × Bool :=
  if s.size = 0 ∨ 8 < s.size ∨ (1 < s.size ∧ s.data.toList.getD 0 0 = 48) then (0, false) else (((pu 0 s.data.toList).1 : Nat), decide ((pu 0 s.data.toList).2 = 0) && decide (least ≤ ((pu 0 s.data.toList).1 : Nat)))
def keys_number.f (a0 : ByteArray) (a1 : Int) : Option (Int × Bool) := some (numB a0 a1)
theorem first_byte (s : ByteArray) (h0 : 0 < s.size) : s[0] = s.data.toList.getD 0 0 := by
  rcases s with ⟨⟨l⟩⟩
  cases l with
  | nil => exact absurd h0 (by decide)
  | cons a l => rfl
set_option maxHeartbeats 4000000 in
set_option maxRecDepth 100000 in
theorem num_bad (s : ByteArray) (least : Int) (w : World) (h : s.size = 0 ∨ 8 < s.size ∨ (1 < s.size ∧ s.data.toList.getD 0 0 = 48)) :
    Calls Tryd.prog 41 #[.string s, .int .i64 least] w fun e w' => e = .returned (.tuple #[.int .i64 0, .bool false]) ∧ Below w.heap.size w w' := by
  rcases Nat.eq_zero_or_pos s.size with h0 | h0
  · have hemp : s.toList.isEmpty = true := by
      rw [← decide_eq_emptyBytes]
      exact decide_eq_true (by rcases s with ⟨⟨l⟩⟩; cases l <;> first | rfl | cases h0)
    clear h h0
    go_enter Tryd.func41, Tryd.ntmps41
    go_wp2
    go_ret2
    exact ⟨rfl, Below.refl _ _⟩
  · have hemp : s.toList.isEmpty = false := by
      rw [← decide_eq_emptyBytes]
      exact decide_eq_false (fun h => by rw [h] at h0; exact absurd h0 (by decide))
    by_cases h8 : 8 < s.size
    · have i8 : (8 : Int) < s.size := by omega
      clear h
      go_enter Tryd.func41, Tryd.ntmps41
      go_wp2
      go_ret2
      exact ⟨rfl, Below.refl _ _⟩
    · obtain ⟨h1, hx⟩ : 1 < s.size ∧ s.data.toList.getD 0 0 = 48 := (h.resolve_left (Nat.ne_of_gt h0)).resolve_left h8
      have i8 : (s.size : Int) ≤ 8 := by omega
      have i1 : (1 : Int) < s.size := by omega
      have ix : ((s[0].toNat : Int) == 48) = true := by rw [first_byte s h0, hx]; rfl
      clear h hx h8
      go_enter Tryd.func41, Tryd.ntmps41
      go_wp2
      go_ret2
      exact ⟨rfl, Below.refl _ _⟩
set_option maxHeartbeats 8000000 in
set_option maxRecDepth 100000 in
theorem num_good (s : ByteArray) (least : Int) (w : World) (hG : Glob w) (h0 : 0 < s.size) (h8 : s.size ≤ 8) (hx : s.size ≤ 1 ∨ 1 < s.size ∧ s.data.toList.getD 0 0 ≠ 48) :
    Calls Tryd.prog 41 #[.string s, .int .i64 least] w fun e w' => e = .returned (.tuple #[.int .i64 ((pu 0 s.data.toList).1 : Nat), .bool (decide ((pu 0 s.data.toList).2 = 0) && decide (least ≤ ((pu 0 s.data.toList).1 : Nat)))]) ∧ Below w.heap.size w w' := by
  have hemp : s.toList.isEmpty = false := by
    rw [← decide_eq_emptyBytes]
    exact decide_eq_false (fun h => by rw [h] at h0; exact absurd h0 (by decide))
  have i8 : (s.size : Int) ≤ 8 := by omega
  have hlt := pu_lt s.data.toList 0 (by omega)
  have hce := pu_err s.data.toList 0
  obtain ⟨n, c, hr⟩ : ∃ n c, pu 0 s.data.toList = (n, c) := ⟨_, _, rfl⟩
  rw [hr] at hlt hce ⊢
  dsimp only at hlt hce ⊢
  obtain ⟨a, ha⟩ : ∃ a : Int, (n : Int) = a := ⟨_, rfl⟩
  have a0 : 0 ≤ a := by omega
  have a1 : a ≤ 16777215 := by omega
  have HA := Aside0.mk ha
  have H0 := Aside0.mk h0
  have H8 := Aside0.mk h8
  have HR := Aside0.mk hr
  have HGG := Aside0.mk hG
  have hix : (s.size : Int) ≤ 1 ∨ (1 : Int) < s.size ∧ ((s[0].toNat : Int) == 48) = false := by
    rcases hx with hx | ⟨h1, hx⟩
    · exact Or.inl (by omega)
    · refine Or.inr ⟨by omega, beq_eq_false_iff_ne.mpr fun e => hx ?_⟩
      rw [first_byte s h0] at e
      exact UInt8.toNat_inj.mp (by have : ((s.data.toList.getD 0 0).toNat : Int) = 48 := e; exact Int.ofNat_inj.mp this)
  clear hx h8 hr hG hlt
  rw [ha]
  clear ha
  rcases hce with rfl | rfl | rfl
  · by_cases hl : least ≤ a
    all_goals
      rcases hix with i1 | ⟨i1, ix⟩
      all_goals
        go_enter Tryd.func41, Tryd.ntmps41
        go_wp2_with (go_at_call 63; refine (parse_good s n _ H0.out H8.out HR.out).mono ?_; rintro e w1 ⟨rfl, hb⟩; have HB1 := Aside0.mk hb; clear hb; rw [HA.out])
        go_ret2
        exact ⟨by first | rfl | (simp [hl]; done), HB1.out⟩
  · rcases hix with i1 | ⟨i1, ix⟩
    all_goals
      go_enter Tryd.func41, Tryd.ntmps41
      go_wp2_with (go_at_call 63; refine (parse_range s n _ H0.out H8.out HR.out HGG.out.strconv_ErrRange).mono ?_; rintro e w1 ⟨⟨t, p, rfl⟩, hb⟩; have HB1 := Aside0.mk hb; clear hb; rw [HA.out])
      go_ret2
      exact ⟨rfl, HB1.out⟩
  · rcases hix with i1 | ⟨i1, ix⟩
    all_goals
      go_enter Tryd.func41, Tryd.ntmps41
      go_wp2_with (go_at_call 63; refine (parse_syntax s n _ H0.out H8.out HR.out HGG.out.strconv_ErrSyntax).mono ?_; rintro e w1 ⟨⟨t, p, rfl⟩, hb⟩; have HB1 := Aside0.mk hb; clear hb; rw [HA.out])
      go_ret2
      exact ⟨rfl, HB1.out⟩
theorem keys_number.calls (a0 : ByteArray) (a1 : Int) (r1 : Int) (r2 : Bool) (w : World) (hG : Glob w) (h : keys_number.f a0 a1 = some (r1, r2)) :
    Calls Tryd.prog 41 #[.string a0, .int .i64 a1] w fun e w' => e = .returned (.tuple #[.int .i64 r1, .bool r2]) ∧ Below w.heap.size w w' := by
  have h := Option.some.inj h
  unfold numB at h
  split at h
  · next hb =>
    cases h
    exact num_bad a0 a1 w hb
  · next hb =>
    cases h
    have h0 : 0 < a0.size := Nat.pos_of_ne_zero fun z => hb (Or.inl z)
    have h8 : a0.size ≤ 8 := Nat.le_of_not_lt fun z => hb (Or.inr (Or.inl z))
    refine num_good a0 a1 w hG h0 h8 ?_
    by_cases h1 : 1 < a0.size
    · exact Or.inr ⟨h1, fun z => hb (Or.inr (Or.inr ⟨h1, z⟩))⟩
    · exact Or.inl (Nat.le_of_not_lt h1)
end Go.Proofs.YtclcnkmefldpiaaDoor.P
