-- joined by this session's wip/tools/pack.py: words of the kit's print, cut to what the claim names; functions printed by a patched copy of the printer; walks and lemmas of this session; Lean checks it
import Derived.Test.YthglbmihbmneaaaGreatDoorBa0
import Derived.Test.YthglbmihbmneaaaGreatDoorProg
import Derived.WalkKit
import Derived.RegionTactic
import Derived.Deep.QuietTactic
import Derived.BigQuiet
import Derived.Laws.RangeAny
import Derived.Laws.BitsLemmas
import Derived.RowKit
import Derived.Shelf.Strings.Builder1
import Derived.Shelf.Small.Strs
import Derived.Shelf.Strings.BuilderF
import Derived.Shelf.Strings.BuilderK
import Derived.Shelf.Strconv.Itoa0
import Derived.Shelf.Strconv.Itoa1
import Derived.Shelf.LaysM
import Derived.Shelf.Strconv.Itoa2
import Derived.Shelf.Strconv.Itoa3
import Derived.Shelf.Strconv.Clone
import Derived.Shelf.Strconv.SyntaxError
import Derived.Shelf.LaysC
import Derived.Shelf.Strconv.ToError
import Derived.Shelf.Strconv.Lower
import Derived.Shelf.Strconv.RangeError
import Derived.Shelf.Strconv.ToErrorRange
import Derived.Shelf.Strings.Search1
import Derived.Shelf.Strings.Search2
import Derived.Shelf.Strings.Search3
import Derived.Shelf.Strings.Cut
import Derived.Shelf.Strings.Count
import Derived.Shelf.Strings.Shaped
import Derived.Shelf.Strings.Prefix
import Derived.Shelf.Strings.Split
import Derived.Shelf.Unicode.DecodeSlow
import Derived.Below
import Derived.Deep.Draws
import Derived.Deep.AppendLies
import Derived.Maps.AppendAt
import Derived.OwnWalk
import Derived.Laws.BytesArg
import Derived.Laws.MakeOwn
import Derived.Laws.OwnMore
import Derived.Deep.OwnRows
import Derived.Tactics
import Derived.Lib.ConvBytes
import Derived.Laws.Slices
import Derived.KernelRfl
import Derived.RowKit3
import Derived.Deep.LoopGhost
import Derived.WideLaws
import Derived.Deep.DeepCutAuto
import Derived.Deep.CutBlock
import Derived.Deep.RegionHeld3
import Derived.Laws.Rows
import Derived.Lib.AppendStr
import Derived.ArgAppend
import Derived.Laws.IdiomCopy
import Derived.OrdersHeld
import Derived.Lib.AppendIntMem
import Derived.IntWalk
import Derived.Maps.OwnSet
import Derived.StringKeys
import Derived.LaidEql
import Derived.Stop.Asserts
import Derived.RowKitTokens
import Derived.Recover
import Derived.Defers
import Derived.Laws.Pointers
import Derived.Maps.Own
import Derived.Maps.OwnOps
import Derived.Maps.Views
import Derived.Carry
import Derived.Lib.SliceRun
namespace Go.Proofs.YthglbmihbmneaaaGreatDoorW.PrintLast
open Go.Proofs.YthglbmihbmneaaaGreatDoorW.PrintWords (Aside0)
section
variable {P : Program} {ops : Array Oper} {Q : Exit → Act → World → Prop} {md : Region.Mode} {S : World → Prop} {ds : List Nat} {T : Bool × List (List Nat × List Nat)} {B : List Nat}
def dB (n m : Nat) : Array Bool := ((List.range n).map fun i => m.testBit i).toArray
theorem neg_first {p q : Prop} (hn : ¬ p → q) (hp : p → q) : q := (Classical.em p).elim hp hn
theorem la_ {α : Type} (l : List α) (i : Nat) (a : α) : l.toArray.setIfInBounds i a = (l.set i a).toArray := by simp
theorem lb_ {α : Type} (a x : α) (l : List α) : (a :: l).set 0 x = x :: l := rfl
theorem lc_ {α : Type} (a x : α) (l : List α) (i : Nat) : (a :: l).set (i + 1) x = a :: l.set i x := rfl
theorem pon_ (i : Nat) (N : Option Tmp) {oi : Oper} {v : Value} {fuel : Nat} {l : Array Bool} {a : Act} {w : World} (l' : Array Bool) (hT : rtab md ops = T) {a' : Act} (h : wpAnyLast P md ops Q S ds fuel l' a' w)
    (hi : ops[i]? = some oi := by rfl) (hN : oi.dst = N := by rfl) (hc : anyT T l.toList l'.toList i = true := by kernel_rfl) (hQ : ∀ c a w, Q (.panic c) (a.put oi.dst v) w → Q (.panic c) a w := by exact (fun _ _ _ h => h))
    (hw : Region.wanted oi (yielded ops a.tmps) = true := by rfl) (hy : ∀ w', (execOp a.eval oi).run P w' = .ok (.value v) w' := by intro w'; go_simp; with_reducible rfl)
    (ha : a.put N v = a' := by simp only [Act.put, la_, lb_, lc_, i64_w, i32_w]; rfl) : wpAnyLast P md ops Q S ds (fuel + 1) l a w :=
  pure_ (i := i) (N := N) (v := v) l' hi hN (any_of hT hc) hQ (Or.inl ⟨hw, hy⟩) ha h
theorem ptk_ (i : Nat) (N : Option Tmp) {oi : Oper} {v : Value} {fuel : Nat} {l : Array Bool} {a : Act} {w : World} (l' : Array Bool) (hT : rtab md ops = T) (hB : waitsOk T.2 B = true) (hS : S w) {a' : Act} (h : wpAnyLast P md ops Q S ds fuel l' a' w)
    (hi : ops[i]? = some oi := by rfl) (hN : oi.dst = N := by rfl) (hc : takeW T B ds l.toList l'.toList i = true := by kernel_rfl) (hQ : ∀ c a w, Q (.panic c) (a.put oi.dst v) w → Q (.panic c) a w := by exact (fun _ _ _ h => h))
    (hw : Region.wanted oi (yielded ops a.tmps) = true := by rfl) (hy : ∀ w', S w' → (execOp a.eval oi).run P w' = .ok (.value v) w' := by intro w' hs_; (try dsimp only at hs_); (repeat (obtain ⟨_, hs_⟩ := hs_)); go_simp; with_reducible rfl)
    (ha : a.put N v = a' := by simp only [Act.put, la_, lb_, lc_, i64_w, i32_w]; rfl) : wpAnyLast P md ops Q S ds (fuel + 1) l a w :=
  take_ (i := i) (N := N) (v := v) l' hi hN (take_ofW hT hB hc) hQ (Or.inl ⟨hw, hy⟩) hS ha h
end
section
open Go.RowKit Go.Proofs.YthglbmihbmneaaaGreatDoorW.PrintWords
def Up (w' w : World) : Prop := ∀ (g : Nat) (o : Obj), w'.heap[g]? = some o → w.heap[g]? = some o
theorem up_refl {w : World} : Up w w := fun _ _ h => h
theorem up_drewN {w' w : World} {m : Nat} (h : Up w' w) : Up w' (w.drewN m) := fun g o x => blk_drewN (h g o x) m
theorem up_drew {w' w : World} (h : Up w' w) : Up w' w.drew := fun g o x => blk_drew (h g o x)
theorem up_alloc {w' w : World} {q : Obj} (h : Up w' w) : Up w' (w.alloc q) := fun g o x => blk_alloc (h g o x) q
theorem bk_ {w' w : World} {g : Nat} {o : Obj} (h : Aside0 (w'.heap[g]? = some o)) (e : Up w' w := by (with_reducible repeat (first | exact up_refl | refine up_drewN ?_ | refine up_drew ?_ | refine up_alloc ?_))) : w.heap[g]? = some o := e g o h.out
def UpB (w0 w' w : World) : Prop := Below w0.heap.size w0 w' → Below w0.heap.size w0 w
theorem upb_refl {w0 w : World} : UpB w0 w w := fun h => h
theorem upb_drewN {w0 w' w : World} {m : Nat} (h : UpB w0 w' w) : UpB w0 w' (w.drewN m) := fun x => pw_below_drewN (h x) m
theorem upb_drew {w0 w' w : World} (h : UpB w0 w' w) : UpB w0 w' w.drew := fun x => below_drew1 (h x)
theorem upb_alloc {w0 w' w : World} {q : Obj} (h : UpB w0 w' w) : UpB w0 w' (w.alloc q) := fun x => below_alloc (h x) q
theorem upb_set {w0 w' w : World} {g j : Nat} {v : Value} (h : UpB w0 w' w) (hg : w0.heap.size ≤ g) : UpB w0 w' (w.setCell ⟨g, j, none⟩ v) := fun x => below_set (h x) hg
theorem hb_ {w0 w' w : World} (h : Aside0 (Below w0.heap.size w0 w')) (e : UpB w0 w' w := by (with_reducible repeat (first | exact upb_refl | refine upb_drewN ?_ | refine upb_drew ?_ | refine upb_alloc ?_ | refine upb_set ?_ (Aside0.out (by assumption))))) : Below w0.heap.size w0 w := e h.out
end
end Go.Proofs.YthglbmihbmneaaaGreatDoorW.PrintLast
namespace Go.Proofs.YthglbmihbmneaaaGreatDoor.P.Hand
open Go.RowKit Go.Proofs.YthglbmihbmneaaaGreatDoorW.PrintWords Go.Proofs.YthglbmihbmneaaaGreatDoorW.PrintLast Go.Proofs.YthglbmihbmneaaaGreatDoorW.PrintMore
def dropSeq : Nat → Code → Code
  | 0, c => c
  | n + 1, .seq _ b => dropSeq n b
  | _ + 1, _ => .skip
def pieceSeq (n : Nat) (c : Code) : Code := match dropSeq n c with
  | .seq x _ => x
  | c => c
theorem at_world {P : Program} {c : Code} {Q : Exit → Act → World → Prop} {a : Act} {w : World} (S : World → Prop) (hS : S w) (h : ∀ w', S w' → Code.wp P c Q a w') : Code.wp P c Q a w := h w hS
theorem wp_part {P : Program} {c : Code} {Q : Exit → Act → World → Prop} {a : Act} {w : World} (n : Nat) (hc : dropSeq n c = .seq (pieceSeq n c) (dropSeq (n + 1) c))
    (hA : ∀ K : Act → World → Prop, (∀ a' w', Code.wp P (dropSeq (n + 1) c) Q a' w' → K a' w') → Code.wp P (pieceSeq n c) (Exit.then K Q) a w) : Code.wp P (dropSeq n c) Q a w := by
  rw [hc]
  exact wp_seq (hA _ (fun _ _ h => h))
theorem wp_whole {P : Program} {c : Code} {Q : Exit → Act → World → Prop} {a : Act} {w : World} (h : Code.wp P (dropSeq 0 c) Q a w) : Code.wp P c Q a w := h
end Go.Proofs.YthglbmihbmneaaaGreatDoor.P.Hand
namespace Go.Proofs.YthglbmihbmneaaaGreatDoorW.PrintWords
open Go.RowKit
section
variable {P : Program} {ops : Array Oper} {rest : List Oper} {o : Oper} {a : Act} {Q : Exit → Act → World → Prop}
theorem lit_event {W : World} (hgd : o.guard = none) {N : Tmp} (_hd : o.dst = some N) {cs : Array Value} {t : TypeId} {n : Nat}
    (hrun : (execOp a.eval o).run P W = .ok (.value (.slice (some ⟨W.heap.size, 0, none⟩) n n)) (W.alloc (.cells cs t (0, 0))))
    (h : ∀ g, g = W.heap.size → ∀ w1, w1.heap[g]? = some (.cells cs t (0, 0)) → Below W.heap.size W w1 → wpList P ops Q rest (a.put o.dst (.slice (some ⟨g, 0, none⟩) n n)) w1) : wpList P ops Q (o :: rest) a W :=
  Kd.event_run hgd hrun (h _ rfl _ (blk_new W _) (below_alloc (Below.refl _ _) _))
end
def rowN (n : Nat) (f : Nat → Bool) : Array Value := ((List.range n).map fun i => Value.bool (f i)).toArray
theorem rowN_size (n : Nat) (f : Nat → Bool) : (rowN n f).size = n := by simp [rowN]
theorem rowN_get (n : Nat) (f : Nat → Bool) (i : Nat) (h : i < n) : (rowN n f)[i]? = some (.bool (f i)) := by
  unfold rowN
  rw [List.getElem?_toArray, List.getElem?_map, List.getElem?_range h]
  rfl
theorem rowN_set (n : Nat) (f : Nat → Bool) (c : Nat) (_h : c < n) : (rowN n f).setIfInBounds c (.bool true) = rowN n (fun i => f i || decide (i = c)) := by
  apply Array.ext
  · simp [rowN]
  · intro i h1 h2
    have hi : i < n := by simpa [rowN] using h2
    rw [Array.getElem_setIfInBounds (by rw [rowN_size]; exact hi)]
    simp only [rowN, List.getElem_toArray, List.getElem_map, List.getElem_range]
    by_cases hc : c = i
    · subst hc
      simp
    · rw [if_neg hc, decide_eq_false (Ne.symm hc)]
      simp
end Go.Proofs.YthglbmihbmneaaaGreatDoorW.PrintWords
namespace Go.Proofs.YthglbmihbmneaaaGreatDoor.Crc
open Go.RowKit
def poly : Nat := 2197175160
def f (x : Nat) : Nat := (x >>> 1) ^^^ (if x % 2 = 1 then poly else 0)
def it : Nat → Nat → Nat
  | 0, x => x
  | n + 1, x => it n (f x)
def tab : List Int := [0, 274646895, 549293790, 820201905, 1098587580, 1361435347, 1640403810, 1905808397, 2197175160, 2460548119, 2722870694, 2987750089, 3280807620, 3553878443, 3811616794, 4084100981]
def tat (i : Nat) : Int := tab.getD i 0
def half (w : Int) : Int := Go.bits .xor .u32 (w / 16) (tat (Go.bits .and .u32 w 15).toNat)
def step (w c : Int) : Int := half (half (Go.bits .xor .u32 w c))
def g (w : Nat) (l : List UInt8) : Nat := l.foldl (fun w c => it 8 (w ^^^ c.toNat)) w
end Go.Proofs.YthglbmihbmneaaaGreatDoor.Crc
namespace Go.Proofs
open Go.Shelf
def Tryz.lays169_ren : Go.Shelf.Ren := ⟨fun | 169 => 69 | n => n, fun | 70 => 147 | 9 => 9 | 0 => 0 | 72 => 149 | 37 => 78 | 127 => 172 | 3 => 3 | 5 => 5 | n => n, fun | n => n⟩
theorem Tryz.lays169 : Go.Proofs.Lays.n169 Tryz.prog Tryz.lays169_ren := {
  mixed := by kernel_rfl
  f169 := Tryz.func69.trans (congrArg some (by kernel_rfl))
  t0 := Tryz.underlying0
  a0 := Tryz.isAgg0
  z0 := Tryz.sizeOf0
  v0 := Tryz.zeroValue0
  t3 := Tryz.underlying3
  a3 := Tryz.isAgg3
  z3 := Tryz.sizeOf3
  v3 := Tryz.zeroValue3
  t9 := Tryz.underlying9
  a9 := Tryz.isAgg9
  z9 := Tryz.sizeOf9
  v9 := Tryz.zeroValue9
  t37 := Tryz.underlying78
  a37 := Tryz.isAgg78
  z37 := Tryz.sizeOf78
  v37 := Tryz.zeroValue78
  t70 := Tryz.underlying147
  a70 := Tryz.isAgg147
  z70 := Tryz.sizeOf147
  v70 := Tryz.zeroValue147
  t72 := Tryz.underlying149
  a72 := Tryz.isAgg149
  z72 := Tryz.sizeOf149
  v72 := Tryz.zeroValue149
  t127 := Tryz.underlying172
  a127 := Tryz.isAgg172
  z127 := Tryz.sizeOf172
  v127 := Tryz.zeroValue172 }
theorem Tryz.Builder_Extra_169 : Builder.Extra Tryz.prog Tryz.lays169_ren := {
  sizeBuilder := by kernel_rfl
  liesBuilder := by kernel_rfl
  t5 := Tryz.underlying5
  a5 := Tryz.isAgg5
  z5 := Tryz.sizeOf5
  v5 := Tryz.zeroValue5
  infoByte := by kernel_rfl
  cellsByte := by kernel_rfl
  sizeByte := by kernel_rfl
  neB5 := by decide }
open Go.RowKit in
theorem Tryz.Builder_String_any (B b : Nat) (l : List UInt8) (w : World) (h : Lib.IsBuilder 149 5 B b (Lib.byteCells l) w) (hBw : B ≤ w.heap.size) :
    Calls Tryz.prog 69 #[.pointer (some ⟨b, 0, none⟩)] w fun e w' => e = .returned (.string ⟨l.toArray⟩) ∧ Below B w w' := Any.Builder_String_any Tryz.lays169 Tryz.Builder_Extra_169 B b l w h hBw
def Tryz.lays137_ren : Go.Shelf.Ren := ⟨fun | 137 => 81 | 217 => 103 | 266 => 115 | n => n, fun | 9 => 9 | 5 => 5 | 3 => 3 | n => n, fun | n => n⟩
theorem Tryz.lays137 : Go.Proofs.Lays.n137 Tryz.prog Tryz.lays137_ren := {
  mixed := by kernel_rfl
  f137 := Tryz.func81.trans (congrArg some (by kernel_rfl))
  f217 := Tryz.func103.trans (congrArg some (by kernel_rfl))
  f266 := Tryz.func115.trans (congrArg some (by kernel_rfl))
  t3 := Tryz.underlying3
  a3 := Tryz.isAgg3
  z3 := Tryz.sizeOf3
  v3 := Tryz.zeroValue3
  t5 := Tryz.underlying5
  a5 := Tryz.isAgg5
  z5 := Tryz.sizeOf5
  v5 := Tryz.zeroValue5
  t9 := Tryz.underlying9
  a9 := Tryz.isAgg9
  z9 := Tryz.sizeOf9
  v9 := Tryz.zeroValue9 }
open Go.RowKit in
theorem Tryz.strings_IndexByte (s : ByteArray) (c : Int) (w : World) :
    Calls Tryz.prog 81 #[.string s, .int .u8 c] w fun e w' => e = .returned (.int .i64 (Lib.indexByte s.data.toList c.toNat.toUInt8)) ∧ w' = w := Any.strings_IndexByte Tryz.lays137 s c w
def Tryz.laysM171_ren : Go.Shelf.Ren := ⟨fun | 171 => 92 | 243 => 108 | 246 => 119 | 283 => 130 | 284 => 131 | 285 => 132 | 286 => 133 | 129 => 142 | 317 => 141 | 318 => 143 | 319 => 144 | 320 => 145 | 337 => 149 | 338 => 150 | n => n, fun | 3 => 3 | 9 => 9 | 2 => 2 | 4 => 4 | 171 => 191 | 0 => 0 | 53 => 85 | 37 => 78 | 5 => 5 | 173 => 194 | 212 => 204 | 51 => 25 | 20 => 20 | 213 => 205 | 46 => 138 | 232 => 215 | 233 => 216 | n => n, fun | 17 => 4 | 18 => 5 | 19 => 6 | n => n⟩
theorem Tryz.laysM171 : Go.Proofs.LaysM.n171 Tryz.prog Tryz.laysM171_ren := {
  mixed := by kernel_rfl
  f129 := Tryz.func142.trans (congrArg some (by kernel_rfl))
  f171 := Tryz.func92.trans (congrArg some (by kernel_rfl))
  f243 := Tryz.func108.trans (congrArg some (by kernel_rfl))
  f246 := Tryz.func119.trans (congrArg some (by kernel_rfl))
  f283 := Tryz.func130.trans (congrArg some (by kernel_rfl))
  f284 := Tryz.func131.trans (congrArg some (by kernel_rfl))
  f285 := Tryz.func132.trans (congrArg some (by kernel_rfl))
  f286 := Tryz.func133.trans (congrArg some (by kernel_rfl))
  f317 := Tryz.func141.trans (congrArg some (by kernel_rfl))
  f318 := Tryz.func143.trans (congrArg some (by kernel_rfl))
  f319 := Tryz.func144.trans (congrArg some (by kernel_rfl))
  f320 := Tryz.func145.trans (congrArg some (by kernel_rfl))
  f337 := Tryz.func149.trans (congrArg some (by kernel_rfl))
  f338 := Tryz.func150.trans (congrArg some (by kernel_rfl))
  t0 := Tryz.underlying0
  a0 := Tryz.isAgg0
  z0 := Tryz.sizeOf0
  v0 := Tryz.zeroValue0
  t2 := Tryz.underlying2
  a2 := Tryz.isAgg2
  z2 := Tryz.sizeOf2
  v2 := Tryz.zeroValue2
  t3 := Tryz.underlying3
  a3 := Tryz.isAgg3
  z3 := Tryz.sizeOf3
  v3 := Tryz.zeroValue3
  t4 := Tryz.underlying4
  a4 := Tryz.isAgg4
  z4 := Tryz.sizeOf4
  v4 := Tryz.zeroValue4
  t5 := Tryz.underlying5
  a5 := Tryz.isAgg5
  z5 := Tryz.sizeOf5
  v5 := Tryz.zeroValue5
  t9 := Tryz.underlying9
  a9 := Tryz.isAgg9
  z9 := Tryz.sizeOf9
  v9 := Tryz.zeroValue9
  t20 := Tryz.underlying20
  a20 := Tryz.isAgg20
  z20 := Tryz.sizeOf20
  v20 := Tryz.zeroValue20
  t37 := Tryz.underlying78
  a37 := Tryz.isAgg78
  z37 := Tryz.sizeOf78
  v37 := Tryz.zeroValue78
  t46 := Tryz.underlying138
  a46 := Tryz.isAgg138
  z46 := Tryz.sizeOf138
  v46 := Tryz.zeroValue138
  t51 := Tryz.underlying25
  a51 := Tryz.isAgg25
  z51 := Tryz.sizeOf25
  v51 := Tryz.zeroValue25
  t53 := Tryz.underlying85
  a53 := Tryz.isAgg85
  z53 := Tryz.sizeOf85
  v53 := Tryz.zeroValue85
  t171 := Tryz.underlying191
  a171 := Tryz.isAgg191
  z171 := Tryz.sizeOf191
  v171 := Tryz.zeroValue191
  t173 := Tryz.underlying194
  a173 := Tryz.isAgg194
  z173 := Tryz.sizeOf194
  v173 := Tryz.zeroValue194
  t212 := Tryz.underlying204
  a212 := Tryz.isAgg204
  z212 := Tryz.sizeOf204
  v212 := Tryz.zeroValue204
  t213 := Tryz.underlying205
  a213 := Tryz.isAgg205
  z213 := Tryz.sizeOf205
  t232 := Tryz.underlying215
  a232 := Tryz.isAgg215
  z232 := Tryz.sizeOf215
  v232 := Tryz.zeroValue215
  t233 := Tryz.underlying216
  a233 := Tryz.isAgg216
  z233 := Tryz.sizeOf216
  v233 := Tryz.zeroValue216
  g17 := by kernel_rfl
  g18 := by kernel_rfl
  g19 := by kernel_rfl
  i0 := by kernel_rfl
  i2 := by kernel_rfl
  i3 := by kernel_rfl
  i4 := by kernel_rfl
  i5 := by kernel_rfl
  i9 := by kernel_rfl
  i20 := by kernel_rfl
  i37 := by kernel_rfl
  i46 := by kernel_rfl
  i51 := by kernel_rfl
  i53 := by kernel_rfl
  i171 := by kernel_rfl
  i173 := by kernel_rfl
  i212 := by kernel_rfl
  i232 := by kernel_rfl
  i233 := by kernel_rfl
  m17 := by kernel_rfl
  m18 := by kernel_rfl
  m19 := by kernel_rfl }
open Go.RowKit Go.Sort Go.Lib in
theorem Tryz.strconv_Itoa (n : Int) (h0 : -9223372036854775808 ≤ n) (h1 : n ≤ 9223372036854775807) (w : World) (htab : Lib.TabIs Tryz.prog w "internal/strconv.uint64pow10" .u64 Lib.pow10Tab) :
    Calls Tryz.prog 92 #[.int .i64 n] w fun e w' => e = .returned (.string ⟨(Lib.itoa n).toArray⟩) ∧ ∃ k os, w' = grow (w.drewN k) os := Any.strconv_Itoa Tryz.laysM171 n h0 h1 w htab
def Tryz.laysC245_ren : Go.Shelf.Ren := ⟨fun | 245 => 118 | 279 => 126 | 280 => 127 | 281 => 128 | 282 => 129 | 316 => 139 | 171 => 92 | 205 => 140 | 243 => 108 | 246 => 119 | 283 => 130 | 284 => 131 | 285 => 132 | 286 => 133 | 129 => 142 | 317 => 141 | 318 => 143 | 319 => 144 | 320 => 145 | 337 => 149 | 338 => 150 | n => n, fun | 9 => 9 | 3 => 3 | 75 => 52 | 167 => 186 | 4 => 4 | 168 => 188 | 210 => 201 | 37 => 78 | 0 => 0 | 127 => 172 | 145 => 213 | 143 => 211 | 2 => 2 | 171 => 191 | 53 => 85 | 5 => 5 | 173 => 194 | 212 => 204 | 51 => 25 | 20 => 20 | 213 => 205 | 46 => 138 | 232 => 215 | 233 => 216 | 80 => 152 | n => n, fun | 15 => 2 | 16 => 3 | 17 => 4 | 18 => 5 | 19 => 6 | n => n⟩
theorem Tryz.laysC245 : Go.Proofs.LaysC.n245 Tryz.prog Tryz.laysC245_ren := {
  mixed := by kernel_rfl
  f129 := Tryz.func142.trans (congrArg some (by kernel_rfl))
  f171 := Tryz.func92.trans (congrArg some (by kernel_rfl))
  f205 := Tryz.func140.trans (congrArg some (by kernel_rfl))
  f243 := Tryz.func108.trans (congrArg some (by kernel_rfl))
  f245 := Tryz.func118.trans (congrArg some (by kernel_rfl))
  f246 := Tryz.func119.trans (congrArg some (by kernel_rfl))
  f279 := Tryz.func126.trans (congrArg some (by kernel_rfl))
  f280 := Tryz.func127.trans (congrArg some (by kernel_rfl))
  f281 := Tryz.func128.trans (congrArg some (by kernel_rfl))
  f282 := Tryz.func129.trans (congrArg some (by kernel_rfl))
  f283 := Tryz.func130.trans (congrArg some (by kernel_rfl))
  f284 := Tryz.func131.trans (congrArg some (by kernel_rfl))
  f285 := Tryz.func132.trans (congrArg some (by kernel_rfl))
  f286 := Tryz.func133.trans (congrArg some (by kernel_rfl))
  f316 := Tryz.func139.trans (congrArg some (by kernel_rfl))
  f317 := Tryz.func141.trans (congrArg some (by kernel_rfl))
  f318 := Tryz.func143.trans (congrArg some (by kernel_rfl))
  f319 := Tryz.func144.trans (congrArg some (by kernel_rfl))
  f320 := Tryz.func145.trans (congrArg some (by kernel_rfl))
  f337 := Tryz.func149.trans (congrArg some (by kernel_rfl))
  f338 := Tryz.func150.trans (congrArg some (by kernel_rfl))
  t0 := Tryz.underlying0
  a0 := Tryz.isAgg0
  z0 := Tryz.sizeOf0
  v0 := Tryz.zeroValue0
  t2 := Tryz.underlying2
  a2 := Tryz.isAgg2
  z2 := Tryz.sizeOf2
  v2 := Tryz.zeroValue2
  t3 := Tryz.underlying3
  a3 := Tryz.isAgg3
  z3 := Tryz.sizeOf3
  v3 := Tryz.zeroValue3
  t4 := Tryz.underlying4
  a4 := Tryz.isAgg4
  z4 := Tryz.sizeOf4
  v4 := Tryz.zeroValue4
  t5 := Tryz.underlying5
  a5 := Tryz.isAgg5
  z5 := Tryz.sizeOf5
  v5 := Tryz.zeroValue5
  t9 := Tryz.underlying9
  a9 := Tryz.isAgg9
  z9 := Tryz.sizeOf9
  v9 := Tryz.zeroValue9
  t20 := Tryz.underlying20
  a20 := Tryz.isAgg20
  z20 := Tryz.sizeOf20
  v20 := Tryz.zeroValue20
  t37 := Tryz.underlying78
  a37 := Tryz.isAgg78
  z37 := Tryz.sizeOf78
  v37 := Tryz.zeroValue78
  t46 := Tryz.underlying138
  a46 := Tryz.isAgg138
  z46 := Tryz.sizeOf138
  v46 := Tryz.zeroValue138
  t51 := Tryz.underlying25
  a51 := Tryz.isAgg25
  z51 := Tryz.sizeOf25
  v51 := Tryz.zeroValue25
  t53 := Tryz.underlying85
  a53 := Tryz.isAgg85
  z53 := Tryz.sizeOf85
  v53 := Tryz.zeroValue85
  t75 := Tryz.underlying52
  a75 := Tryz.isAgg52
  z75 := Tryz.sizeOf52
  v75 := Tryz.zeroValue52
  t127 := Tryz.underlying172
  a127 := Tryz.isAgg172
  z127 := Tryz.sizeOf172
  v127 := Tryz.zeroValue172
  t143 := Tryz.underlying211
  a143 := Tryz.isAgg211
  z143 := Tryz.sizeOf211
  v143 := Tryz.zeroValue211
  t145 := Tryz.underlying213
  a145 := Tryz.isAgg213
  z145 := Tryz.sizeOf213
  v145 := Tryz.zeroValue213
  t167 := Tryz.underlying186
  a167 := Tryz.isAgg186
  z167 := Tryz.sizeOf186
  v167 := Tryz.zeroValue186
  t168 := Tryz.underlying188
  a168 := Tryz.isAgg188
  z168 := Tryz.sizeOf188
  v168 := Tryz.zeroValue188
  t171 := Tryz.underlying191
  a171 := Tryz.isAgg191
  z171 := Tryz.sizeOf191
  v171 := Tryz.zeroValue191
  t173 := Tryz.underlying194
  a173 := Tryz.isAgg194
  z173 := Tryz.sizeOf194
  v173 := Tryz.zeroValue194
  t210 := Tryz.underlying201
  a210 := Tryz.isAgg201
  z210 := Tryz.sizeOf201
  v210 := Tryz.zeroValue201
  t212 := Tryz.underlying204
  a212 := Tryz.isAgg204
  z212 := Tryz.sizeOf204
  v212 := Tryz.zeroValue204
  t213 := Tryz.underlying205
  a213 := Tryz.isAgg205
  z213 := Tryz.sizeOf205
  t232 := Tryz.underlying215
  a232 := Tryz.isAgg215
  z232 := Tryz.sizeOf215
  v232 := Tryz.zeroValue215
  t233 := Tryz.underlying216
  a233 := Tryz.isAgg216
  z233 := Tryz.sizeOf216
  v233 := Tryz.zeroValue216
  g15 := by kernel_rfl
  g16 := by kernel_rfl
  g17 := by kernel_rfl
  g18 := by kernel_rfl
  g19 := by kernel_rfl
  t80 := Tryz.underlying152
  a80 := Tryz.isAgg152
  z80 := Tryz.sizeOf152
  v80 := Tryz.zeroValue152
  i0 := by kernel_rfl
  i2 := by kernel_rfl
  i3 := by kernel_rfl
  i4 := by kernel_rfl
  i5 := by kernel_rfl
  i9 := by kernel_rfl
  i20 := by kernel_rfl
  i37 := by kernel_rfl
  i46 := by kernel_rfl
  i51 := by kernel_rfl
  i53 := by kernel_rfl
  i75 := by kernel_rfl
  i80 := by kernel_rfl
  i127 := by kernel_rfl
  i143 := by kernel_rfl
  i145 := by kernel_rfl
  i167 := by kernel_rfl
  i168 := by kernel_rfl
  i171 := by kernel_rfl
  i173 := by kernel_rfl
  i210 := by kernel_rfl
  i212 := by kernel_rfl
  i232 := by kernel_rfl
  i233 := by kernel_rfl
  m15 := by kernel_rfl
  m16 := by kernel_rfl
  m17 := by kernel_rfl
  m18 := by kernel_rfl
  m19 := by kernel_rfl
  c0 := by kernel_rfl
  c2 := by kernel_rfl
  c3 := by kernel_rfl
  c4 := by kernel_rfl
  c5 := by kernel_rfl
  c9 := by kernel_rfl
  c20 := by kernel_rfl
  c37 := by kernel_rfl
  c46 := by kernel_rfl
  c51 := by kernel_rfl
  c53 := by kernel_rfl
  c75 := by kernel_rfl
  c80 := by kernel_rfl
  c127 := by kernel_rfl
  c143 := by kernel_rfl
  c145 := by kernel_rfl
  c167 := by kernel_rfl
  c168 := by kernel_rfl
  c171 := by kernel_rfl
  c173 := by kernel_rfl
  c210 := by kernel_rfl
  c212 := by kernel_rfl
  c213 := by kernel_rfl
  c232 := by kernel_rfl
  c233 := by kernel_rfl }
open Go.RowKit in
theorem Tryz.strconv_toError_syntax (fn s : ByteArray) (base bits : Int) (ev : Value) (w : World) (hlim : s.size ≤ 281474976710656) (hv : w.cell? ⟨2, 0, none⟩ = some ev) (hev : ev = .nilIface ∨ ∃ te pe, ev = .iface te pe) :
    Calls Tryz.prog 118 #[.string fn, .string s, .int .i64 base, .int .i64 bits, .iface 186 (.int .i64 2)] w fun e w' => ∃ N, e = .returned (.iface 188 (.pointer (some ⟨N, 0, none⟩))) ∧ w.heap.size ≤ N ∧ w'.heap[N]? = some (.cells #[.string fn, .string s, ev] 201 (0, 0)) ∧ Below w.heap.size w w' := Any.strconv_toError_syntax Tryz.laysC245 fn s base bits ev w hlim hv hev
def Tryz.lays321_ren : Go.Shelf.Ren := ⟨fun | 321 => 124 | n => n, fun | 5 => 5 | n => n, fun | n => n⟩
theorem Tryz.lays321 : Go.Proofs.Lays.n321 Tryz.prog Tryz.lays321_ren := {
  mixed := by kernel_rfl
  f321 := Tryz.func124.trans (congrArg some (by kernel_rfl))
  t5 := Tryz.underlying5
  a5 := Tryz.isAgg5
  z5 := Tryz.sizeOf5
  v5 := Tryz.zeroValue5 }
open Go.RowKit in
theorem Tryz.internal_strconv_lower (c : Int) (w : World) :
    Calls Tryz.prog 124 #[.int .u8 c] w fun e w' => e = .returned (.int .u8 (bits .or .u8 c 32)) ∧ w' = w := Any.internal_strconv_lower Tryz.lays321 c w
open Go.RowKit in
theorem Tryz.strconv_toError_range (fn s : ByteArray) (base bits : Int) (ev : Value) (w : World) (hlim : s.size ≤ 281474976710656) (hv : w.cell? ⟨3, 0, none⟩ = some ev) (hev : ev = .nilIface ∨ ∃ te pe, ev = .iface te pe) :
    Calls Tryz.prog 118 #[.string fn, .string s, .int .i64 base, .int .i64 bits, .iface 186 (.int .i64 1)] w fun e w' => ∃ N, e = .returned (.iface 188 (.pointer (some ⟨N, 0, none⟩))) ∧ w.heap.size ≤ N ∧ w'.heap[N]? = some (.cells #[.string fn, .string s, ev] 201 (0, 0)) ∧ Below w.heap.size w w' := Any.strconv_toError_range Tryz.laysC245 fn s base bits ev w hlim hv hev
def Tryz.lays219_ren : Go.Shelf.Ren := ⟨fun | 219 => 102 | 217 => 103 | 225 => 112 | 224 => 113 | 267 => 114 | 266 => 115 | 314 => 121 | n => n, fun | 9 => 9 | 3 => 3 | 4 => 4 | 5 => 5 | 46 => 138 | 146 => 184 | 51 => 25 | n => n, fun | 1 => 1 | n => n⟩
theorem Tryz.lays219 : Go.Proofs.Lays.n219 Tryz.prog Tryz.lays219_ren := {
  mixed := by kernel_rfl
  f217 := Tryz.func103.trans (congrArg some (by kernel_rfl))
  f219 := Tryz.func102.trans (congrArg some (by kernel_rfl))
  f224 := Tryz.func113.trans (congrArg some (by kernel_rfl))
  f225 := Tryz.func112.trans (congrArg some (by kernel_rfl))
  f266 := Tryz.func115.trans (congrArg some (by kernel_rfl))
  f267 := Tryz.func114.trans (congrArg some (by kernel_rfl))
  f314 := Tryz.func121.trans (congrArg some (by kernel_rfl))
  t3 := Tryz.underlying3
  a3 := Tryz.isAgg3
  z3 := Tryz.sizeOf3
  v3 := Tryz.zeroValue3
  t4 := Tryz.underlying4
  a4 := Tryz.isAgg4
  z4 := Tryz.sizeOf4
  v4 := Tryz.zeroValue4
  t5 := Tryz.underlying5
  a5 := Tryz.isAgg5
  z5 := Tryz.sizeOf5
  v5 := Tryz.zeroValue5
  t9 := Tryz.underlying9
  a9 := Tryz.isAgg9
  z9 := Tryz.sizeOf9
  v9 := Tryz.zeroValue9
  t46 := Tryz.underlying138
  a46 := Tryz.isAgg138
  z46 := Tryz.sizeOf138
  v46 := Tryz.zeroValue138
  t51 := Tryz.underlying25
  a51 := Tryz.isAgg25
  z51 := Tryz.sizeOf25
  v51 := Tryz.zeroValue25
  t146 := Tryz.underlying184
  a146 := Tryz.isAgg184
  z146 := Tryz.sizeOf184
  v146 := Tryz.zeroValue184
  g1 := by kernel_rfl }
open Go.RowKit Go.Lib in
theorem Tryz.stringslite_Index_one (s : ByteArray) (c : UInt8) (w : World) :
    Calls Tryz.prog 102 #[.string s, .string ⟨#[c]⟩] w fun e w' => e = .returned (.int .i64 (Lib.indexByte s.data.toList c)) ∧ w' = w := Any.stringslite_Index_one Tryz.lays219 s c w
def Tryz.lays145_ren : Go.Shelf.Ren := ⟨fun | 145 => 65 | 220 => 79 | 219 => 102 | 217 => 103 | 225 => 112 | 224 => 113 | 267 => 114 | 266 => 115 | 314 => 121 | n => n, fun | 9 => 9 | 4 => 4 | 59 => 139 | 3 => 3 | 5 => 5 | 46 => 138 | 146 => 184 | 51 => 25 | n => n, fun | 1 => 1 | n => n⟩
theorem Tryz.lays145 : Go.Proofs.Lays.n145 Tryz.prog Tryz.lays145_ren := {
  mixed := by kernel_rfl
  f145 := Tryz.func65.trans (congrArg some (by kernel_rfl))
  f217 := Tryz.func103.trans (congrArg some (by kernel_rfl))
  f219 := Tryz.func102.trans (congrArg some (by kernel_rfl))
  f220 := Tryz.func79.trans (congrArg some (by kernel_rfl))
  f224 := Tryz.func113.trans (congrArg some (by kernel_rfl))
  f225 := Tryz.func112.trans (congrArg some (by kernel_rfl))
  f266 := Tryz.func115.trans (congrArg some (by kernel_rfl))
  f267 := Tryz.func114.trans (congrArg some (by kernel_rfl))
  f314 := Tryz.func121.trans (congrArg some (by kernel_rfl))
  t3 := Tryz.underlying3
  a3 := Tryz.isAgg3
  z3 := Tryz.sizeOf3
  v3 := Tryz.zeroValue3
  t4 := Tryz.underlying4
  a4 := Tryz.isAgg4
  z4 := Tryz.sizeOf4
  v4 := Tryz.zeroValue4
  t5 := Tryz.underlying5
  a5 := Tryz.isAgg5
  z5 := Tryz.sizeOf5
  v5 := Tryz.zeroValue5
  t9 := Tryz.underlying9
  a9 := Tryz.isAgg9
  z9 := Tryz.sizeOf9
  v9 := Tryz.zeroValue9
  t46 := Tryz.underlying138
  a46 := Tryz.isAgg138
  z46 := Tryz.sizeOf138
  v46 := Tryz.zeroValue138
  t51 := Tryz.underlying25
  a51 := Tryz.isAgg25
  z51 := Tryz.sizeOf25
  v51 := Tryz.zeroValue25
  t59 := Tryz.underlying139
  a59 := Tryz.isAgg139
  z59 := Tryz.sizeOf139
  v59 := Tryz.zeroValue139
  t146 := Tryz.underlying184
  a146 := Tryz.isAgg184
  z146 := Tryz.sizeOf184
  v146 := Tryz.zeroValue184
  g1 := by kernel_rfl }
open Go.RowKit Go.Lib in
theorem Tryz.strings_Cut (s sep : ByteArray) (m : Int) (w : World) (hs : s.size < 4294967281) (hm : w.cell? ⟨1, 0, none⟩ = some (.int .i64 m)) :
    Calls Tryz.prog 65 #[.string s, .string sep] w fun e w' => e = .returned (.tuple #[.string ⟨(Lib.cut s.data.toList sep.data.toList).1.toArray⟩, .string ⟨(Lib.cut s.data.toList sep.data.toList).2.1.toArray⟩, .bool (Lib.cut s.data.toList sep.data.toList).2.2]) ∧ ∃ n, w' = w.drewN n := Any.strings_Cut Tryz.lays145 s sep m w hs hm
def Tryz.lays206_ren : Go.Shelf.Ren := ⟨fun | 206 => 138 | n => n, fun | 9 => 9 | 4 => 4 | 3 => 3 | n => n, fun | n => n⟩
theorem Tryz.lays206 : Go.Proofs.Lays.n206 Tryz.prog Tryz.lays206_ren := {
  mixed := by kernel_rfl
  f206 := Tryz.func138.trans (congrArg some (by kernel_rfl))
  t3 := Tryz.underlying3
  a3 := Tryz.isAgg3
  z3 := Tryz.sizeOf3
  v3 := Tryz.zeroValue3
  t4 := Tryz.underlying4
  a4 := Tryz.isAgg4
  z4 := Tryz.sizeOf4
  v4 := Tryz.zeroValue4
  t9 := Tryz.underlying9
  a9 := Tryz.isAgg9
  z9 := Tryz.sizeOf9
  v9 := Tryz.zeroValue9 }
open Go.RowKit Go.Lib in
theorem Tryz.stringslite_HasPrefix (s p : ByteArray) (w : World) :
    Calls Tryz.prog 138 #[.string s, .string p] w fun e w' => e = .returned (.bool (Lib.hasPrefix s.data.toList p.data.toList)) ∧ w' = w := Any.stringslite_HasPrefix Tryz.lays206 s p w
def Tryz.lays99_ren : Go.Shelf.Ren := ⟨fun | 99 => 123 | 206 => 138 | n => n, fun | 9 => 9 | 4 => 4 | 3 => 3 | n => n, fun | n => n⟩
theorem Tryz.lays99 : Go.Proofs.Lays.n99 Tryz.prog Tryz.lays99_ren := {
  mixed := by kernel_rfl
  f99 := Tryz.func123.trans (congrArg some (by kernel_rfl))
  f206 := Tryz.func138.trans (congrArg some (by kernel_rfl))
  t3 := Tryz.underlying3
  a3 := Tryz.isAgg3
  z3 := Tryz.sizeOf3
  v3 := Tryz.zeroValue3
  t4 := Tryz.underlying4
  a4 := Tryz.isAgg4
  z4 := Tryz.sizeOf4
  v4 := Tryz.zeroValue4
  t9 := Tryz.underlying9
  a9 := Tryz.isAgg9
  z9 := Tryz.sizeOf9
  v9 := Tryz.zeroValue9 }
open Go.RowKit Go.Lib in
theorem Tryz.strings_HasPrefix (s p : ByteArray) (w : World) :
    Calls Tryz.prog 123 #[.string s, .string p] w fun e w' => e = .returned (.bool (Lib.hasPrefix s.data.toList p.data.toList)) ∧ w' = w := Any.strings_HasPrefix Tryz.lays99 s p w
def Tryz.lays146_ren : Go.Shelf.Ren := ⟨fun | 146 => 109 | 221 => 120 | 268 => 134 | 138 => 135 | 143 => 136 | 195 => 146 | 197 => 147 | 218 => 148 | 219 => 102 | 260 => 151 | 217 => 103 | 225 => 112 | 224 => 113 | 267 => 114 | 266 => 115 | 314 => 121 | n => n, fun | 9 => 9 | 31 => 156 | 3 => 3 | 4 => 4 | 0 => 0 | 105 => 208 | 21 => 21 | 5 => 5 | 46 => 138 | 119 => 217 | 139 => 220 | 138 => 219 | 146 => 184 | 51 => 25 | n => n, fun | 1 => 1 | 3 => 7 | 4 => 8 | n => n⟩
theorem Tryz.lays146 : Go.Proofs.Lays.n146 Tryz.prog Tryz.lays146_ren := {
  mixed := by kernel_rfl
  f138 := Tryz.func135.trans (congrArg some (by kernel_rfl))
  f143 := Tryz.func136.trans (congrArg some (by kernel_rfl))
  f146 := Tryz.func109.trans (congrArg some (by kernel_rfl))
  f195 := Tryz.func146.trans (congrArg some (by kernel_rfl))
  f197 := Tryz.func147.trans (congrArg some (by kernel_rfl))
  f217 := Tryz.func103.trans (congrArg some (by kernel_rfl))
  f218 := Tryz.func148.trans (congrArg some (by kernel_rfl))
  f219 := Tryz.func102.trans (congrArg some (by kernel_rfl))
  f221 := Tryz.func120.trans (congrArg some (by kernel_rfl))
  f224 := Tryz.func113.trans (congrArg some (by kernel_rfl))
  f225 := Tryz.func112.trans (congrArg some (by kernel_rfl))
  f260 := Tryz.func151.trans (congrArg some (by kernel_rfl))
  f266 := Tryz.func115.trans (congrArg some (by kernel_rfl))
  f267 := Tryz.func114.trans (congrArg some (by kernel_rfl))
  f268 := Tryz.func134.trans (congrArg some (by kernel_rfl))
  f314 := Tryz.func121.trans (congrArg some (by kernel_rfl))
  t0 := Tryz.underlying0
  a0 := Tryz.isAgg0
  z0 := Tryz.sizeOf0
  v0 := Tryz.zeroValue0
  t3 := Tryz.underlying3
  a3 := Tryz.isAgg3
  z3 := Tryz.sizeOf3
  v3 := Tryz.zeroValue3
  t4 := Tryz.underlying4
  a4 := Tryz.isAgg4
  z4 := Tryz.sizeOf4
  v4 := Tryz.zeroValue4
  t5 := Tryz.underlying5
  a5 := Tryz.isAgg5
  z5 := Tryz.sizeOf5
  v5 := Tryz.zeroValue5
  t9 := Tryz.underlying9
  a9 := Tryz.isAgg9
  z9 := Tryz.sizeOf9
  v9 := Tryz.zeroValue9
  t21 := Tryz.underlying21
  a21 := Tryz.isAgg21
  z21 := Tryz.sizeOf21
  v21 := Tryz.zeroValue21
  t31 := Tryz.underlying156
  a31 := Tryz.isAgg156
  z31 := Tryz.sizeOf156
  v31 := Tryz.zeroValue156
  t46 := Tryz.underlying138
  a46 := Tryz.isAgg138
  z46 := Tryz.sizeOf138
  v46 := Tryz.zeroValue138
  t51 := Tryz.underlying25
  a51 := Tryz.isAgg25
  z51 := Tryz.sizeOf25
  v51 := Tryz.zeroValue25
  t105 := Tryz.underlying208
  a105 := Tryz.isAgg208
  z105 := Tryz.sizeOf208
  v105 := Tryz.zeroValue208
  t119 := Tryz.underlying217
  a119 := Tryz.isAgg217
  z119 := Tryz.sizeOf217
  t138 := Tryz.underlying219
  a138 := Tryz.isAgg219
  z138 := Tryz.sizeOf219
  v138 := Tryz.zeroValue219
  t139 := Tryz.underlying220
  a139 := Tryz.isAgg220
  z139 := Tryz.sizeOf220
  v139 := Tryz.zeroValue220
  t146 := Tryz.underlying184
  a146 := Tryz.isAgg184
  z146 := Tryz.sizeOf184
  v146 := Tryz.zeroValue184
  g1 := by kernel_rfl
  g3 := by kernel_rfl
  g4 := by kernel_rfl }
open Go.RowKit Go.Lib in
theorem Tryz.strings_Split (s sep : ByteArray) (m : Int) (w : World) (hs : s.size < 4294967281) (hm : w.cell? ⟨1, 0, none⟩ = some (.int .i64 m)) (h1 : 1 ≤ sep.size) :
    Calls Tryz.prog 109 #[.string s, .string sep] w fun e w' =>
      e = .returned (.slice (some ⟨w.heap.size, 0, none⟩) (Lib.countB s sep + 1) (Lib.countB s sep + 1)) ∧ w' = w.alloc (.cells ((Lib.splitB sep 0 (Lib.countB s sep) s).map Value.string).toArray 9) := Any.strings_Split Tryz.lays146 (by kernel_rfl) s sep m w hs hm h1
end Go.Proofs
namespace Go.Proofs.YthglbmihbmneaaaGreatDoor.P
open Go.RowKit Go.Proofs.YthglbmihbmneaaaGreatDoorW.PrintWords Go.Proofs.YthglbmihbmneaaaGreatDoorW.PrintLast Go.Proofs.YthglbmihbmneaaaGreatDoorW.PrintMore
attribute [local go_sem] max2_int min2_int max_two min_two max_three min_three max_four min_four   -- for this text's walks alone
set_option linter.unusedVariables false
set_option linter.unusedSimpArgs false
set_option linter.unnecessarySimpa false
def errW : Option Int → Value
  | none => .nilIface
  | some c => .iface 0 (.int .i64 c)
theorem errW_none : errW none = .nilIface := rfl
theorem errW_some (c : Int) : errW (some c) = .iface 0 (.int .i64 c) := rfl
theorem info3 : (Tryz.prog.info? 3).map (fun i => (i.zero, i.size, i.bytes)) = some (some (.int .i64 0), 1, 8) := by kernel_rfl
theorem info5 : (Tryz.prog.info? 5).map (fun i => (i.zero, i.size, i.bytes)) = some (some (.int .u8 0), 1, 1) := by kernel_rfl
theorem info117 : (Tryz.prog.info? 117).map (fun i => (i.zero, i.size, i.bytes)) = some (some (.agg #[(.string ⟨#[]⟩), (.string ⟨#[]⟩)]), 2, 32) := by kernel_rfl
structure S35 where
  f0 : ByteArray
  f1 : ByteArray
def k35 : Kd S35 := Kd.iso (Kd.pair Kd.string Kd.string) (fun x : S35 => (x.f0, x.f1))
theorem k35_open {w : World} {x : S35} {cs : List Value} (h : k35.K w x cs) : cs = [.string x.f0, .string x.f1] := by
  obtain ⟨_, _, rfl, rfl, rfl⟩ := h
  exact rfl
structure S117 where
  f0 : ByteArray
  f1 : ByteArray
def z117 : S117 := ⟨(⟨#[]⟩ : ByteArray), (⟨#[]⟩ : ByteArray)⟩
def k117 : Kd S117 := Kd.iso (Kd.pair Kd.string Kd.string) (fun x : S117 => (x.f0, x.f1))
theorem k117_open {w : World} {x : S117} {cs : List Value} (h : k117.K w x cs) : cs = [.string x.f0, .string x.f1] := by
  obtain ⟨_, _, rfl, rfl, rfl⟩ := h
  exact rfl
theorem k117_mkM (w : World) (base : Nat) (ok : Nat → Prop) (x : S117)  : k117.M w base ok x [.string x.f0, .string x.f1] := ⟨[.string x.f0], [.string x.f1], rfl, rfl, rfl⟩
def rd_T117 (xs : List S117) (i : Int) : S117 := xs.getD i.toNat z117
theorem at_T117 {w : World} {A : Option Addr} {n : Nat} {xs : List S117} (h : Kd.C k117 w A n xs) (i : Int) (h0 : 0 ≤ i) (h1 : i < n) : ∃ ad , A = some ad ∧ w.cell? (ad.add (i.toNat * 2)) = some (.string (rd_T117 xs i).f0) ∧ w.cell? ⟨(ad.add (i.toNat * 2)).block, (ad.add (i.toNat * 2)).off + 1, none⟩ = some (.string (rd_T117 xs i).f1) := by
  obtain ⟨ad, c, e, _, hK, hc0⟩ := Kd.C_get h z117 i h0 h1
  have hc : ∀ j u, c[j]? = some u → w.cell? (ad.add (i.toNat * 2 + j)) = some u := hc0
  obtain rfl := k117_open hK
  exact ⟨ad, e, hc 0 _ rfl, by rw [← add_field _ _ 1 (by omega)]; exact hc 1 _ rfl⟩
structure S24 where
  f0 : Bool
  f1 : Bool
  f2 : Bool
  f3 : Bool
  f4 : Int
  f5 : Int
  f6 : ByteArray
  f7 : ByteArray
def k24 : Kd S24 := Kd.iso (Kd.pair Kd.bool (Kd.pair Kd.bool (Kd.pair Kd.bool (Kd.pair Kd.bool (Kd.pair (Kd.int .i64) (Kd.pair (Kd.int .i64) (Kd.pair Kd.string Kd.string))))))) (fun x : S24 => (x.f0, x.f1, x.f2, x.f3, x.f4, x.f5, x.f6, x.f7))
theorem k24_open {w : World} {x : S24} {cs : List Value} (h : k24.K w x cs) : cs = [.bool x.f0, .bool x.f1, .bool x.f2, .bool x.f3, .int .i64 x.f4, .int .i64 x.f5, .string x.f6, .string x.f7] := by
  obtain ⟨_, _, rfl, rfl, ⟨_, _, rfl, rfl, ⟨_, _, rfl, rfl, ⟨_, _, rfl, rfl, ⟨_, _, rfl, rfl, ⟨_, _, rfl, rfl, ⟨_, _, rfl, rfl, rfl⟩⟩⟩⟩⟩⟩⟩ := h
  exact rfl
structure S27 where
  f0 : Int
  f1 : Bool
  f2 : S24
  f3 : Int
  f4 : Int
def k27 : Kd S27 := Kd.iso (Kd.pair (Kd.int .i64) (Kd.pair Kd.bool (Kd.pair k24 (Kd.pair (Kd.int .u32) (Kd.int .u32))))) (fun x : S27 => (x.f0, x.f1, x.f2, x.f3, x.f4))
theorem k27_open {w : World} {x : S27} {cs : List Value} (h : k27.K w x cs) : cs = [.int .i64 x.f0, .bool x.f1, .bool x.f2.f0, .bool x.f2.f1, .bool x.f2.f2, .bool x.f2.f3, .int .i64 x.f2.f4, .int .i64 x.f2.f5, .string x.f2.f6, .string x.f2.f7, .int .u32 x.f3, .int .u32 x.f4] := by
  obtain ⟨_, _, rfl, rfl, ⟨_, _, rfl, rfl, ⟨_, _, rfl, s2, ⟨_, _, rfl, rfl, rfl⟩⟩⟩⟩ := h
  obtain rfl := k24_open s2
  exact rfl
def G_errors_errorType (w : World) : Prop := w.cell? ⟨0, 0, none⟩ = some (.iface 125 (.agg #[.pointer (some ⟨9, 52, none⟩)]))
theorem G_errors_errorType.keep {w w' : World} (h : G_errors_errorType w) (hb : Below w.heap.size w w') : G_errors_errorType w' := (hb.cell (World.block_lt_of_cell? w _ h)).trans h
def G_internal_bytealg_MaxLen (w : World) : Prop := ∃ m : Int, w.cell? ⟨1, 0, none⟩ = some (.int .i64 m)
theorem G_internal_bytealg_MaxLen.keep {w w' : World} (h : G_internal_bytealg_MaxLen w) (hb : Below w.heap.size w w') : G_internal_bytealg_MaxLen w' := by
  obtain ⟨m, h⟩ := h
  exact ⟨m, (hb.cell (World.block_lt_of_cell? w _ h)).trans h⟩
def G_strconv_ErrSyntax (w : World) : Prop := ∃ ev : Value, w.cell? ⟨2, 0, none⟩ = some ev ∧ (ev = .nilIface ∨ ∃ te pe, ev = .iface te pe)
theorem G_strconv_ErrSyntax.keep {w w' : World} (h : G_strconv_ErrSyntax w) (hb : Below w.heap.size w w') : G_strconv_ErrSyntax w' := by
  obtain ⟨ev, h, he⟩ := h
  exact ⟨ev, (hb.cell (World.block_lt_of_cell? w _ h)).trans h, he⟩
def G_strconv_ErrRange (w : World) : Prop := ∃ ev : Value, w.cell? ⟨3, 0, none⟩ = some ev ∧ (ev = .nilIface ∨ ∃ te pe, ev = .iface te pe)
theorem G_strconv_ErrRange.keep {w w' : World} (h : G_strconv_ErrRange w) (hb : Below w.heap.size w w') : G_strconv_ErrRange w' := by
  obtain ⟨ev, h, he⟩ := h
  exact ⟨ev, (hb.cell (World.block_lt_of_cell? w _ h)).trans h, he⟩
def G_internal_strconv_uint64pow10 (w : World) : Prop := Go.Lib.TabIs Tryz.prog w "internal/strconv.uint64pow10" .u64 Go.Lib.pow10Tab
theorem G_internal_strconv_uint64pow10.keep {w w' : World} (h : G_internal_strconv_uint64pow10 w) (hb : Below w.heap.size w w') : G_internal_strconv_uint64pow10 w' := by
  unfold G_internal_strconv_uint64pow10 Go.Lib.TabIs World.var? at h ⊢
  obtain ⟨g, hg, h⟩ := Option.bind_eq_some_iff.mp h
  rw [hg]
  show (match w'.heap[g]? with | some (.cells cs _ _) => some cs | _ => none) = _
  have hlt : g < w.heap.size := by
    by_cases hx : g < w.heap.size
    · exact hx
    · rw [Array.getElem?_eq_none (Nat.le_of_not_lt hx)] at h
      cases h
  rw [hb.block g hlt]
  exact h
def Glob (w : World) : Prop := G_errors_errorType w ∧ G_internal_bytealg_MaxLen w ∧ G_strconv_ErrSyntax w ∧ G_strconv_ErrRange w ∧ G_internal_strconv_uint64pow10 w
theorem Glob.errors_errorType {w : World} (h : Glob w) : G_errors_errorType w := h.1
theorem Glob.internal_bytealg_MaxLen {w : World} (h : Glob w) : G_internal_bytealg_MaxLen w := h.2.1
theorem Glob.strconv_ErrSyntax {w : World} (h : Glob w) : G_strconv_ErrSyntax w := h.2.2.1
theorem Glob.strconv_ErrRange {w : World} (h : Glob w) : G_strconv_ErrRange w := h.2.2.2.1
theorem Glob.internal_strconv_uint64pow10 {w : World} (h : Glob w) : G_internal_strconv_uint64pow10 w := h.2.2.2.2
theorem Glob.keep {w w1 : World} (h : Glob w) (hb : Below w.heap.size w w1) : Glob w1 := ⟨h.1.keep hb, h.2.1.keep hb, h.2.2.1.keep hb, h.2.2.2.1.keep hb, h.2.2.2.2.keep hb⟩
end Go.Proofs.YthglbmihbmneaaaGreatDoor.P
namespace Go.Proofs.YthglbmihbmneaaaGreatDoor.P
open Go.RowKit Go.Proofs.YthglbmihbmneaaaGreatDoorW.PrintWords Go.Proofs.YthglbmihbmneaaaGreatDoorW.PrintLast Go.Proofs.YthglbmihbmneaaaGreatDoorW.PrintMore
attribute [local go_sem] max2_int min2_int max_two min_two max_three min_three max_four min_four   -- for this text's walks alone
set_option linter.unusedVariables false
set_option linter.unusedSimpArgs false
set_option linter.unnecessarySimpa false
def headgatelaw22_large.f (a0_0 : Int) (a0_1 : Bool) (a0_2 : Bool) (a0_3 : Bool) (a0_4 : Bool) (a0_5 : Bool) (a0_6 : Int) (a0_7 : Int) (a0_8 : ByteArray) (a0_9 : ByteArray) (a0_10 : Int) (a0_11 : Int) (a1 : ByteArray) (a2_0 : ByteArray) (a2_1 : ByteArray) : Option (Bool) := if (a0_8.size : Int) > 1000 then (some true) else (if (a0_9.size : Int) > 1000 then (some true) else (if (a1.size : Int) > 1000 then (some true) else (if (a2_0.size : Int) > 1000 then (some true) else (some (decide ((a2_1.size : Int) > 20000))))))
set_option maxHeartbeats 8000000 in
set_option maxRecDepth 100000 in
theorem headgatelaw22_large.calls (a0_0 : Int) (a0_1 : Bool) (a0_2 : Bool) (a0_3 : Bool) (a0_4 : Bool) (a0_5 : Bool) (a0_6 : Int) (a0_7 : Int) (a0_8 : ByteArray) (a0_9 : ByteArray) (a0_10 : Int) (a0_11 : Int) (a1 : ByteArray) (a2_0 : ByteArray) (a2_1 : ByteArray) (r : Bool) (w : World) (h : headgatelaw22_large.f a0_0 a0_1 a0_2 a0_3 a0_4 a0_5 a0_6 a0_7 a0_8 a0_9 a0_10 a0_11 a1 a2_0 a2_1 = some r) :
  Calls Tryz.prog 7 #[.agg #[.int .i64 a0_0, .bool a0_1, .bool a0_2, .bool a0_3, .bool a0_4, .bool a0_5, .int .i64 a0_6, .int .i64 a0_7, .string a0_8, .string a0_9, .int .u32 a0_10, .int .u32 a0_11], .string a1, .agg #[.string a2_0, .string a2_1]] w fun e w' => e = .returned (.bool r) ∧ Below w.heap.size w w' := by
 have hu27 := Tryz.underlying27
 have hu35 := Tryz.underlying35
 have HB := Aside0.mk (Below.refl w.heap.size w)
 have H : (if (a0_8.size : Int) > 1000 then (some true) else (if (a0_9.size : Int) > 1000 then (some true) else (if (a1.size : Int) > 1000 then (some true) else (if (a2_0.size : Int) > 1000 then (some true) else (some (decide ((a2_1.size : Int) > 20000))))))) = some r := h
 clear h
 by_cases c4 : (a0_8.size : Int) > 1000
 ·rw [if_pos c4] at H
  have c4b0 : decide (1000 < (a0_8.size : Int)) = true := decide_eq_true c4
  have c4b1 : decide (1000 < a0_8.size) = true := decide_eq_true (by omega)
  clear c4
  obtain rfl := Option.some.inj H
  go_enter Tryz.func7, Tryz.ntmps7
  go_wp2_with (first | ((with_reducible refine gate_dst (N := 3) rfl ?_); (try (refine gate_guard (by rfl) ?_; dsimp only)); refine box_event ?hg (N := 3) ?hd (cs := #[.int .i64 a0_0, .bool a0_1, .bool a0_2, .bool a0_3, .bool a0_4, .bool a0_5, .int .i64 a0_6, .int .i64 a0_7, .string a0_8, .string a0_9, .int .u32 a0_10, .int .u32 a0_11]) (t := 27) ?hr ?_; (case hd => rfl); (case hg => rfl); (case hr => first | (go_simp; done) | (go_simp; rfl)); intro gb101 hg w5 hbox hb; have n0_ := Aside0.mk (below_step (hb_ HB) hb); have n1_ := Aside0.mk (hbox); have n2_ := Aside0.mk ((by rw [hg]; exact (below_size (hb_ HB)) : w.heap.size ≤ gb101)); have n3_ := Aside0.mk ((by rw [hg]; exact (below_size (hb_ HB)) : w.heap.size ≤ gb101)); clear HB; have HB := n0_; have BK101 := n1_; have GW101 := n2_; have GE101 := n3_; clear n0_ n1_ n2_ n3_; clear hb hbox hg) | ((with_reducible refine gate_dst (N := 5) rfl ?_); (try (refine gate_guard (by rfl) ?_; dsimp only)); refine box_event ?hg (N := 5) ?hd (cs := #[.string a2_0, .string a2_1]) (t := 35) ?hr ?_; (case hd => rfl); (case hg => rfl); (case hr => first | (go_simp; done) | (go_simp; rfl)); intro gb102 hg w6 hbox hb; have n0_ := Aside0.mk (blk_below (bk_ BK101) hb); have n1_ := Aside0.mk (below_step (hb_ HB) hb); have n2_ := Aside0.mk (hbox); have n3_ := Aside0.mk ((by rw [hg]; exact (below_size (hb_ HB)) : w.heap.size ≤ gb102)); have n4_ := Aside0.mk ((by rw [hg]; exact (below_size (hb_ HB)) : w.heap.size ≤ gb102)); have n5_ := Aside0.mk ((by rw [hg]; exact Nat.ne_of_lt (blk_lt (g := gb101) (o := .cells #[.int .i64 a0_0, .bool a0_1, .bool a0_2, .bool a0_3, .bool a0_4, .bool a0_5, .int .i64 a0_6, .int .i64 a0_7, .string a0_8, .string a0_9, .int .u32 a0_10, .int .u32 a0_11] 27 (0, 0)) (bk_ BK101)) : gb101 ≠ gb102)); have n6_ := Aside0.mk ((by rw [hg]; exact Nat.ne_of_gt (blk_lt (g := gb101) (o := .cells #[.int .i64 a0_0, .bool a0_1, .bool a0_2, .bool a0_3, .bool a0_4, .bool a0_5, .int .i64 a0_6, .int .i64 a0_7, .string a0_8, .string a0_9, .int .u32 a0_10, .int .u32 a0_11] 27 (0, 0)) (bk_ BK101)) : gb102 ≠ gb101)); clear BK101; clear HB; have BK101 := n0_; have HB := n1_; have BK102 := n2_; have GW102 := n3_; have GE102 := n4_; have NB101_102 := n5_; have NB102_101 := n6_; clear n0_ n1_ n2_ n3_ n4_ n5_ n6_; clear hb hbox hg; have hnb7 := NB101_102.out; have hnc7 := NB102_101.out; have hcz8_0 : w6.cell? ⟨gb101, 0, none⟩ = some (.int .i64 a0_0) := (blk_cell BK101.out 0).trans rfl; have hcz8_1 : w6.cell? ⟨gb101, 1, none⟩ = some (.bool a0_1) := (blk_cell BK101.out 1).trans rfl; have hcz8_2 : w6.cell? ⟨gb101, 2, none⟩ = some (.bool a0_2) := (blk_cell BK101.out 2).trans rfl; have hcz8_3 : w6.cell? ⟨gb101, 3, none⟩ = some (.bool a0_3) := (blk_cell BK101.out 3).trans rfl; have hcz8_4 : w6.cell? ⟨gb101, 4, none⟩ = some (.bool a0_4) := (blk_cell BK101.out 4).trans rfl; have hcz8_5 : w6.cell? ⟨gb101, 5, none⟩ = some (.bool a0_5) := (blk_cell BK101.out 5).trans rfl; have hcz8_6 : w6.cell? ⟨gb101, 6, none⟩ = some (.int .i64 a0_6) := (blk_cell BK101.out 6).trans rfl; have hcz8_7 : w6.cell? ⟨gb101, 7, none⟩ = some (.int .i64 a0_7) := (blk_cell BK101.out 7).trans rfl; have hcz8_8 : w6.cell? ⟨gb101, 8, none⟩ = some (.string a0_8) := (blk_cell BK101.out 8).trans rfl; have hcz8_9 : w6.cell? ⟨gb101, 9, none⟩ = some (.string a0_9) := (blk_cell BK101.out 9).trans rfl; have hcz8_10 : w6.cell? ⟨gb101, 10, none⟩ = some (.int .u32 a0_10) := (blk_cell BK101.out 10).trans rfl; have hcz8_11 : w6.cell? ⟨gb101, 11, none⟩ = some (.int .u32 a0_11) := (blk_cell BK101.out 11).trans rfl; have hfz8_0 := blk_frozen BK101.out 0; have hfz8_1 := blk_frozen BK101.out 1; have hfz8_2 := blk_frozen BK101.out 2; have hfz8_3 := blk_frozen BK101.out 3; have hfz8_4 := blk_frozen BK101.out 4; have hfz8_5 := blk_frozen BK101.out 5; have hfz8_6 := blk_frozen BK101.out 6; have hfz8_7 := blk_frozen BK101.out 7; have hfz8_8 := blk_frozen BK101.out 8; have hfz8_9 := blk_frozen BK101.out 9; have hfz8_10 := blk_frozen BK101.out 10; have hfz8_11 := blk_frozen BK101.out 11))
  go_ret
  exact ⟨by first | rfl | (simp [errW_none, errW_some] <;> rfl) | (simp [*, errW_none, errW_some] <;> rfl) | (simp [bt, *]; done) | (unfold bt; simp [*]; done), by repeat (first | (with_reducible first | exact HB.out | apply below_alloc | apply pw_below_drewN | apply below_drew1 | refine below_set ?_ GE101.out | refine below_set ?_ GE102.out) | exact HB.out)⟩
 rw [if_neg c4] at H
 have c4b0 : decide (1000 < (a0_8.size : Int)) = false := decide_eq_false c4
 have c4b1 : decide (1000 < a0_8.size) = false := decide_eq_false (by omega)
 clear c4
 by_cases c9 : (a0_9.size : Int) > 1000
 ·rw [if_pos c9] at H
  have c9b0 : decide (1000 < (a0_9.size : Int)) = true := decide_eq_true c9
  have c9b1 : decide (1000 < a0_9.size) = true := decide_eq_true (by omega)
  clear c9
  obtain rfl := Option.some.inj H
  go_enter Tryz.func7, Tryz.ntmps7
  go_wp2_with (first | ((with_reducible refine gate_dst (N := 3) rfl ?_); (try (refine gate_guard (by rfl) ?_; dsimp only)); refine box_event ?hg (N := 3) ?hd (cs := #[.int .i64 a0_0, .bool a0_1, .bool a0_2, .bool a0_3, .bool a0_4, .bool a0_5, .int .i64 a0_6, .int .i64 a0_7, .string a0_8, .string a0_9, .int .u32 a0_10, .int .u32 a0_11]) (t := 27) ?hr ?_; (case hd => rfl); (case hg => rfl); (case hr => first | (go_simp; done) | (go_simp; rfl)); intro gb101 hg w10 hbox hb; have n0_ := Aside0.mk (below_step (hb_ HB) hb); have n1_ := Aside0.mk (hbox); have n2_ := Aside0.mk ((by rw [hg]; exact (below_size (hb_ HB)) : w.heap.size ≤ gb101)); have n3_ := Aside0.mk ((by rw [hg]; exact (below_size (hb_ HB)) : w.heap.size ≤ gb101)); clear HB; have HB := n0_; have BK101 := n1_; have GW101 := n2_; have GE101 := n3_; clear n0_ n1_ n2_ n3_; clear hb hbox hg) | ((with_reducible refine gate_dst (N := 5) rfl ?_); (try (refine gate_guard (by rfl) ?_; dsimp only)); refine box_event ?hg (N := 5) ?hd (cs := #[.string a2_0, .string a2_1]) (t := 35) ?hr ?_; (case hd => rfl); (case hg => rfl); (case hr => first | (go_simp; done) | (go_simp; rfl)); intro gb102 hg w11 hbox hb; have n0_ := Aside0.mk (blk_below (bk_ BK101) hb); have n1_ := Aside0.mk (below_step (hb_ HB) hb); have n2_ := Aside0.mk (hbox); have n3_ := Aside0.mk ((by rw [hg]; exact (below_size (hb_ HB)) : w.heap.size ≤ gb102)); have n4_ := Aside0.mk ((by rw [hg]; exact (below_size (hb_ HB)) : w.heap.size ≤ gb102)); have n5_ := Aside0.mk ((by rw [hg]; exact Nat.ne_of_lt (blk_lt (g := gb101) (o := .cells #[.int .i64 a0_0, .bool a0_1, .bool a0_2, .bool a0_3, .bool a0_4, .bool a0_5, .int .i64 a0_6, .int .i64 a0_7, .string a0_8, .string a0_9, .int .u32 a0_10, .int .u32 a0_11] 27 (0, 0)) (bk_ BK101)) : gb101 ≠ gb102)); have n6_ := Aside0.mk ((by rw [hg]; exact Nat.ne_of_gt (blk_lt (g := gb101) (o := .cells #[.int .i64 a0_0, .bool a0_1, .bool a0_2, .bool a0_3, .bool a0_4, .bool a0_5, .int .i64 a0_6, .int .i64 a0_7, .string a0_8, .string a0_9, .int .u32 a0_10, .int .u32 a0_11] 27 (0, 0)) (bk_ BK101)) : gb102 ≠ gb101)); clear BK101; clear HB; have BK101 := n0_; have HB := n1_; have BK102 := n2_; have GW102 := n3_; have GE102 := n4_; have NB101_102 := n5_; have NB102_101 := n6_; clear n0_ n1_ n2_ n3_ n4_ n5_ n6_; clear hb hbox hg; have hnb12 := NB101_102.out; have hnc12 := NB102_101.out; have hcz13_0 : w11.cell? ⟨gb101, 0, none⟩ = some (.int .i64 a0_0) := (blk_cell BK101.out 0).trans rfl; have hcz13_1 : w11.cell? ⟨gb101, 1, none⟩ = some (.bool a0_1) := (blk_cell BK101.out 1).trans rfl; have hcz13_2 : w11.cell? ⟨gb101, 2, none⟩ = some (.bool a0_2) := (blk_cell BK101.out 2).trans rfl; have hcz13_3 : w11.cell? ⟨gb101, 3, none⟩ = some (.bool a0_3) := (blk_cell BK101.out 3).trans rfl; have hcz13_4 : w11.cell? ⟨gb101, 4, none⟩ = some (.bool a0_4) := (blk_cell BK101.out 4).trans rfl; have hcz13_5 : w11.cell? ⟨gb101, 5, none⟩ = some (.bool a0_5) := (blk_cell BK101.out 5).trans rfl; have hcz13_6 : w11.cell? ⟨gb101, 6, none⟩ = some (.int .i64 a0_6) := (blk_cell BK101.out 6).trans rfl; have hcz13_7 : w11.cell? ⟨gb101, 7, none⟩ = some (.int .i64 a0_7) := (blk_cell BK101.out 7).trans rfl; have hcz13_8 : w11.cell? ⟨gb101, 8, none⟩ = some (.string a0_8) := (blk_cell BK101.out 8).trans rfl; have hcz13_9 : w11.cell? ⟨gb101, 9, none⟩ = some (.string a0_9) := (blk_cell BK101.out 9).trans rfl; have hcz13_10 : w11.cell? ⟨gb101, 10, none⟩ = some (.int .u32 a0_10) := (blk_cell BK101.out 10).trans rfl; have hcz13_11 : w11.cell? ⟨gb101, 11, none⟩ = some (.int .u32 a0_11) := (blk_cell BK101.out 11).trans rfl; have hfz13_0 := blk_frozen BK101.out 0; have hfz13_1 := blk_frozen BK101.out 1; have hfz13_2 := blk_frozen BK101.out 2; have hfz13_3 := blk_frozen BK101.out 3; have hfz13_4 := blk_frozen BK101.out 4; have hfz13_5 := blk_frozen BK101.out 5; have hfz13_6 := blk_frozen BK101.out 6; have hfz13_7 := blk_frozen BK101.out 7; have hfz13_8 := blk_frozen BK101.out 8; have hfz13_9 := blk_frozen BK101.out 9; have hfz13_10 := blk_frozen BK101.out 10; have hfz13_11 := blk_frozen BK101.out 11))
  go_ret
  exact ⟨by first | rfl | (simp [errW_none, errW_some] <;> rfl) | (simp [*, errW_none, errW_some] <;> rfl) | (simp [bt, *]; done) | (unfold bt; simp [*]; done), by repeat (first | (with_reducible first | exact HB.out | apply below_alloc | apply pw_below_drewN | apply below_drew1 | refine below_set ?_ GE101.out | refine below_set ?_ GE102.out) | exact HB.out)⟩
 rw [if_neg c9] at H
 have c9b0 : decide (1000 < (a0_9.size : Int)) = false := decide_eq_false c9
 have c9b1 : decide (1000 < a0_9.size) = false := decide_eq_false (by omega)
 clear c9
 by_cases c14 : (a1.size : Int) > 1000
 ·rw [if_pos c14] at H
  have c14b0 : decide (1000 < (a1.size : Int)) = true := decide_eq_true c14
  have c14b1 : decide (1000 < a1.size) = true := decide_eq_true (by omega)
  clear c14
  obtain rfl := Option.some.inj H
  go_enter Tryz.func7, Tryz.ntmps7
  go_wp2_with (first | ((with_reducible refine gate_dst (N := 3) rfl ?_); (try (refine gate_guard (by rfl) ?_; dsimp only)); refine box_event ?hg (N := 3) ?hd (cs := #[.int .i64 a0_0, .bool a0_1, .bool a0_2, .bool a0_3, .bool a0_4, .bool a0_5, .int .i64 a0_6, .int .i64 a0_7, .string a0_8, .string a0_9, .int .u32 a0_10, .int .u32 a0_11]) (t := 27) ?hr ?_; (case hd => rfl); (case hg => rfl); (case hr => first | (go_simp; done) | (go_simp; rfl)); intro gb101 hg w15 hbox hb; have n0_ := Aside0.mk (below_step (hb_ HB) hb); have n1_ := Aside0.mk (hbox); have n2_ := Aside0.mk ((by rw [hg]; exact (below_size (hb_ HB)) : w.heap.size ≤ gb101)); have n3_ := Aside0.mk ((by rw [hg]; exact (below_size (hb_ HB)) : w.heap.size ≤ gb101)); clear HB; have HB := n0_; have BK101 := n1_; have GW101 := n2_; have GE101 := n3_; clear n0_ n1_ n2_ n3_; clear hb hbox hg) | ((with_reducible refine gate_dst (N := 5) rfl ?_); (try (refine gate_guard (by rfl) ?_; dsimp only)); refine box_event ?hg (N := 5) ?hd (cs := #[.string a2_0, .string a2_1]) (t := 35) ?hr ?_; (case hd => rfl); (case hg => rfl); (case hr => first | (go_simp; done) | (go_simp; rfl)); intro gb102 hg w16 hbox hb; have n0_ := Aside0.mk (blk_below (bk_ BK101) hb); have n1_ := Aside0.mk (below_step (hb_ HB) hb); have n2_ := Aside0.mk (hbox); have n3_ := Aside0.mk ((by rw [hg]; exact (below_size (hb_ HB)) : w.heap.size ≤ gb102)); have n4_ := Aside0.mk ((by rw [hg]; exact (below_size (hb_ HB)) : w.heap.size ≤ gb102)); have n5_ := Aside0.mk ((by rw [hg]; exact Nat.ne_of_lt (blk_lt (g := gb101) (o := .cells #[.int .i64 a0_0, .bool a0_1, .bool a0_2, .bool a0_3, .bool a0_4, .bool a0_5, .int .i64 a0_6, .int .i64 a0_7, .string a0_8, .string a0_9, .int .u32 a0_10, .int .u32 a0_11] 27 (0, 0)) (bk_ BK101)) : gb101 ≠ gb102)); have n6_ := Aside0.mk ((by rw [hg]; exact Nat.ne_of_gt (blk_lt (g := gb101) (o := .cells #[.int .i64 a0_0, .bool a0_1, .bool a0_2, .bool a0_3, .bool a0_4, .bool a0_5, .int .i64 a0_6, .int .i64 a0_7, .string a0_8, .string a0_9, .int .u32 a0_10, .int .u32 a0_11] 27 (0, 0)) (bk_ BK101)) : gb102 ≠ gb101)); clear BK101; clear HB; have BK101 := n0_; have HB := n1_; have BK102 := n2_; have GW102 := n3_; have GE102 := n4_; have NB101_102 := n5_; have NB102_101 := n6_; clear n0_ n1_ n2_ n3_ n4_ n5_ n6_; clear hb hbox hg; have hnb17 := NB101_102.out; have hnc17 := NB102_101.out; have hcz18_0 : w16.cell? ⟨gb101, 0, none⟩ = some (.int .i64 a0_0) := (blk_cell BK101.out 0).trans rfl; have hcz18_1 : w16.cell? ⟨gb101, 1, none⟩ = some (.bool a0_1) := (blk_cell BK101.out 1).trans rfl; have hcz18_2 : w16.cell? ⟨gb101, 2, none⟩ = some (.bool a0_2) := (blk_cell BK101.out 2).trans rfl; have hcz18_3 : w16.cell? ⟨gb101, 3, none⟩ = some (.bool a0_3) := (blk_cell BK101.out 3).trans rfl; have hcz18_4 : w16.cell? ⟨gb101, 4, none⟩ = some (.bool a0_4) := (blk_cell BK101.out 4).trans rfl; have hcz18_5 : w16.cell? ⟨gb101, 5, none⟩ = some (.bool a0_5) := (blk_cell BK101.out 5).trans rfl; have hcz18_6 : w16.cell? ⟨gb101, 6, none⟩ = some (.int .i64 a0_6) := (blk_cell BK101.out 6).trans rfl; have hcz18_7 : w16.cell? ⟨gb101, 7, none⟩ = some (.int .i64 a0_7) := (blk_cell BK101.out 7).trans rfl; have hcz18_8 : w16.cell? ⟨gb101, 8, none⟩ = some (.string a0_8) := (blk_cell BK101.out 8).trans rfl; have hcz18_9 : w16.cell? ⟨gb101, 9, none⟩ = some (.string a0_9) := (blk_cell BK101.out 9).trans rfl; have hcz18_10 : w16.cell? ⟨gb101, 10, none⟩ = some (.int .u32 a0_10) := (blk_cell BK101.out 10).trans rfl; have hcz18_11 : w16.cell? ⟨gb101, 11, none⟩ = some (.int .u32 a0_11) := (blk_cell BK101.out 11).trans rfl; have hfz18_0 := blk_frozen BK101.out 0; have hfz18_1 := blk_frozen BK101.out 1; have hfz18_2 := blk_frozen BK101.out 2; have hfz18_3 := blk_frozen BK101.out 3; have hfz18_4 := blk_frozen BK101.out 4; have hfz18_5 := blk_frozen BK101.out 5; have hfz18_6 := blk_frozen BK101.out 6; have hfz18_7 := blk_frozen BK101.out 7; have hfz18_8 := blk_frozen BK101.out 8; have hfz18_9 := blk_frozen BK101.out 9; have hfz18_10 := blk_frozen BK101.out 10; have hfz18_11 := blk_frozen BK101.out 11))
  go_ret
  exact ⟨by first | rfl | (simp [errW_none, errW_some] <;> rfl) | (simp [*, errW_none, errW_some] <;> rfl) | (simp [bt, *]; done) | (unfold bt; simp [*]; done), by repeat (first | (with_reducible first | exact HB.out | apply below_alloc | apply pw_below_drewN | apply below_drew1 | refine below_set ?_ GE101.out | refine below_set ?_ GE102.out) | exact HB.out)⟩
 rw [if_neg c14] at H
 have c14b0 : decide (1000 < (a1.size : Int)) = false := decide_eq_false c14
 have c14b1 : decide (1000 < a1.size) = false := decide_eq_false (by omega)
 clear c14
 by_cases c19 : (a2_0.size : Int) > 1000
 ·rw [if_pos c19] at H
  have c19b0 : decide (1000 < (a2_0.size : Int)) = true := decide_eq_true c19
  have c19b1 : decide (1000 < a2_0.size) = true := decide_eq_true (by omega)
  clear c19
  obtain rfl := Option.some.inj H
  go_enter Tryz.func7, Tryz.ntmps7
  go_wp2_with (first | ((with_reducible refine gate_dst (N := 3) rfl ?_); (try (refine gate_guard (by rfl) ?_; dsimp only)); refine box_event ?hg (N := 3) ?hd (cs := #[.int .i64 a0_0, .bool a0_1, .bool a0_2, .bool a0_3, .bool a0_4, .bool a0_5, .int .i64 a0_6, .int .i64 a0_7, .string a0_8, .string a0_9, .int .u32 a0_10, .int .u32 a0_11]) (t := 27) ?hr ?_; (case hd => rfl); (case hg => rfl); (case hr => first | (go_simp; done) | (go_simp; rfl)); intro gb101 hg w20 hbox hb; have n0_ := Aside0.mk (below_step (hb_ HB) hb); have n1_ := Aside0.mk (hbox); have n2_ := Aside0.mk ((by rw [hg]; exact (below_size (hb_ HB)) : w.heap.size ≤ gb101)); have n3_ := Aside0.mk ((by rw [hg]; exact (below_size (hb_ HB)) : w.heap.size ≤ gb101)); clear HB; have HB := n0_; have BK101 := n1_; have GW101 := n2_; have GE101 := n3_; clear n0_ n1_ n2_ n3_; clear hb hbox hg) | ((with_reducible refine gate_dst (N := 5) rfl ?_); (try (refine gate_guard (by rfl) ?_; dsimp only)); refine box_event ?hg (N := 5) ?hd (cs := #[.string a2_0, .string a2_1]) (t := 35) ?hr ?_; (case hd => rfl); (case hg => rfl); (case hr => first | (go_simp; done) | (go_simp; rfl)); intro gb102 hg w21 hbox hb; have n0_ := Aside0.mk (blk_below (bk_ BK101) hb); have n1_ := Aside0.mk (below_step (hb_ HB) hb); have n2_ := Aside0.mk (hbox); have n3_ := Aside0.mk ((by rw [hg]; exact (below_size (hb_ HB)) : w.heap.size ≤ gb102)); have n4_ := Aside0.mk ((by rw [hg]; exact (below_size (hb_ HB)) : w.heap.size ≤ gb102)); have n5_ := Aside0.mk ((by rw [hg]; exact Nat.ne_of_lt (blk_lt (g := gb101) (o := .cells #[.int .i64 a0_0, .bool a0_1, .bool a0_2, .bool a0_3, .bool a0_4, .bool a0_5, .int .i64 a0_6, .int .i64 a0_7, .string a0_8, .string a0_9, .int .u32 a0_10, .int .u32 a0_11] 27 (0, 0)) (bk_ BK101)) : gb101 ≠ gb102)); have n6_ := Aside0.mk ((by rw [hg]; exact Nat.ne_of_gt (blk_lt (g := gb101) (o := .cells #[.int .i64 a0_0, .bool a0_1, .bool a0_2, .bool a0_3, .bool a0_4, .bool a0_5, .int .i64 a0_6, .int .i64 a0_7, .string a0_8, .string a0_9, .int .u32 a0_10, .int .u32 a0_11] 27 (0, 0)) (bk_ BK101)) : gb102 ≠ gb101)); clear BK101; clear HB; have BK101 := n0_; have HB := n1_; have BK102 := n2_; have GW102 := n3_; have GE102 := n4_; have NB101_102 := n5_; have NB102_101 := n6_; clear n0_ n1_ n2_ n3_ n4_ n5_ n6_; clear hb hbox hg; have hnb22 := NB101_102.out; have hnc22 := NB102_101.out; have hcz23_0 : w21.cell? ⟨gb101, 0, none⟩ = some (.int .i64 a0_0) := (blk_cell BK101.out 0).trans rfl; have hcz23_1 : w21.cell? ⟨gb101, 1, none⟩ = some (.bool a0_1) := (blk_cell BK101.out 1).trans rfl; have hcz23_2 : w21.cell? ⟨gb101, 2, none⟩ = some (.bool a0_2) := (blk_cell BK101.out 2).trans rfl; have hcz23_3 : w21.cell? ⟨gb101, 3, none⟩ = some (.bool a0_3) := (blk_cell BK101.out 3).trans rfl; have hcz23_4 : w21.cell? ⟨gb101, 4, none⟩ = some (.bool a0_4) := (blk_cell BK101.out 4).trans rfl; have hcz23_5 : w21.cell? ⟨gb101, 5, none⟩ = some (.bool a0_5) := (blk_cell BK101.out 5).trans rfl; have hcz23_6 : w21.cell? ⟨gb101, 6, none⟩ = some (.int .i64 a0_6) := (blk_cell BK101.out 6).trans rfl; have hcz23_7 : w21.cell? ⟨gb101, 7, none⟩ = some (.int .i64 a0_7) := (blk_cell BK101.out 7).trans rfl; have hcz23_8 : w21.cell? ⟨gb101, 8, none⟩ = some (.string a0_8) := (blk_cell BK101.out 8).trans rfl; have hcz23_9 : w21.cell? ⟨gb101, 9, none⟩ = some (.string a0_9) := (blk_cell BK101.out 9).trans rfl; have hcz23_10 : w21.cell? ⟨gb101, 10, none⟩ = some (.int .u32 a0_10) := (blk_cell BK101.out 10).trans rfl; have hcz23_11 : w21.cell? ⟨gb101, 11, none⟩ = some (.int .u32 a0_11) := (blk_cell BK101.out 11).trans rfl; have hfz23_0 := blk_frozen BK101.out 0; have hfz23_1 := blk_frozen BK101.out 1; have hfz23_2 := blk_frozen BK101.out 2; have hfz23_3 := blk_frozen BK101.out 3; have hfz23_4 := blk_frozen BK101.out 4; have hfz23_5 := blk_frozen BK101.out 5; have hfz23_6 := blk_frozen BK101.out 6; have hfz23_7 := blk_frozen BK101.out 7; have hfz23_8 := blk_frozen BK101.out 8; have hfz23_9 := blk_frozen BK101.out 9; have hfz23_10 := blk_frozen BK101.out 10; have hfz23_11 := blk_frozen BK101.out 11; have hcz24_0 : w21.cell? ⟨gb102, 0, none⟩ = some (.string a2_0) := (blk_cell BK102.out 0).trans rfl; have hcz24_1 : w21.cell? ⟨gb102, 1, none⟩ = some (.string a2_1) := (blk_cell BK102.out 1).trans rfl; have hfz24_0 := blk_frozen BK102.out 0; have hfz24_1 := blk_frozen BK102.out 1))
  go_ret
  exact ⟨by first | rfl | (simp [errW_none, errW_some] <;> rfl) | (simp [*, errW_none, errW_some] <;> rfl) | (simp [bt, *]; done) | (unfold bt; simp [*]; done), by repeat (first | (with_reducible first | exact HB.out | apply below_alloc | apply pw_below_drewN | apply below_drew1 | refine below_set ?_ GE101.out | refine below_set ?_ GE102.out) | exact HB.out)⟩
 rw [if_neg c19] at H
 have c19b0 : decide (1000 < (a2_0.size : Int)) = false := decide_eq_false c19
 have c19b1 : decide (1000 < a2_0.size) = false := decide_eq_false (by omega)
 clear c19
 obtain rfl := Option.some.inj H
 go_enter Tryz.func7, Tryz.ntmps7
 go_wp2_with (first | ((with_reducible refine gate_dst (N := 3) rfl ?_); (try (refine gate_guard (by rfl) ?_; dsimp only)); refine box_event ?hg (N := 3) ?hd (cs := #[.int .i64 a0_0, .bool a0_1, .bool a0_2, .bool a0_3, .bool a0_4, .bool a0_5, .int .i64 a0_6, .int .i64 a0_7, .string a0_8, .string a0_9, .int .u32 a0_10, .int .u32 a0_11]) (t := 27) ?hr ?_; (case hd => rfl); (case hg => rfl); (case hr => first | (go_simp; done) | (go_simp; rfl)); intro gb101 hg w25 hbox hb; have n0_ := Aside0.mk (below_step (hb_ HB) hb); have n1_ := Aside0.mk (hbox); have n2_ := Aside0.mk ((by rw [hg]; exact (below_size (hb_ HB)) : w.heap.size ≤ gb101)); have n3_ := Aside0.mk ((by rw [hg]; exact (below_size (hb_ HB)) : w.heap.size ≤ gb101)); clear HB; have HB := n0_; have BK101 := n1_; have GW101 := n2_; have GE101 := n3_; clear n0_ n1_ n2_ n3_; clear hb hbox hg) | ((with_reducible refine gate_dst (N := 5) rfl ?_); (try (refine gate_guard (by rfl) ?_; dsimp only)); refine box_event ?hg (N := 5) ?hd (cs := #[.string a2_0, .string a2_1]) (t := 35) ?hr ?_; (case hd => rfl); (case hg => rfl); (case hr => first | (go_simp; done) | (go_simp; rfl)); intro gb102 hg w26 hbox hb; have n0_ := Aside0.mk (blk_below (bk_ BK101) hb); have n1_ := Aside0.mk (below_step (hb_ HB) hb); have n2_ := Aside0.mk (hbox); have n3_ := Aside0.mk ((by rw [hg]; exact (below_size (hb_ HB)) : w.heap.size ≤ gb102)); have n4_ := Aside0.mk ((by rw [hg]; exact (below_size (hb_ HB)) : w.heap.size ≤ gb102)); have n5_ := Aside0.mk ((by rw [hg]; exact Nat.ne_of_lt (blk_lt (g := gb101) (o := .cells #[.int .i64 a0_0, .bool a0_1, .bool a0_2, .bool a0_3, .bool a0_4, .bool a0_5, .int .i64 a0_6, .int .i64 a0_7, .string a0_8, .string a0_9, .int .u32 a0_10, .int .u32 a0_11] 27 (0, 0)) (bk_ BK101)) : gb101 ≠ gb102)); have n6_ := Aside0.mk ((by rw [hg]; exact Nat.ne_of_gt (blk_lt (g := gb101) (o := .cells #[.int .i64 a0_0, .bool a0_1, .bool a0_2, .bool a0_3, .bool a0_4, .bool a0_5, .int .i64 a0_6, .int .i64 a0_7, .string a0_8, .string a0_9, .int .u32 a0_10, .int .u32 a0_11] 27 (0, 0)) (bk_ BK101)) : gb102 ≠ gb101)); clear BK101; clear HB; have BK101 := n0_; have HB := n1_; have BK102 := n2_; have GW102 := n3_; have GE102 := n4_; have NB101_102 := n5_; have NB102_101 := n6_; clear n0_ n1_ n2_ n3_ n4_ n5_ n6_; clear hb hbox hg; have hnb27 := NB101_102.out; have hnc27 := NB102_101.out; have hcz28_0 : w26.cell? ⟨gb101, 0, none⟩ = some (.int .i64 a0_0) := (blk_cell BK101.out 0).trans rfl; have hcz28_1 : w26.cell? ⟨gb101, 1, none⟩ = some (.bool a0_1) := (blk_cell BK101.out 1).trans rfl; have hcz28_2 : w26.cell? ⟨gb101, 2, none⟩ = some (.bool a0_2) := (blk_cell BK101.out 2).trans rfl; have hcz28_3 : w26.cell? ⟨gb101, 3, none⟩ = some (.bool a0_3) := (blk_cell BK101.out 3).trans rfl; have hcz28_4 : w26.cell? ⟨gb101, 4, none⟩ = some (.bool a0_4) := (blk_cell BK101.out 4).trans rfl; have hcz28_5 : w26.cell? ⟨gb101, 5, none⟩ = some (.bool a0_5) := (blk_cell BK101.out 5).trans rfl; have hcz28_6 : w26.cell? ⟨gb101, 6, none⟩ = some (.int .i64 a0_6) := (blk_cell BK101.out 6).trans rfl; have hcz28_7 : w26.cell? ⟨gb101, 7, none⟩ = some (.int .i64 a0_7) := (blk_cell BK101.out 7).trans rfl; have hcz28_8 : w26.cell? ⟨gb101, 8, none⟩ = some (.string a0_8) := (blk_cell BK101.out 8).trans rfl; have hcz28_9 : w26.cell? ⟨gb101, 9, none⟩ = some (.string a0_9) := (blk_cell BK101.out 9).trans rfl; have hcz28_10 : w26.cell? ⟨gb101, 10, none⟩ = some (.int .u32 a0_10) := (blk_cell BK101.out 10).trans rfl; have hcz28_11 : w26.cell? ⟨gb101, 11, none⟩ = some (.int .u32 a0_11) := (blk_cell BK101.out 11).trans rfl; have hfz28_0 := blk_frozen BK101.out 0; have hfz28_1 := blk_frozen BK101.out 1; have hfz28_2 := blk_frozen BK101.out 2; have hfz28_3 := blk_frozen BK101.out 3; have hfz28_4 := blk_frozen BK101.out 4; have hfz28_5 := blk_frozen BK101.out 5; have hfz28_6 := blk_frozen BK101.out 6; have hfz28_7 := blk_frozen BK101.out 7; have hfz28_8 := blk_frozen BK101.out 8; have hfz28_9 := blk_frozen BK101.out 9; have hfz28_10 := blk_frozen BK101.out 10; have hfz28_11 := blk_frozen BK101.out 11; have hcz29_0 : w26.cell? ⟨gb102, 0, none⟩ = some (.string a2_0) := (blk_cell BK102.out 0).trans rfl; have hcz29_1 : w26.cell? ⟨gb102, 1, none⟩ = some (.string a2_1) := (blk_cell BK102.out 1).trans rfl; have hfz29_0 := blk_frozen BK102.out 0; have hfz29_1 := blk_frozen BK102.out 1))
 go_ret
 exact ⟨by first | rfl | (simp [errW_none, errW_some] <;> rfl) | (simp [*, errW_none, errW_some] <;> rfl) | (simp [bt, *]; done) | (unfold bt; simp [*]; done), by repeat (first | (with_reducible first | exact HB.out | apply below_alloc | apply pw_below_drewN | apply below_drew1 | refine below_set ?_ GE101.out | refine below_set ?_ GE102.out) | exact HB.out)⟩
def keys_First.f  : Option (Bool × Bool × Bool × Bool × Int × Int × ByteArray × ByteArray) := some (false, false, true, false, 8192, 4096, (⟨#[]⟩ : ByteArray), (⟨#[]⟩ : ByteArray))
set_option maxHeartbeats 8000000 in
set_option maxRecDepth 100000 in
theorem keys_First.calls  (r1 : Bool) (r2 : Bool) (r3 : Bool) (r4 : Bool) (r5 : Int) (r6 : Int) (r7 : ByteArray) (r8 : ByteArray) (w : World) (h : keys_First.f  = some (r1, r2, r3, r4, r5, r6, r7, r8)) :
    Calls Tryz.prog 15 #[] w fun e w' => e = .returned (.agg #[.bool r1, .bool r2, .bool r3, .bool r4, .int .i64 r5, .int .i64 r6, .string r7, .string r8]) ∧ Below w.heap.size w w' := by
  have hu24 := Tryz.underlying24
  have HB := Aside0.mk (Below.refl w.heap.size w)
  have H : (some (false, false, true, false, 8192, 4096, (⟨#[]⟩ : ByteArray), (⟨#[]⟩ : ByteArray))) = some (r1, r2, r3, r4, r5, r6, r7, r8) := h
  clear h
  simp only [Option.some.injEq, Prod.mk.injEq] at H
  obtain ⟨rfl, rfl, rfl, rfl, rfl, rfl, rfl, rfl⟩ := H
  go_enter Tryz.func15, Tryz.ntmps15
  go_wp2_with (first | ((with_reducible refine gate_dst (N := 0) rfl ?_); refine box_event ?hg (N := 0) ?hd (cs := #[.bool false, .bool false, .bool false, .bool false, .int .i64 0, .int .i64 0, .string (⟨#[]⟩ : ByteArray), .string (⟨#[]⟩ : ByteArray)]) (t := 24) ?hr ?_; (case hd => rfl); (case hg => rfl); (case hr => first | (go_simp; done) | (go_simp; rfl)); intro gb103 hg w1 hbox hb; have n0_ := Aside0.mk (below_step (by repeat (first | (with_reducible first | exact HB.out | apply below_alloc | apply pw_below_drewN | apply below_drew1) | exact HB.out)) hb); have n1_ := Aside0.mk (hbox); have n2_ := Aside0.mk ((by rw [hg]; exact (below_size (by repeat (first | (with_reducible first | exact HB.out | apply below_alloc | apply pw_below_drewN | apply below_drew1) | exact HB.out))) : w.heap.size ≤ gb103)); have n3_ := Aside0.mk ((by rw [hg]; exact (below_size (by repeat (first | (with_reducible first | exact HB.out | apply below_alloc | apply pw_below_drewN | apply below_drew1) | exact HB.out))) : w.heap.size ≤ gb103)); clear HB; have HB := n0_; have BK103 := n1_; have GW103 := n2_; have GE103 := n3_; clear n0_ n1_ n2_ n3_; clear hb hbox hg; have hcz2_0 : w1.cell? ⟨gb103, 0, none⟩ = some (.bool false) := (blk_cell BK103.out 0).trans rfl; have hcz2_1 : w1.cell? ⟨gb103, 1, none⟩ = some (.bool false) := (blk_cell BK103.out 1).trans rfl; have hcz2_2 : w1.cell? ⟨gb103, 2, none⟩ = some (.bool false) := (blk_cell BK103.out 2).trans rfl; have hcz2_3 : w1.cell? ⟨gb103, 3, none⟩ = some (.bool false) := (blk_cell BK103.out 3).trans rfl; have hcz2_4 : w1.cell? ⟨gb103, 4, none⟩ = some (.int .i64 0) := (blk_cell BK103.out 4).trans rfl; have hcz2_5 : w1.cell? ⟨gb103, 5, none⟩ = some (.int .i64 0) := (blk_cell BK103.out 5).trans rfl; have hcz2_6 : w1.cell? ⟨gb103, 6, none⟩ = some (.string (⟨#[]⟩ : ByteArray)) := (blk_cell BK103.out 6).trans rfl; have hcz2_7 : w1.cell? ⟨gb103, 7, none⟩ = some (.string (⟨#[]⟩ : ByteArray)) := (blk_cell BK103.out 7).trans rfl; have hfz2_0 := blk_frozen BK103.out 0; have hfz2_1 := blk_frozen BK103.out 1; have hfz2_2 := blk_frozen BK103.out 2; have hfz2_3 := blk_frozen BK103.out 3; have hfz2_4 := blk_frozen BK103.out 4; have hfz2_5 := blk_frozen BK103.out 5; have hfz2_6 := blk_frozen BK103.out 6; have hfz2_7 := blk_frozen BK103.out 7))
  refine bodyPost_ret (results_cell_row rfl _ _ gb103 24 #[.bool false, .bool false, .bool true, .bool false, .int .i64 8192, .int .i64 4096, .string (⟨#[]⟩ : ByteArray), .string (⟨#[]⟩ : ByteArray)] (0, 0) _ rfl (by (with_reducible repeat (first | refine blk_drewN ?_ _ | refine blk_drew ?_ | refine blk_alloc ?_ _)); refine blk_put (cs := #[.bool false, .bool false, .bool true, .bool false, .int .i64 8192, .int .i64 4096, .string (⟨#[]⟩ : ByteArray), .string (⟨#[]⟩ : ByteArray)]) ?_ 7 _ rfl; (with_reducible repeat (first | refine blk_drewN ?_ _ | refine blk_drew ?_ | refine blk_alloc ?_ _)); refine blk_put (cs := #[.bool false, .bool false, .bool true, .bool false, .int .i64 8192, .int .i64 4096, .string (⟨#[]⟩ : ByteArray), .string (⟨#[]⟩ : ByteArray)]) ?_ 6 _ rfl; (with_reducible repeat (first | refine blk_drewN ?_ _ | refine blk_drew ?_ | refine blk_alloc ?_ _)); refine blk_put (cs := #[.bool false, .bool false, .bool true, .bool false, .int .i64 8192, .int .i64 0, .string (⟨#[]⟩ : ByteArray), .string (⟨#[]⟩ : ByteArray)]) ?_ 5 _ rfl; (with_reducible repeat (first | refine blk_drewN ?_ _ | refine blk_drew ?_ | refine blk_alloc ?_ _)); refine blk_put (cs := #[.bool false, .bool false, .bool true, .bool false, .int .i64 0, .int .i64 0, .string (⟨#[]⟩ : ByteArray), .string (⟨#[]⟩ : ByteArray)]) ?_ 4 _ rfl; (with_reducible repeat (first | refine blk_drewN ?_ _ | refine blk_drew ?_ | refine blk_alloc ?_ _)); refine blk_put (cs := #[.bool false, .bool false, .bool true, .bool false, .int .i64 0, .int .i64 0, .string (⟨#[]⟩ : ByteArray), .string (⟨#[]⟩ : ByteArray)]) ?_ 3 _ rfl; (with_reducible repeat (first | refine blk_drewN ?_ _ | refine blk_drew ?_ | refine blk_alloc ?_ _)); refine blk_put (cs := #[.bool false, .bool false, .bool false, .bool false, .int .i64 0, .int .i64 0, .string (⟨#[]⟩ : ByteArray), .string (⟨#[]⟩ : ByteArray)]) ?_ 2 _ rfl; (with_reducible repeat (first | refine blk_drewN ?_ _ | refine blk_drew ?_ | refine blk_alloc ?_ _)); refine blk_put (cs := #[.bool false, .bool false, .bool false, .bool false, .int .i64 0, .int .i64 0, .string (⟨#[]⟩ : ByteArray), .string (⟨#[]⟩ : ByteArray)]) ?_ 1 _ rfl; (with_reducible repeat (first | refine blk_drewN ?_ _ | refine blk_drew ?_ | refine blk_alloc ?_ _)); refine blk_put (cs := #[.bool false, .bool false, .bool false, .bool false, .int .i64 0, .int .i64 0, .string (⟨#[]⟩ : ByteArray), .string (⟨#[]⟩ : ByteArray)]) ?_ 0 _ rfl; (with_reducible repeat (first | refine blk_drewN ?_ _ | refine blk_drew ?_ | refine blk_alloc ?_ _)); exact BK103.out) Tryz.underlying24 rfl (by kernel_rfl)) rfl ?_
  exact ⟨by first | rfl | (simp [errW_none, errW_some] <;> rfl) | (simp [*, errW_none, errW_some] <;> rfl) | (simp [bt, *]; done) | (unfold bt; simp [*]; done), by repeat (first | (with_reducible first | exact HB.out | apply below_alloc | apply pw_below_drewN | apply below_drew1 | refine below_set ?_ GE103.out) | exact HB.out)⟩
def login_First.f  : Option (Int × Bool × Bool × Bool × Bool × Bool × Int × Int × ByteArray × ByteArray × Int × Int) := (keys_First.f).bind fun bt105 => (some (0, false, bt105.1, bt105.2.1, bt105.2.2.1, bt105.2.2.2.1, bt105.2.2.2.2.1, bt105.2.2.2.2.2.1, bt105.2.2.2.2.2.2.1, bt105.2.2.2.2.2.2.2, 0, 1))
set_option maxHeartbeats 8000000 in
set_option maxRecDepth 100000 in
theorem login_First.calls  (r1 : Int) (r2 : Bool) (r3 : Bool) (r4 : Bool) (r5 : Bool) (r6 : Bool) (r7 : Int) (r8 : Int) (r9 : ByteArray) (r10 : ByteArray) (r11 : Int) (r12 : Int) (w : World) (h : login_First.f  = some (r1, r2, r3, r4, r5, r6, r7, r8, r9, r10, r11, r12)) :
    Calls Tryz.prog 5 #[] w fun e w' => e = .returned (.agg #[.int .i64 r1, .bool r2, .bool r3, .bool r4, .bool r5, .bool r6, .int .i64 r7, .int .i64 r8, .string r9, .string r10, .int .u32 r11, .int .u32 r12]) ∧ Below w.heap.size w w' := by
  have hu27 := Tryz.underlying27
  have HB := Aside0.mk (Below.refl w.heap.size w)
  have H : ((keys_First.f).bind fun bt105 => (some (0, false, bt105.1, bt105.2.1, bt105.2.2.1, bt105.2.2.2.1, bt105.2.2.2.2.1, bt105.2.2.2.2.2.1, bt105.2.2.2.2.2.2.1, bt105.2.2.2.2.2.2.2, 0, 1))) = some (r1, r2, r3, r4, r5, r6, r7, r8, r9, r10, r11, r12) := h
  clear h
  replace H := Option.bind_eq_some_iff.mp H
  obtain ⟨⟨t105, t106, t107, t108, t109, t110, t111, t112⟩, A10, H⟩ := H
  replace H : (some (0, false, t105, t106, t107, t108, t109, t110, t111, t112, 0, 1)) = some (r1, r2, r3, r4, r5, r6, r7, r8, r9, r10, r11, r12) := H
  have A1 := Aside0.mk A10
  clear A10
  simp only [Option.some.injEq, Prod.mk.injEq] at H
  obtain ⟨rfl, rfl, rfl, rfl, rfl, rfl, rfl, rfl, rfl, rfl, rfl, rfl⟩ := H
  go_enter Tryz.func5, Tryz.ntmps5
  go_wp2_with (first | ((with_reducible refine gate_dst (N := 0) rfl ?_); refine box_event ?hg (N := 0) ?hd (cs := #[.int .i64 0, .bool false, .bool false, .bool false, .bool false, .bool false, .int .i64 0, .int .i64 0, .string (⟨#[]⟩ : ByteArray), .string (⟨#[]⟩ : ByteArray), .int .u32 0, .int .u32 0]) (t := 27) ?hr ?_; (case hd => rfl); (case hg => rfl); (case hr => first | (go_simp; done) | (go_simp; rfl)); intro gb104 hg w2 hbox hb; have n0_ := Aside0.mk (below_step (by repeat (first | (with_reducible first | exact HB.out | apply below_alloc | apply pw_below_drewN | apply below_drew1) | exact HB.out)) hb); have n1_ := Aside0.mk (hbox); have n2_ := Aside0.mk ((by rw [hg]; exact (below_size (by repeat (first | (with_reducible first | exact HB.out | apply below_alloc | apply pw_below_drewN | apply below_drew1) | exact HB.out))) : w.heap.size ≤ gb104)); have n3_ := Aside0.mk ((by rw [hg]; exact (below_size (by repeat (first | (with_reducible first | exact HB.out | apply below_alloc | apply pw_below_drewN | apply below_drew1) | exact HB.out))) : w.heap.size ≤ gb104)); clear HB; have HB := n0_; have BK104 := n1_; have GW104 := n2_; have GE104 := n3_; clear n0_ n1_ n2_ n3_; clear hb hbox hg) | ((with_reducible refine gate_callee (f := 15) rfl ?_); refine goesL_ (some 1) rfl rfl Tryz.func15 (by kernel_rfl) rfl #[] rfl (by (try simp only [List.map_toArray, List.map_cons, List.map_nil]); first | done | rfl | (simp only [List.length_drop, List.length_take]; rfl)) ?_; (with_reducible refine (keys_First.calls  t105 t106 t107 t108 t109 t110 t111 t112 _ A1.out).mono ?_); rintro e w3 ⟨rfl, hb⟩; refine ⟨_, rfl, ?_⟩; have n0_ := Aside0.mk (blk_below (g := gb104) (o := .cells #[.int .i64 0, .bool false, .bool false, .bool false, .bool false, .bool false, .int .i64 0, .int .i64 0, .string (⟨#[]⟩ : ByteArray), .string (⟨#[]⟩ : ByteArray), .int .u32 0, .int .u32 0] 27 (0, 0)) (by (with_reducible repeat (first | refine blk_drewN ?_ _ | refine blk_drew ?_ | refine blk_alloc ?_ _)); exact BK104.out) hb); have n1_ := Aside0.mk (below_step (by repeat (first | (with_reducible first | exact HB.out | apply below_alloc | apply pw_below_drewN | apply below_drew1 | refine below_set ?_ GE104.out) | exact HB.out)) hb); clear BK104; clear HB; have BK104 := n0_; have HB := n1_; clear n0_ n1_; (try clear hb); (try clear hb2); (try clear hk); (try clear hi); have hcz4_0 : w3.cell? ⟨gb104, 0, none⟩ = some (.int .i64 0) := (blk_cell BK104.out 0).trans rfl; have hcz4_1 : w3.cell? ⟨gb104, 1, none⟩ = some (.bool false) := (blk_cell BK104.out 1).trans rfl; have hcz4_2 : w3.cell? ⟨gb104, 2, none⟩ = some (.bool false) := (blk_cell BK104.out 2).trans rfl; have hcz4_3 : w3.cell? ⟨gb104, 3, none⟩ = some (.bool false) := (blk_cell BK104.out 3).trans rfl; have hcz4_4 : w3.cell? ⟨gb104, 4, none⟩ = some (.bool false) := (blk_cell BK104.out 4).trans rfl; have hcz4_5 : w3.cell? ⟨gb104, 5, none⟩ = some (.bool false) := (blk_cell BK104.out 5).trans rfl; have hcz4_6 : w3.cell? ⟨gb104, 6, none⟩ = some (.int .i64 0) := (blk_cell BK104.out 6).trans rfl; have hcz4_7 : w3.cell? ⟨gb104, 7, none⟩ = some (.int .i64 0) := (blk_cell BK104.out 7).trans rfl; have hcz4_8 : w3.cell? ⟨gb104, 8, none⟩ = some (.string (⟨#[]⟩ : ByteArray)) := (blk_cell BK104.out 8).trans rfl; have hcz4_9 : w3.cell? ⟨gb104, 9, none⟩ = some (.string (⟨#[]⟩ : ByteArray)) := (blk_cell BK104.out 9).trans rfl; have hcz4_10 : w3.cell? ⟨gb104, 10, none⟩ = some (.int .u32 0) := (blk_cell BK104.out 10).trans rfl; have hcz4_11 : w3.cell? ⟨gb104, 11, none⟩ = some (.int .u32 0) := (blk_cell BK104.out 11).trans rfl; have hfz4_0 := blk_frozen BK104.out 0; have hfz4_1 := blk_frozen BK104.out 1; have hfz4_2 := blk_frozen BK104.out 2; have hfz4_3 := blk_frozen BK104.out 3; have hfz4_4 := blk_frozen BK104.out 4; have hfz4_5 := blk_frozen BK104.out 5; have hfz4_6 := blk_frozen BK104.out 6; have hfz4_7 := blk_frozen BK104.out 7; have hfz4_8 := blk_frozen BK104.out 8; have hfz4_9 := blk_frozen BK104.out 9; have hfz4_10 := blk_frozen BK104.out 10; have hfz4_11 := blk_frozen BK104.out 11))
  refine bodyPost_ret (results_cell_row rfl _ _ gb104 27 #[.int .i64 0, .bool false, .bool t105, .bool t106, .bool t107, .bool t108, .int .i64 t109, .int .i64 t110, .string t111, .string t112, .int .u32 0, .int .u32 1] (0, 0) _ rfl (by (with_reducible repeat (first | refine blk_drewN ?_ _ | refine blk_drew ?_ | refine blk_alloc ?_ _)); refine blk_put (cs := #[.int .i64 0, .bool false, .bool t105, .bool t106, .bool t107, .bool t108, .int .i64 t109, .int .i64 t110, .string t111, .string t112, .int .u32 0, .int .u32 0]) ?_ 11 _ rfl; (with_reducible repeat (first | refine blk_drewN ?_ _ | refine blk_drew ?_ | refine blk_alloc ?_ _)); refine blk_put (cs := #[.int .i64 0, .bool false, .bool t105, .bool t106, .bool t107, .bool t108, .int .i64 t109, .int .i64 t110, .string t111, .string t112, .int .u32 0, .int .u32 0]) ?_ 10 _ rfl; (with_reducible repeat (first | refine blk_drewN ?_ _ | refine blk_drew ?_ | refine blk_alloc ?_ _)); refine blk_put (cs := #[.int .i64 0, .bool false, .bool t105, .bool t106, .bool t107, .bool t108, .int .i64 t109, .int .i64 t110, .string t111, .string (⟨#[]⟩ : ByteArray), .int .u32 0, .int .u32 0]) ?_ 9 _ rfl; (with_reducible repeat (first | refine blk_drewN ?_ _ | refine blk_drew ?_ | refine blk_alloc ?_ _)); refine blk_put (cs := #[.int .i64 0, .bool false, .bool t105, .bool t106, .bool t107, .bool t108, .int .i64 t109, .int .i64 t110, .string (⟨#[]⟩ : ByteArray), .string (⟨#[]⟩ : ByteArray), .int .u32 0, .int .u32 0]) ?_ 8 _ rfl; (with_reducible repeat (first | refine blk_drewN ?_ _ | refine blk_drew ?_ | refine blk_alloc ?_ _)); refine blk_put (cs := #[.int .i64 0, .bool false, .bool t105, .bool t106, .bool t107, .bool t108, .int .i64 t109, .int .i64 0, .string (⟨#[]⟩ : ByteArray), .string (⟨#[]⟩ : ByteArray), .int .u32 0, .int .u32 0]) ?_ 7 _ rfl; (with_reducible repeat (first | refine blk_drewN ?_ _ | refine blk_drew ?_ | refine blk_alloc ?_ _)); refine blk_put (cs := #[.int .i64 0, .bool false, .bool t105, .bool t106, .bool t107, .bool t108, .int .i64 0, .int .i64 0, .string (⟨#[]⟩ : ByteArray), .string (⟨#[]⟩ : ByteArray), .int .u32 0, .int .u32 0]) ?_ 6 _ rfl; (with_reducible repeat (first | refine blk_drewN ?_ _ | refine blk_drew ?_ | refine blk_alloc ?_ _)); refine blk_put (cs := #[.int .i64 0, .bool false, .bool t105, .bool t106, .bool t107, .bool false, .int .i64 0, .int .i64 0, .string (⟨#[]⟩ : ByteArray), .string (⟨#[]⟩ : ByteArray), .int .u32 0, .int .u32 0]) ?_ 5 _ rfl; (with_reducible repeat (first | refine blk_drewN ?_ _ | refine blk_drew ?_ | refine blk_alloc ?_ _)); refine blk_put (cs := #[.int .i64 0, .bool false, .bool t105, .bool t106, .bool false, .bool false, .int .i64 0, .int .i64 0, .string (⟨#[]⟩ : ByteArray), .string (⟨#[]⟩ : ByteArray), .int .u32 0, .int .u32 0]) ?_ 4 _ rfl; (with_reducible repeat (first | refine blk_drewN ?_ _ | refine blk_drew ?_ | refine blk_alloc ?_ _)); refine blk_put (cs := #[.int .i64 0, .bool false, .bool t105, .bool false, .bool false, .bool false, .int .i64 0, .int .i64 0, .string (⟨#[]⟩ : ByteArray), .string (⟨#[]⟩ : ByteArray), .int .u32 0, .int .u32 0]) ?_ 3 _ rfl; (with_reducible repeat (first | refine blk_drewN ?_ _ | refine blk_drew ?_ | refine blk_alloc ?_ _)); refine blk_put (cs := #[.int .i64 0, .bool false, .bool false, .bool false, .bool false, .bool false, .int .i64 0, .int .i64 0, .string (⟨#[]⟩ : ByteArray), .string (⟨#[]⟩ : ByteArray), .int .u32 0, .int .u32 0]) ?_ 2 _ rfl; (with_reducible repeat (first | refine blk_drewN ?_ _ | refine blk_drew ?_ | refine blk_alloc ?_ _)); refine blk_put (cs := #[.int .i64 0, .bool false, .bool false, .bool false, .bool false, .bool false, .int .i64 0, .int .i64 0, .string (⟨#[]⟩ : ByteArray), .string (⟨#[]⟩ : ByteArray), .int .u32 0, .int .u32 0]) ?_ 1 _ rfl; (with_reducible repeat (first | refine blk_drewN ?_ _ | refine blk_drew ?_ | refine blk_alloc ?_ _)); refine blk_put (cs := #[.int .i64 0, .bool false, .bool false, .bool false, .bool false, .bool false, .int .i64 0, .int .i64 0, .string (⟨#[]⟩ : ByteArray), .string (⟨#[]⟩ : ByteArray), .int .u32 0, .int .u32 0]) ?_ 0 _ rfl; (with_reducible repeat (first | refine blk_drewN ?_ _ | refine blk_drew ?_ | refine blk_alloc ?_ _)); exact BK104.out) Tryz.underlying27 rfl (by kernel_rfl)) rfl ?_
  exact ⟨by first | rfl | (simp [errW_none, errW_some] <;> rfl) | (simp [*, errW_none, errW_some] <;> rfl) | (simp [bt, *]; done) | (unfold bt; simp [*]; done), by repeat (first | (with_reducible first | exact HB.out | apply below_alloc | apply pw_below_drewN | apply below_drew1 | refine below_set ?_ GE104.out) | exact HB.out)⟩
section
open Go.Extern.Stop Go.Stop Go.Extern
theorem as_v1 (t : Addr) (w : World) : (ReflectliteValue.unpack (.iface 57 (.pointer (some t)))).run Tryz.prog w = .ok (.agg #[.pointer (some ⟨9, 57, none⟩), .pointer (some ⟨w.heap.size, 0, none⟩), .int .u64 150]) (w.alloc (.cells #[.pointer (some t)] 57)) := by kernel_rfl
theorem as_v2 (c d : Int) (w : World) : (ReflectliteValue.unpack (.iface 55 (.agg #[.int .i64 c, .int .i64 d]))).run Tryz.prog w = .ok (.agg #[.pointer (some ⟨9, 55, none⟩), .pointer (some ⟨w.heap.size, 0, none⟩), .int .u64 153]) (w.alloc (.cells #[.int .i64 c, .int .i64 d] 55)) := by kernel_rfl
theorem as_ty (a : Addr) (w : World) : (ReflectliteValue.methodAny (ReflectliteValue.valueError "reflectlite.Value.Type" 0) (fun t _ _ _ => ReflectliteType.toType t) #[.agg #[.pointer (some ⟨9, 57, none⟩), .pointer (some a), .int .u64 150]]).run Tryz.prog w = .ok (.iface 125 (.agg #[.pointer (some ⟨9, 57, none⟩)])) w := by kernel_rfl
theorem as_mK (h : Value) (w : World) : (Go.method 348 125 (.agg #[h]) "Kind").run Tryz.prog w = .ok (166, h) w := by kernel_rfl
theorem as_mE (h : Value) (w : World) : (Go.method 348 125 (.agg #[h]) "Elem").run Tryz.prog w = .ok (177, .agg #[h]) w := by kernel_rfl
theorem as_mI (h : Value) (w : World) : (Go.method 348 125 (.agg #[h]) "Implements").run Tryz.prog w = .ok (178, .agg #[h]) w := by kernel_rfl
theorem as_mA (h : Value) (w : World) : (Go.method 348 125 (.agg #[h]) "AssignableTo").run Tryz.prog w = .ok (175, .agg #[h]) w := by kernel_rfl
theorem as_kp (w : World) : ((ReflectliteType.abiMethod fun t => (fun a : Nat => Value.int IntKind.u8 (a : Int)) <$> Rtype.kind t) #[.pointer (some ⟨9, 57, none⟩)]).run Tryz.prog w = .ok (.int .u8 22) w := by kernel_rfl
theorem as_ks (w : World) : ((ReflectliteType.abiMethod fun t => (fun a : Nat => Value.int IntKind.u8 (a : Int)) <$> Rtype.kind t) #[.pointer (some ⟨9, 55, none⟩)]).run Tryz.prog w = .ok (.int .u8 25) w := by kernel_rfl
theorem as_el (w : World) : (ReflectliteType.method ReflectliteType.elem #[.agg #[.pointer (some ⟨9, 57, none⟩)]]).run Tryz.prog w = .ok (.iface 125 (.agg #[.pointer (some ⟨9, 55, none⟩)])) w := by kernel_rfl
theorem as_im (w : World) : (ReflectliteType.relation "Implements" ReflectliteType.implements_ #[.agg #[.pointer (some ⟨9, 55, none⟩)], .iface 125 (.agg #[.pointer (some ⟨9, 52, none⟩)])]).run Tryz.prog w = .ok (.bool true) w := by kernel_rfl
theorem as_to (v : Value) (w : World) : (ReflectliteType.typeOf #[.iface 55 v]).run Tryz.prog w = .ok (.iface 125 (.agg #[.pointer (some ⟨9, 55, none⟩)])) w := by kernel_rfl
theorem as_at (w : World) : (ReflectliteType.relation "AssignableTo" ReflectliteType.assignableTo #[.agg #[.pointer (some ⟨9, 55, none⟩)], .iface 125 (.agg #[.pointer (some ⟨9, 55, none⟩)])]).run Tryz.prog w = .ok (.bool true) w := by kernel_rfl
theorem as_pp (a : Addr) (w : World) : (ReflectliteValue.parts (.agg #[.pointer (some ⟨9, 57, none⟩), .pointer (some a), .int .u64 150])).run Tryz.prog w = .ok (some (57, a, 150)) w := by kernel_rfl
theorem as_ps (a : Addr) (w : World) : (ReflectliteValue.parts (.agg #[.pointer (some ⟨9, 55, none⟩), .pointer (some a), .int .u64 153])).run Tryz.prog w = .ok (some (55, a, 153)) w := by kernel_rfl
theorem as_pa (a : Addr) (w : World) : (ReflectliteValue.parts (.agg #[.pointer (some ⟨9, 55, none⟩), .pointer (some a), .int .u64 409])).run Tryz.prog w = .ok (some (55, a, 409)) w := by kernel_rfl
theorem as_eo (w : World) : (Rtype.elem? 57).run Tryz.prog w = .ok (some 55) w := by kernel_rfl
theorem as_mk (p : Addr) (w : World) : (ReflectliteValue.mk 55 p ReflectliteValue.flagAddr).run Tryz.prog w = .ok (.agg #[.pointer (some ⟨9, 55, none⟩), .pointer (some p), .int .u64 409]) w := by kernel_rfl
theorem as_di (w : World) : (Rtype.directlyAssignable 55 55).run Tryz.prog w = .ok true w := by kernel_rfl
theorem as_rlm (z : Sem Value) (f : TypeId → Addr → Nat → Nat → Sem Value) (v : Value) : ReflectliteValue.method z f #[v] = (do match ← ReflectliteValue.parts v with | none => z | some (t, a, fl) => f t a fl (fl % 32)) := rfl
theorem as_ni (a p : Addr) (W : World) (ha : W.cell? a = some (.pointer (some p))) : (ReflectliteValue.method (ReflectliteValue.valueError "reflectlite.Value.IsNil" 0) ReflectliteValue.isNil #[.agg #[.pointer (some ⟨9, 57, none⟩), .pointer (some a), .int .u64 150]]).run Tryz.prog W = .ok (.bool false) W := by
  rw [as_rlm]
  simp only [Sem.run_bind, as_pp, Result.andThen]
  simp [ReflectliteValue.isNil, loadVar, isAgg, underlying, Tryz.underlying57, ha, Result.andThen]
theorem as_ev (a p : Addr) (W : World) (ha : W.cell? a = some (.pointer (some p))) : (ReflectliteValue.method (ReflectliteValue.valueError "reflectlite.Value.Elem" 0) ReflectliteValue.elem #[.agg #[.pointer (some ⟨9, 57, none⟩), .pointer (some a), .int .u64 150]]).run Tryz.prog W = .ok (.agg #[.pointer (some ⟨9, 55, none⟩), .pointer (some p), .int .u64 409]) W := by
  rw [as_rlm]
  simp only [Sem.run_bind, as_pp, Result.andThen]
  simp [ReflectliteValue.elem, loadVar, isAgg, underlying, Tryz.underlying57, ha, Result.andThen, as_eo, as_mk]
theorem as_rls (v x : Value) : ReflectliteValue.set #[v, x] = (do
    let (some (dst, a, fl), some (src, b, _)) := (← ReflectliteValue.parts v, ← ReflectliteValue.parts x)
      | unsupported (.noEntry "extern/(internal/reflectlite.Value).Set.zeroValue")
    if fl / ReflectliteValue.flagAddr % 2 == 0 then unsupported (.noEntry "extern/(internal/reflectlite.Value).Set.unaddressable")
    let val ← loadVar src b
    if ← Rtype.directlyAssignable dst src then storeVar dst a val
    else if ← Rtype.implements dst src then
      if (← Rtype.kind src) == 20 then
        match val with
        | .nilIface => unsupported (.noEntry "extern/reflectlite: a nil value of one interface type handed on as a value of another")
        | _ => storeVar dst a val
      else storeVar dst a (.iface src val)
    else panicString ("reflectlite.Set: value of type " ++ (← Rtype.spelt src) ++ " is not assignable to type " ++ (← Rtype.spelt dst))
    pure (.tuple #[])) := rfl
theorem as_set (g b : Nat) (c d : Int) (W : World) (hb : W.heap[b]? = some (.cells #[.int .i64 c, .int .i64 d] 55 (0, 0))) (hg : W.heap[g]? = some (.cells #[.int .i64 0, .int .i64 0] 55 (0, 0))) :
    (ReflectliteValue.set #[.agg #[.pointer (some ⟨9, 55, none⟩), .pointer (some ⟨g, 0, none⟩), .int .u64 409], .agg #[.pointer (some ⟨9, 55, none⟩), .pointer (some ⟨b, 0, none⟩), .int .u64 153]]).run Tryz.prog W = .ok (.tuple #[]) ((W.setCell ⟨g, 0, none⟩ (.int .i64 c)).setCell ⟨g, 1, none⟩ (.int .i64 d)) := by
  have c0 : W.cell? ⟨b, 0, none⟩ = some (.int .i64 c) := (blk_cell hb 0).trans rfl
  have c1 : W.cell? ⟨b, 1, none⟩ = some (.int .i64 d) := (blk_cell hb 1).trans rfl
  have t0 : W.cell? ⟨g, 0, none⟩ = some (.int .i64 0) := (blk_cell hg 0).trans rfl
  have f0 := blk_frozen hg 0
  have hg1 := blk_put (cs' := #[.int .i64 c, .int .i64 0]) hg 0 (.int .i64 c) rfl
  have t1 : (W.setCell ⟨g, 0, none⟩ (.int .i64 c)).cell? ⟨g, 1, none⟩ = some (.int .i64 0) := (blk_cell hg1 1).trans rfl
  have f1 := blk_frozen hg1 1
  have hl : (loadVar 55 ⟨b, 0, none⟩).run Tryz.prog W = .ok (.agg #[.int .i64 c, .int .i64 d]) W := run_loadVar_row W b 55 55 #[.int .i64 c, .int .i64 d] (0, 0) _ hb Tryz.underlying55 rfl (by kernel_rfl)
  rw [as_rls]
  simp only [Sem.run_bind, as_pa, as_ps, Result.andThen]
  simp [ReflectliteValue.flagAddr, hl, Result.andThen, as_di, storeVar, Value.cells, storeCells, Addr.add]
  rw [run_store Tryz.prog W ⟨g, 0, none⟩ _ _ (by rfl)]
  simp [t0, f0]
  rw [run_store Tryz.prog _ ⟨g, 1, none⟩ _ _ (by rfl)]
  simp [t1, f1]
set_option maxHeartbeats 4000000 in
set_option maxRecDepth 100000 in
theorem as_hit (g : Nat) (c d : Int) (w : World) (hG : Glob w) (hg : w.heap[g]? = some (.cells #[.int .i64 0, .int .i64 0] 55 (0, 0))) :
    Calls Tryz.prog 20 #[.iface 55 (.agg #[.int .i64 c, .int .i64 d]), .iface 57 (.pointer (some ⟨g, 0, none⟩))] w fun e w' => e = .returned (.bool true) ∧ w' = (((((w.alloc (.cells #[.pointer (some ⟨g, 0, none⟩)] 57)).alloc (.cells #[.pointer (some ⟨9, 57, none⟩), .pointer (some ⟨w.heap.size, 0, none⟩), .int .u64 150] 89)).alloc (.cells #[.pointer (some ⟨9, 57, none⟩), .pointer (some ⟨w.heap.size, 0, none⟩), .int .u64 150] 89)).alloc (.cells #[.int .i64 c, .int .i64 d] 55)).setCell ⟨g, 0, none⟩ (.int .i64 c)).setCell ⟨g, 1, none⟩ (.int .i64 d) := by
  have x1 := @run_callFunc_extern Tryz.prog 39 _ (fun args => ReflectliteValue.unpack (args.getD 0 (.tuple #[]))) Tryz.func39 (by kernel_rfl) (by kernel_rfl) (by kernel_rfl) (by kernel_rfl)
  have x2 := @run_callFunc_extern Tryz.prog 40 _ (ReflectliteValue.methodAny (ReflectliteValue.valueError "reflectlite.Value.Type" 0) (fun t _ _ _ => ReflectliteType.toType t)) Tryz.func40 (by kernel_rfl) (by kernel_rfl) (by kernel_rfl) (by kernel_rfl)
  have x3 := @run_callFunc_extern Tryz.prog 41 _ (ReflectliteValue.method (ReflectliteValue.valueError "reflectlite.Value.IsNil" 0) ReflectliteValue.isNil) Tryz.func41 (by kernel_rfl) (by kernel_rfl) (by kernel_rfl) (by kernel_rfl)
  have x4 := @run_callFunc_extern Tryz.prog 166 _ (ReflectliteType.abiMethod fun t => do pure (.int .u8 (← Rtype.kind t))) Tryz.func166 (by kernel_rfl) (by kernel_rfl) (by kernel_rfl) (by kernel_rfl)
  have x5 := @run_callFunc_extern Tryz.prog 177 _ (ReflectliteType.method ReflectliteType.elem) Tryz.func177 (by kernel_rfl) (by kernel_rfl) (by kernel_rfl) (by kernel_rfl)
  have x6 := @run_callFunc_extern Tryz.prog 178 _ (ReflectliteType.relation "Implements" ReflectliteType.implements_) Tryz.func178 (by kernel_rfl) (by kernel_rfl) (by kernel_rfl) (by kernel_rfl)
  have x7 := @run_callFunc_extern Tryz.prog 59 _ ReflectliteType.typeOf Tryz.func59 (by kernel_rfl) (by kernel_rfl) (by kernel_rfl) (by kernel_rfl)
  have x8 := @run_callFunc_extern Tryz.prog 175 _ (ReflectliteType.relation "AssignableTo" ReflectliteType.assignableTo) Tryz.func175 (by kernel_rfl) (by kernel_rfl) (by kernel_rfl) (by kernel_rfl)
  have x9 := @run_callFunc_extern Tryz.prog 60 _ (ReflectliteValue.method (ReflectliteValue.valueError "reflectlite.Value.Elem" 0) ReflectliteValue.elem) Tryz.func60 (by kernel_rfl) (by kernel_rfl) (by kernel_rfl) (by kernel_rfl)
  have x10 := @run_callFunc_extern Tryz.prog 61 _ ReflectliteValue.set Tryz.func61 (by kernel_rfl) (by kernel_rfl) (by kernel_rfl) (by kernel_rfl)
  have y1 := as_v1
  have y2 := as_v2
  have y3 := as_ty
  have y4 := as_mK
  have y5 := as_mE
  have y6 := as_mI
  have y7 := as_mA
  have y8 := as_kp
  have y9 := as_ks
  have y10 := as_el
  have y11 := as_im
  have y12 := as_to
  have y13 := as_at
  have hgl := blk_lt hg
  have hg0 : w.cell? ⟨0, 0, none⟩ = some (.iface 125 (.agg #[.pointer (some ⟨9, 52, none⟩)])) := hG.errors_errorType
  have hlt : 0 < w.heap.size := by omega
  have z1 := as_ni ⟨w.heap.size, 0, none⟩ ⟨g, 0, none⟩ ((w.alloc (.cells #[.pointer (some ⟨g, 0, none⟩)] 57)).alloc (.cells #[.pointer (some ⟨9, 57, none⟩), .pointer (some ⟨w.heap.size, 0, none⟩), .int .u64 150] 89)) (by simp)
  have z2 : ((w.alloc (.cells #[.pointer (some ⟨g, 0, none⟩)] 57)).alloc (.cells #[.pointer (some ⟨9, 57, none⟩), .pointer (some ⟨w.heap.size, 0, none⟩), .int .u64 150] 89)).cell? ⟨0, 0, none⟩ = some (.iface 125 (.agg #[.pointer (some ⟨9, 52, none⟩)])) := by
    rw [World.cell?_alloc_lt _ _ ⟨0, 0, none⟩ (by simp), World.cell?_alloc_lt _ _ ⟨0, 0, none⟩ hlt]
    exact hg0
  have z3 := as_ev ⟨w.heap.size, 0, none⟩ ⟨g, 0, none⟩ (((w.alloc (.cells #[.pointer (some ⟨g, 0, none⟩)] 57)).alloc (.cells #[.pointer (some ⟨9, 57, none⟩), .pointer (some ⟨w.heap.size, 0, none⟩), .int .u64 150] 89)).alloc (.cells #[.pointer (some ⟨9, 57, none⟩), .pointer (some ⟨w.heap.size, 0, none⟩), .int .u64 150] 89)) (by rw [World.cell?_alloc_lt _ _ ⟨w.heap.size, 0, none⟩ (by simp; omega)]; simp)
  have z4 := as_set g (w.heap.size + 1 + 1 + 1) c d ((((w.alloc (.cells #[.pointer (some ⟨g, 0, none⟩)] 57)).alloc (.cells #[.pointer (some ⟨9, 57, none⟩), .pointer (some ⟨w.heap.size, 0, none⟩), .int .u64 150] 89)).alloc (.cells #[.pointer (some ⟨9, 57, none⟩), .pointer (some ⟨w.heap.size, 0, none⟩), .int .u64 150] 89)).alloc (.cells #[.int .i64 c, .int .i64 d] 55)) (by have h := heap_alloc_new (((w.alloc (.cells #[.pointer (some ⟨g, 0, none⟩)] 57)).alloc (.cells #[.pointer (some ⟨9, 57, none⟩), .pointer (some ⟨w.heap.size, 0, none⟩), .int .u64 150] 89)).alloc (.cells #[.pointer (some ⟨9, 57, none⟩), .pointer (some ⟨w.heap.size, 0, none⟩), .int .u64 150] 89)) (.cells #[.int .i64 c, .int .i64 d] 55 (0, 0)); simpa using h) (blk_alloc (blk_alloc (blk_alloc (blk_alloc hg _) _) _) _)
  clear hG hg hg0
  go_enter Tryz.func20, Tryz.ntmps20
  go_wp2
  refine wp_loop_rounds 1 ?_
  rw [rounds_succ]
  go_wp2
  go_ret
  exact ⟨rfl, rfl⟩
end
def fields_Set.f (a0 : ByteArray) (a1 : Int) (a2 : ByteArray) : Option (ByteArray × Bool) := if a1 < 0 then (some ((⟨#[]⟩ : ByteArray), false)) else (if (a2.size : Int) > (a0.size : Int) then (some ((⟨#[]⟩ : ByteArray), false)) else (if a1 > (wrap64 ((a0.size : Int) - (a2.size : Int))) then (some ((⟨#[]⟩ : ByteArray), false)) else (if 0 ≤ a1 then (if a1 ≤ (a0.size : Int) then (if (a0.extract 0 (a1 : Int).toNat).size + a2.size ≤ 9223372036854775807 then (if 0 ≤ (wrap64 (a1 + (a2.size : Int))) then (if (wrap64 (a1 + (a2.size : Int))) ≤ (a0.size : Int) then (if ((a0.extract 0 (a1 : Int).toNat) ++ a2).size + (a0.extract ((wrap64 (a1 + (a2.size : Int))) : Int).toNat a0.size).size ≤ 9223372036854775807 then (some (((a0.extract 0 (a1 : Int).toNat) ++ a2) ++ (a0.extract ((wrap64 (a1 + (a2.size : Int))) : Int).toNat a0.size), true)) else (none)) else (none)) else (none)) else (none)) else (none)) else (none))))
set_option maxHeartbeats 8000000 in
set_option maxRecDepth 100000 in
theorem fields_Set.calls (a0 : ByteArray) (a1 : Int) (a2 : ByteArray) (r1 : ByteArray) (r2 : Bool) (w : World) (h : fields_Set.f a0 a1 a2 = some (r1, r2)) :
    Calls Tryz.prog 25 #[.string a0, .int .i64 a1, .string a2] w fun e w' => e = .returned (.tuple #[.string r1, .bool r2]) ∧ Drawn0 w w' := by
  have H : (if a1 < 0 then (some ((⟨#[]⟩ : ByteArray), false)) else (if (a2.size : Int) > (a0.size : Int) then (some ((⟨#[]⟩ : ByteArray), false)) else (if a1 > (wrap64 ((a0.size : Int) - (a2.size : Int))) then (some ((⟨#[]⟩ : ByteArray), false)) else (if 0 ≤ a1 then (if a1 ≤ (a0.size : Int) then (if (a0.extract 0 (a1 : Int).toNat).size + a2.size ≤ 9223372036854775807 then (if 0 ≤ (wrap64 (a1 + (a2.size : Int))) then (if (wrap64 (a1 + (a2.size : Int))) ≤ (a0.size : Int) then (if ((a0.extract 0 (a1 : Int).toNat) ++ a2).size + (a0.extract ((wrap64 (a1 + (a2.size : Int))) : Int).toNat a0.size).size ≤ 9223372036854775807 then (some (((a0.extract 0 (a1 : Int).toNat) ++ a2) ++ (a0.extract ((wrap64 (a1 + (a2.size : Int))) : Int).toNat a0.size), true)) else (none)) else (none)) else (none)) else (none)) else (none)) else (none))))) = some (r1, r2) := h
  clear h
  by_cases c4 : a1 < 0
  · rw [if_pos c4] at H
    have c4b0 : decide (a1 < 0) = true := decide_eq_true c4
    clear c4
    simp only [Option.some.injEq, Prod.mk.injEq] at H
    obtain ⟨rfl, rfl⟩ := H
    go_enter Tryz.func25, Tryz.ntmps25
    go_wp2
    repeat (go_quiet (fail); try go_wp2)
    go_ret2
    exact ⟨by first | rfl | (simp; done) | (simp [*]; done), by repeat (first | exact Drawn0.refl _ | apply Drawn0.step)⟩
  · rw [if_neg c4] at H
    have c4b0 : decide (a1 < 0) = false := decide_eq_false c4
    clear c4
    by_cases c5 : (a2.size : Int) > (a0.size : Int)
    · rw [if_pos c5] at H
      have c5b0 : decide ((a0.size : Int) < (a2.size : Int)) = true := decide_eq_true c5
      have c5b1 : decide (a0.size < a2.size) = true := decide_eq_true (Int.ofNat_lt.mp c5)
      clear c5
      simp only [Option.some.injEq, Prod.mk.injEq] at H
      obtain ⟨rfl, rfl⟩ := H
      go_enter Tryz.func25, Tryz.ntmps25
      go_wp2
      repeat (go_quiet (fail); try go_wp2)
      go_ret2
      exact ⟨by first | rfl | (simp; done) | (simp [*]; done), by repeat (first | exact Drawn0.refl _ | apply Drawn0.step)⟩
    · rw [if_neg c5] at H
      have c5b0 : decide ((a0.size : Int) < (a2.size : Int)) = false := decide_eq_false c5
      have c5b1 : decide (a0.size < a2.size) = false := decide_eq_false (fun h => c5 (Int.ofNat_lt.mpr h))
      clear c5
      by_cases c6 : a1 > (wrap64 ((a0.size : Int) - (a2.size : Int)))
      · rw [if_pos c6] at H
        have c6b0 : decide ((wrap64 ((a0.size : Int) - (a2.size : Int))) < a1) = true := decide_eq_true c6
        clear c6
        simp only [Option.some.injEq, Prod.mk.injEq] at H
        obtain ⟨rfl, rfl⟩ := H
        go_enter Tryz.func25, Tryz.ntmps25
        go_wp2
        repeat (go_quiet (fail); try go_wp2)
        go_ret2
        exact ⟨by first | rfl | (simp; done) | (simp [*]; done), by repeat (first | exact Drawn0.refl _ | apply Drawn0.step)⟩
      · rw [if_neg c6] at H
        have c6b0 : decide ((wrap64 ((a0.size : Int) - (a2.size : Int))) < a1) = false := decide_eq_false c6
        clear c6
        by_cases c7 : 0 ≤ a1
        · rw [if_pos c7] at H
          have c7b0 := eq_true c7
          have c7b1 : decide (0 ≤ a1) = true := decide_eq_true c7
          clear c7
          by_cases c8 : a1 ≤ (a0.size : Int)
          · rw [if_pos c8] at H
            have c8b0 := eq_true c8
            have c8b1 : decide (a1 ≤ (a0.size : Int)) = true := decide_eq_true c8
            clear c8
            by_cases c9 : (a0.extract 0 (a1 : Int).toNat).size + a2.size ≤ 9223372036854775807
            · rw [if_pos c9] at H
              have c9b0 := eq_true c9
              have c9b1 : decide ((a0.extract 0 (a1 : Int).toNat).size + a2.size ≤ 9223372036854775807) = true := decide_eq_true c9
              try have c9b2 : (9223372036854775807 < (a0.extract 0 (a1 : Int).toNat).size + a2.size) = False := eq_false (Nat.not_lt.2 c9)
              (try have c9b4 : (9223372036854775807 < a1.toNat + a2.size) = False := eq_false (by have h_ := c9; simp only [ByteArray.size_append, ByteArray.size_extract] at h_; have e0_ : a1 ≤ (a0.size : Int) := of_decide_eq_true (by first | (with_reducible assumption) | assumption); omega))
              obtain ⟨ji10, hji10⟩ : ∃ j_ : Int, (wrap64 (a1 + (a2.size : Int))) = j_ := ⟨_, rfl⟩
              replace H : (if 0 ≤ (ji10) then (if (ji10) ≤ (a0.size : Int) then (if ((a0.extract 0 (a1 : Int).toNat) ++ a2).size + (a0.extract ((ji10) : Int).toNat a0.size).size ≤ 9223372036854775807 then (some (((a0.extract 0 (a1 : Int).toNat) ++ a2) ++ (a0.extract ((ji10) : Int).toNat a0.size), true)) else (none)) else (none)) else (none)) = some (r1, r2) := by first | (rw [hji10] at H; exact H) | (simp only [hji10] at H ⊢; exact H)
              have hji10w : (IntKind.i64.wrap (a1 + (a2.size : Int))) = ji10 := (i64_w _).trans hji10
              by_cases c11 : 0 ≤ (ji10)
              · rw [if_pos c11] at H
                have c11b0 := eq_true c11
                have c11b1 : decide (0 ≤ (ji10)) = true := decide_eq_true c11
                clear c11
                by_cases c12 : (ji10) ≤ (a0.size : Int)
                · rw [if_pos c12] at H
                  have c12b0 := eq_true c12
                  have c12b1 : decide ((ji10) ≤ (a0.size : Int)) = true := decide_eq_true c12
                  clear c12
                  by_cases c13 : ((a0.extract 0 (a1 : Int).toNat) ++ a2).size + (a0.extract ((ji10) : Int).toNat a0.size).size ≤ 9223372036854775807
                  · rw [if_pos c13] at H
                    have c13b0 := eq_true c13
                    have c13b1 : decide (((a0.extract 0 (a1 : Int).toNat) ++ a2).size + (a0.extract ((ji10) : Int).toNat a0.size).size ≤ 9223372036854775807) = true := decide_eq_true c13
                    try have c13b2 : (9223372036854775807 < ((a0.extract 0 (a1 : Int).toNat) ++ a2).size + (a0.extract ((ji10) : Int).toNat a0.size).size) = False := eq_false (Nat.not_lt.2 c13)
                    (try have c13b4 : (9223372036854775807 < a1.toNat + a2.size + (a0.size - ji10.toNat)) = False := eq_false (by have h_ := c13; simp only [ByteArray.size_append, ByteArray.size_extract] at h_; have e0_ : a1 ≤ (a0.size : Int) := of_decide_eq_true (by first | (with_reducible assumption) | assumption); omega))
                    simp only [Option.some.injEq, Prod.mk.injEq] at H
                    obtain ⟨rfl, rfl⟩ := H
                    go_enter Tryz.func25, Tryz.ntmps25
                    go_wp2
                    repeat (go_quiet (fail); try go_wp2)
                    go_ret2
                    exact ⟨by first | rfl | (simp; done) | (simp only [← hji10] <;> (first | rfl | simp)) | (simp [*]; done), by repeat (first | exact Drawn0.refl _ | apply Drawn0.step)⟩
                  · rw [if_neg c13] at H
                    exact absurd H (by simp)
                · rw [if_neg c12] at H
                  exact absurd H (by simp)
              · rw [if_neg c11] at H
                exact absurd H (by simp)
            · rw [if_neg c9] at H
              exact absurd H (by simp)
          · rw [if_neg c8] at H
            exact absurd H (by simp)
        · rw [if_neg c7] at H
          exact absurd H (by simp)
def fields_shifts.l0 : Nat → Int → Bool → List Int → Int → Int → Option (List Int)
  | 0, _, _, _, _, _ => none
  | k + 1, x0, x1, x5, x7, x8 => if x8 < x7 then (if x1 = true then (if x5.length < 17592186044416 then (fields_shifts.l0 k x0 x1 (x5 ++ [wrap64 (8 * (wrap64 ((wrap64 (x0 - 1)) - x8)))]) x7 (wrap64 (x8 + 1))) else (none)) else (if x5.length < 17592186044416 then (fields_shifts.l0 k x0 x1 (x5 ++ [wrap64 (8 * x8)]) x7 (wrap64 (x8 + 1))) else (none))) else (some x5)
def fields_shifts.f (k : Nat) (a0 : Int) (a1 : Bool) : Option (List Int) := fields_shifts.l0 k a0 a1 ([] : List Int) a0 0
theorem fields_shifts.mono_l : ∀ k, (∀ y0 y1 y2 y3 y4, LeO (fields_shifts.l0 k y0 y1 y2 y3 y4) (fields_shifts.l0 (k + 1) y0 y1 y2 y3 y4))
  | 0 => fun _ _ _ _ _ r h => by simp [fields_shifts.l0] at h
  | k + 1 => by
    have ih0 := fields_shifts.mono_l k
    · intro y0 y1 y2 y3 y4
      unfold fields_shifts.l0
      repeat' first
      | (with_reducible exact ih0 _ _ _ _ _)
      | (with_reducible exact LeO.refl _)
      | (with_reducible exact LeO.none _)
      | (with_reducible refine LeO.ite ?_ ?_)
      | (with_reducible refine LeO.bind ?_ (fun _ => ?_))
      | exact ih0 _ _ _ _ _
      | exact LeO.none _
      | refine LeO.ite ?_ ?_
      | refine LeO.bind ?_ (fun _ => ?_)
theorem fields_shifts.mono : ∀ a0 a1 k, LeO (fields_shifts.f k a0 a1) (fields_shifts.f (k + 1) a0 a1) := by
  intro a0 a1 k
  have ih0 := fields_shifts.mono_l k
  unfold fields_shifts.f
  repeat' first
      | (with_reducible exact ih0 _ _ _ _ _)
      | (with_reducible exact LeO.refl _)
      | (with_reducible exact LeO.none _)
      | (with_reducible refine LeO.ite ?_ ?_)
      | (with_reducible refine LeO.bind ?_ (fun _ => ?_))
      | exact ih0 _ _ _ _ _
      | exact LeO.none _
      | refine LeO.ite ?_ ?_
      | refine LeO.bind ?_ (fun _ => ?_)
set_option maxHeartbeats 8000000 in
set_option maxRecDepth 100000 in
theorem fields_shifts.calls (k : Nat) (a0 : Int) (a1 : Bool) (r : List Int) (w : World) (h : fields_shifts.f k a0 a1 = some r) :
    Calls Tryz.prog 101 #[.int .i64 a0, .bool a1] w fun e w' => ∃ v0_ : Value, e = .returned (v0_) ∧ Kd.R (Kd.int .i64) 3 w' w.heap.size (fun _ => True) v0_ r ∧ Below w.heap.size w w' := by
  have HB := Aside0.mk (Below.refl w.heap.size w)
  have H : (fields_shifts.l0 k a0 a1 ([] : List Int) a0 0) = some r := h
  clear h
  have H' := Aside0.mk H
  clear H
  go_enter Tryz.func101, Tryz.ntmps101
  go_wp2
  go_loopg [5, 8] k (fun kq v5 v8 w' => ∃ (x5_1 : List Int) (x8_1 : Int), v8 = .int .i64 x8_1 ∧ Aside0 (fields_shifts.l0 kq a0 a1 x5_1 a0 x8_1 = some r) ∧ Aside0 (kq ≤ k) ∧ Aside0 (Kd.R (Kd.int .i64) 3 w' w.heap.size (fun _ => True) v5 x5_1) ∧ Aside0 (Below w.heap.size w w'))
  case atStart => exact ⟨(([] : List Int)), (0), (by first | rfl | (simp; done) | (simp [*]; done)), H', ⟨Nat.le_refl _⟩, ⟨by first | exact Kd.R_nil _ _ _ _ _ | exact Kd.N_nil _ _ _ _ _ | exact Kd.V_nil _ _ _ _ _ | exact Kd.Q_nil _ _ _ _ _ | exact Kd.S_nil _ _ _ _ _⟩, ⟨by repeat (first | (with_reducible first | exact HB.out | apply below_alloc | apply pw_below_drewN | apply below_drew1) | exact HB.out)⟩⟩
  case round =>
    clear H'
    try clear c1
    try clear p2
    obtain ⟨x5_1, x8_1, rfl, HA, HK1, HO_5, HB⟩ := hrel
    cases gk with
    | zero => exact absurd HA.out (by simp [fields_shifts.l0])
    | succ k1 =>
      have H := HA.out
      clear HA
      simp only [fields_shifts.l0] at H
      by_cases c3 : x8_1 < a0
      · rw [if_pos c3] at H
        have c3b0 : decide (x8_1 < a0) = true := decide_eq_true c3
        clear c3
        by_cases c4 : a1 = true
        · subst c4
          have H1 : (if x5_1.length < 17592186044416 then (fields_shifts.l0 k1 a0 true (x5_1 ++ [wrap64 (8 * (wrap64 ((wrap64 (a0 - 1)) - x8_1)))]) a0 (wrap64 (x8_1 + 1))) else (none)) = some r := by rw [if_pos rfl] at H; exact H
          clear H
          have H := H1
          clear H1
          by_cases c5 : x5_1.length < 17592186044416
          · rw [if_pos c5] at H
            have LMc5 := Aside0.mk c5
            clear c5
            obtain ⟨y113, hy113⟩ : ∃ y_ : List Int, y_ = (x5_1 ++ [wrap64 (8 * (wrap64 ((wrap64 (a0 - 1)) - x8_1)))]) := ⟨_, rfl⟩
            replace H : (fields_shifts.l0 k1 a0 true y113 a0 (wrap64 (x8_1 + 1))) = some r := by first | (rw [hy113]; with_reducible exact H) | (have H2_ := (Option.bind_some _ _).symm.trans H; rw [hy113]; with_reducible exact H2_) | (have H2_ := (Option.bind_some _ _).symm.trans H; with_reducible exact H2_) | with_reducible exact H | (rw [hy113]; exact H) | exact H
            have Ny113 := Aside0.mk hy113
            clear hy113
            have H' := Aside0.mk H
            clear H
            go_wp2_with (first | ((with_reducible refine gate_builtin (b := .append) (xs := #[.tmp 12, .tmp 18]) rfl ?_); at_builtin; refine Kd.R_append (Kd.int .i64) (w0 := w) w.heap.size rfl (.tmp 12) (.tmp 18) 173 3 (.int .i64 0) 8 rfl Tryz.underlying173 info3 rfl (by decide) (by omega) u5 x5_1 (wrap64 (8 * (wrap64 ((wrap64 (a0 - 1)) - x8_1)))) [.int .i64 (wrap64 (8 * (wrap64 ((wrap64 (a0 - 1)) - x8_1))))] (fun _ => True) (fun _ => False) rfl rfl ?aP (fun _ hk => hk.elim) ?aF ?aO ?aB ?aS ?aL ?_; (case aP => exact rfl); (case aB => exact (by repeat (first | (with_reducible first | exact HB.out | apply below_alloc | apply pw_below_drewN | apply below_drew1) | exact HB.out))); (case aF => exact (fun _ _ => trivial)); (case aO => exact (by (with_reducible repeat (first | apply Kd.R_alloc | apply Kd.R_drewN | apply Kd.R_drew)); exact HO_5.out)); (case aS => exact (below_size (by repeat (first | (with_reducible first | exact HB.out | apply below_alloc | apply pw_below_drewN | apply below_drew1) | exact HB.out)))); (case aL => have := LMc5.out; omega); intro v114 w6 ho hb hg hat; rw [← Ny113.out] at ho; have n0_ := Aside0.mk (hb); have n1_ := Aside0.mk (ho); clear HB; clear HO_5; have HB := n0_; have HO115 := n1_; clear n0_ n1_; clear ho hb hg hat))
            go_roundg k1
            case measure => have := HK1.out; omega
            case rel => exact ⟨(y113), (wrap64 (x8_1 + 1)), (by first | rfl | (simp; done) | (simp [*]; done)), H', ⟨by have := HK1.out; omega⟩, ⟨by (with_reducible repeat (first | apply Kd.R_alloc | apply Kd.R_drewN | apply Kd.R_drew)); exact HO115.out⟩, ⟨by repeat (first | (with_reducible first | exact HB.out | apply below_alloc | apply pw_below_drewN | apply below_drew1) | exact HB.out)⟩⟩
          · rw [if_neg c5] at H
            exact absurd H (by simp)
        · replace c4 := Bool.eq_false_iff.mpr c4
          subst c4
          have H1 : (if x5_1.length < 17592186044416 then (fields_shifts.l0 k1 a0 false (x5_1 ++ [wrap64 (8 * x8_1)]) a0 (wrap64 (x8_1 + 1))) else (none)) = some r := by rw [if_neg (show ¬ (false = true) by decide)] at H; exact H
          clear H
          have H := H1
          clear H1
          by_cases c7 : x5_1.length < 17592186044416
          · rw [if_pos c7] at H
            have LMc7 := Aside0.mk c7
            clear c7
            obtain ⟨y116, hy116⟩ : ∃ y_ : List Int, y_ = (x5_1 ++ [wrap64 (8 * x8_1)]) := ⟨_, rfl⟩
            replace H : (fields_shifts.l0 k1 a0 false y116 a0 (wrap64 (x8_1 + 1))) = some r := by first | (rw [hy116]; with_reducible exact H) | (have H2_ := (Option.bind_some _ _).symm.trans H; rw [hy116]; with_reducible exact H2_) | (have H2_ := (Option.bind_some _ _).symm.trans H; with_reducible exact H2_) | with_reducible exact H | (rw [hy116]; exact H) | exact H
            have Ny116 := Aside0.mk hy116
            clear hy116
            have H' := Aside0.mk H
            clear H
            go_wp2_with (first | ((with_reducible refine gate_builtin (b := .append) (xs := #[.tmp 20, .tmp 23]) rfl ?_); at_builtin; refine Kd.R_append (Kd.int .i64) (w0 := w) w.heap.size rfl (.tmp 20) (.tmp 23) 173 3 (.int .i64 0) 8 rfl Tryz.underlying173 info3 rfl (by decide) (by omega) u5 x5_1 (wrap64 (8 * x8_1)) [.int .i64 (wrap64 (8 * x8_1))] (fun _ => True) (fun _ => False) rfl rfl ?aP (fun _ hk => hk.elim) ?aF ?aO ?aB ?aS ?aL ?_; (case aP => exact rfl); (case aB => exact (by repeat (first | (with_reducible first | exact HB.out | apply below_alloc | apply pw_below_drewN | apply below_drew1) | exact HB.out))); (case aF => exact (fun _ _ => trivial)); (case aO => exact (by (with_reducible repeat (first | apply Kd.R_alloc | apply Kd.R_drewN | apply Kd.R_drew)); exact HO_5.out)); (case aS => exact (below_size (by repeat (first | (with_reducible first | exact HB.out | apply below_alloc | apply pw_below_drewN | apply below_drew1) | exact HB.out)))); (case aL => have := LMc7.out; omega); intro v117 w8 ho hb hg hat; rw [← Ny116.out] at ho; have n0_ := Aside0.mk (hb); have n1_ := Aside0.mk (ho); clear HB; clear HO_5; have HB := n0_; have HO118 := n1_; clear n0_ n1_; clear ho hb hg hat))
            go_roundg k1
            case measure => have := HK1.out; omega
            case rel => exact ⟨(y116), (wrap64 (x8_1 + 1)), (by first | rfl | (simp; done) | (simp [*]; done)), H', ⟨by have := HK1.out; omega⟩, ⟨by (with_reducible repeat (first | apply Kd.R_alloc | apply Kd.R_drewN | apply Kd.R_drew)); exact HO118.out⟩, ⟨by repeat (first | (with_reducible first | exact HB.out | apply below_alloc | apply pw_below_drewN | apply below_drew1) | exact HB.out)⟩⟩
          · rw [if_neg c7] at H
            exact absurd H (by simp)
      · rw [if_neg c3] at H
        have c3b0 : decide (x8_1 < a0) = false := decide_eq_false c3
        clear c3
        obtain rfl := Option.some.inj H
        go_wp2
        go_ret
        exact ⟨_, by first | rfl | (simp [errW_none, errW_some] <;> rfl) | (simp [*, errW_none, errW_some] <;> rfl) | (simp [bt, *]; done) | (unfold bt; simp [*]; done), by (with_reducible repeat (first | apply Kd.R_alloc | apply Kd.R_drewN | apply Kd.R_drew)); exact HO_5.out, by repeat (first | (with_reducible first | exact HB.out | apply below_alloc | apply pw_below_drewN | apply below_drew1) | exact HB.out)⟩
mutual
def fields_put_uint64.j0 : Nat → Int → Int → Bool → Bool → Option (ByteArray)
 | 0, _, _, _, _ => none
 | k + 1, x0, x1, x2, x15 => if x15 = true then (some (⟨#[]⟩ : ByteArray)) else ((fields_shifts.f k x1 x2).bind fun t130 => (fields_put_uint64.l0 k x0 ([] : List Int) t130 (t130.length : Int) 0))
def fields_put_uint64.l0 : Nat → Int → List Int → List Int → Int → Int → Option (ByteArray)
 | 0, _, _, _, _, _ => none
 | k + 1, x0, x7, x18, x19, x20 => if x20 < x19 then (if 0 ≤ x20 then (if x20 < (x18.length : Int) then (if 0 ≤ (rd x18 x20) then (if x7.length < 140737488355328 then (fields_put_uint64.l0 k x0 (x7 ++ [(shr .u64 x0 (rd x18 x20)) % 256]) x18 x19 (wrap64 (x20 + 1))) else (none)) else (none)) else (none)) else (none)) else (some (strOfNums x7))
end
def fields_put_uint64.f (k : Nat) (a0 : Int) (a1 : Int) (a2 : Bool) : Option (ByteArray) := if a1 < 1 then (fields_put_uint64.j0 k a0 a1 a2 true) else (fields_put_uint64.j0 k a0 a1 a2 (decide (a1 > 8)))
theorem fields_put_uint64.mono_l : ∀ k, (∀ y0 y1 y2 y3, LeO (fields_put_uint64.j0 k y0 y1 y2 y3) (fields_put_uint64.j0 (k + 1) y0 y1 y2 y3)) ∧ (∀ y0 y1 y2 y3 y4, LeO (fields_put_uint64.l0 k y0 y1 y2 y3 y4) (fields_put_uint64.l0 (k + 1) y0 y1 y2 y3 y4))
 | 0 => ⟨fun _ _ _ _ r h => by simp [fields_put_uint64.j0] at h, fun _ _ _ _ _ r h => by simp [fields_put_uint64.l0] at h⟩
 | k + 1 => by
  obtain ⟨ih0, ih1⟩ := fields_put_uint64.mono_l k
  refine ⟨?_, ?_⟩
  ·intro y0 y1 y2 y3
   unfold fields_put_uint64.j0
   repeat' first
   | (with_reducible exact ih0 _ _ _ _)
   | (with_reducible exact ih1 _ _ _ _ _)
   | (with_reducible exact fields_shifts.mono _ _ _)
   | (with_reducible exact LeO.refl _)
   | (with_reducible exact LeO.none _)
   | (with_reducible refine LeO.ite ?_ ?_)
   | (with_reducible refine LeO.bind ?_ (fun _ => ?_))
   | exact ih0 _ _ _ _
   | exact ih1 _ _ _ _ _
   | exact fields_shifts.mono _ _ _
   | exact LeO.none _
   | refine LeO.ite ?_ ?_
   | refine LeO.bind ?_ (fun _ => ?_)
  ·intro y0 y1 y2 y3 y4
   unfold fields_put_uint64.l0
   repeat' first
   | (with_reducible exact ih0 _ _ _ _)
   | (with_reducible exact ih1 _ _ _ _ _)
   | (with_reducible exact fields_shifts.mono _ _ _)
   | (with_reducible exact LeO.refl _)
   | (with_reducible exact LeO.none _)
   | (with_reducible refine LeO.ite ?_ ?_)
   | (with_reducible refine LeO.bind ?_ (fun _ => ?_))
   | exact ih0 _ _ _ _
   | exact ih1 _ _ _ _ _
   | exact fields_shifts.mono _ _ _
   | exact LeO.none _
   | refine LeO.ite ?_ ?_
   | refine LeO.bind ?_ (fun _ => ?_)
theorem fields_put_uint64.mono : ∀ a0 a1 a2 k, LeO (fields_put_uint64.f k a0 a1 a2) (fields_put_uint64.f (k + 1) a0 a1 a2) := by
 intro a0 a1 a2 k
 obtain ⟨ih0, ih1⟩ := fields_put_uint64.mono_l k
 unfold fields_put_uint64.f
 repeat' first
   | (with_reducible exact ih0 _ _ _ _)
   | (with_reducible exact ih1 _ _ _ _ _)
   | (with_reducible exact fields_shifts.mono _ _ _)
   | (with_reducible exact LeO.refl _)
   | (with_reducible exact LeO.none _)
   | (with_reducible refine LeO.ite ?_ ?_)
   | (with_reducible refine LeO.bind ?_ (fun _ => ?_))
   | exact ih0 _ _ _ _
   | exact ih1 _ _ _ _ _
   | exact fields_shifts.mono _ _ _
   | exact LeO.none _
   | refine LeO.ite ?_ ?_
   | refine LeO.bind ?_ (fun _ => ?_)
set_option maxHeartbeats 8000000 in
set_option maxRecDepth 100000 in
theorem fields_put_uint64.calls (k : Nat) (a0 : Int) (a1 : Int) (a2 : Bool) (r : ByteArray) (w : World) (h : fields_put_uint64.f k a0 a1 a2 = some r) :
  Calls Tryz.prog 77 #[.int .u64 a0, .int .i64 a1, .bool a2] w fun e w' => e = .returned (.string r) ∧ Below w.heap.size w w' := by
 have HB := Aside0.mk (Below.refl w.heap.size w)
 have H : (if a1 < 1 then (fields_put_uint64.j0 k a0 a1 a2 true) else (fields_put_uint64.j0 k a0 a1 a2 (decide (a1 > 8)))) = some r := h
 clear h
 have HC4 := Aside0.mk H
 clear H
 go_enter Tryz.func77, Tryz.ntmps77
 go_upto_region 1 with (fail)
 go_cut [15] (fun v15 wc => ∃ (kq : Nat) (x15_3 : Bool), v15 = .bool x15_3 ∧ Aside0 (fields_put_uint64.j0 kq a0 a1 a2 x15_3 = some r) ∧ Aside0 (kq ≤ k) ∧ Aside0 (Below w.heap.size w wc))
 case first =>
  have H := HC4.out
  clear HC4
  by_cases c5 : a1 < 1
  ·rw [if_pos c5] at H
   have c5b0 : decide (a1 < 1) = true := decide_eq_true c5
   clear c5
   (first | rw [c5b0] | (simp only [i64_w, i32_w]; rw [c5b0]) | skip)
   have H' := Aside0.mk H
   clear H
   go_wp2
   go_meet
   case rel => exact ⟨_, (true), (by first | rfl | (simp; done) | (simp [*]; done)), H', ⟨by first | omega | exact Nat.le_refl _⟩, ⟨hb_ HB⟩⟩
  rw [if_neg c5] at H
  have c5b0 : decide (a1 < 1) = false := decide_eq_false c5
  clear c5
  (first | rw [c5b0] | (simp only [i64_w, i32_w]; rw [c5b0]) | skip)
  have H' := Aside0.mk H
  clear H
  go_wp2
  go_meet
  case rel => exact ⟨_, (decide (a1 > 8)), (by first | rfl | (simp; done) | (simp [*]; done)), H', ⟨by first | omega | exact Nat.le_refl _⟩, ⟨hb_ HB⟩⟩
 case rest =>
  clear HC4
  try clear p2
  try clear c5
  try clear c5b0
  obtain ⟨kq, x15_3, rfl, HA, HJ3, HB⟩ := hcut
  cases kq with
  | zero => exact absurd HA.out (by simp [fields_put_uint64.j0])
  | succ kj3 =>
   have H := HA.out
   clear HA
   simp only [fields_put_uint64.j0] at H
   by_cases c6 : x15_3 = true
   ·subst c6
    have H1 := H
    rw [if_pos rfl] at H1
    clear H
    have H := H1
    clear H1
    obtain rfl := Option.some.inj H
    go_wp2
    go_ret
    exact ⟨by first | rfl | (simp [errW_none, errW_some] <;> rfl) | (simp [*, errW_none, errW_some] <;> rfl) | (simp [bt, *]; done) | (unfold bt; simp [*]; done), by repeat (first | (with_reducible first | exact HB.out | apply below_alloc | apply pw_below_drewN | apply below_drew1) | exact HB.out)⟩
   replace c6 := Bool.eq_false_iff.mpr c6
   subst c6
   have H1 := H
   rw [if_neg (show ¬ (false = true) by decide)] at H1
   clear H
   have H := H1
   clear H1
   replace H := Option.bind_eq_some_iff.mp H
   obtain ⟨t130, A70, H⟩ := H
   try dsimp only at H
   have A7 := Aside0.mk A70
   clear A70
   have H' := Aside0.mk H
   clear H
   go_wp2_with (first | ((with_reducible refine gate_callee (f := 101) rfl ?_); refine goesL_ (some 18) rfl rfl Tryz.func101 (by kernel_rfl) rfl #[.int .i64 a1, .bool a2] rfl (by (try simp only [List.map_toArray, List.map_cons, List.map_nil]); first | done | rfl | (simp only [List.length_drop, List.length_take]; rfl)) ?_; (with_reducible refine (fields_shifts.calls kj3 a1 a2 t130 _ A7.out).mono ?_); rintro e w8 ⟨v131, rfl, ho0, hb⟩; refine ⟨_, rfl, ?_⟩; have n0_ := Aside0.mk (Kd.R_lower ho0 (below_size (hb_ HB))); have n1_ := Aside0.mk (below_step (hb_ HB) hb); clear HB; have HO132 := n0_; have HB := n1_; clear n0_ n1_; (try clear hb); (try clear hb2); (try clear hk); (try clear hi); (try clear ho0); obtain ⟨Ao9, co9, eo9⟩ := Kd.R_slice HO132.out; subst eo9))
   go_loopg [7, 20] kj3 (fun kq v7 v20 w' => ∃ (x7_2 : List Int) (x20_2 : Int), v20 = .int .i64 x20_2 ∧ Aside0 (fields_put_uint64.l0 kq a0 x7_2 t130 (t130.length : Int) x20_2 = some r) ∧ Aside0 (kq ≤ kj3) ∧ Aside0 (Kd.R (Kd.int .u8) 5 w' w.heap.size (fun _ => True) v7 x7_2) ∧ Aside0 (Kd.R (Kd.int .i64) 3 w' w.heap.size (fun _ => True) (.slice Ao9 t130.length co9) t130) ∧ Aside0 (Below w.heap.size w w'))
   case atStart => exact ⟨(([] : List Int)), (0), (by first | rfl | (simp; done) | (simp [*]; done)), H', ⟨Nat.le_refl _⟩, ⟨by first | exact Kd.R_nil _ _ _ _ _ | exact Kd.N_nil _ _ _ _ _ | exact Kd.V_nil _ _ _ _ _ | exact Kd.Q_nil _ _ _ _ _ | exact Kd.S_nil _ _ _ _ _⟩, ⟨by (with_reducible repeat (first | apply Kd.R_alloc | apply Kd.R_drewN | apply Kd.R_drew)); exact HO132.out⟩, ⟨hb_ HB⟩⟩
   case round =>
    clear H'
    try clear c1
    try clear p2
    try clear c5
    try clear c5b0
    try clear c6
    try clear c7
    try clear p2
    obtain ⟨x7_2, x20_2, rfl, HA, HK2, HO_7, HO_18, HB⟩ := hrel
    cases gk with
    | zero => exact absurd HA.out (by simp [fields_put_uint64.l0])
    | succ k2 =>
     have H := HA.out
     clear HA
     simp only [fields_put_uint64.l0] at H
     refine neg_first (p := (x20_2 < (t130.length : Int))) (fun c10 => ?_) (fun c10 => ?_)
     ·rw [if_neg c10] at H
      have c10b0 : decide (x20_2 < (t130.length : Int)) = false := decide_eq_false c10
      clear c10
      obtain rfl := Option.some.inj H
      have hcv17 := own_string (P := Tryz.prog) Tryz.underlying78 Tryz.underlying5 Tryz.underlying9 (Kd.own_of_R HO_7.out)
      go_wp2
      go_ret
      exact ⟨by first | rfl | (simp [errW_none, errW_some] <;> rfl) | (simp [*, errW_none, errW_some] <;> rfl) | (simp [bt, *]; done) | (unfold bt; simp [*]; done), by repeat (first | (with_reducible first | exact HB.out | apply below_alloc | apply pw_below_drewN | apply below_drew1) | exact HB.out)⟩
     rw [if_pos c10] at H
     have c10b0 : decide (x20_2 < (t130.length : Int)) = true := decide_eq_true c10
     clear c10
     refine neg_first (p := (0 ≤ x20_2)) (fun c11 => ?_) (fun c11 => ?_)
     ·rw [if_neg c11] at H
      exact absurd H (by simp)
     rw [if_pos c11] at H
     have c11b0 : decide (0 ≤ x20_2) = true := decide_eq_true c11
     clear c11
     refine neg_first (p := (x20_2 < (t130.length : Int))) (fun c12 => ?_) (fun c12 => ?_)
     ·rw [if_neg c12] at H
      exact absurd H (by simp)
     rw [if_pos c12] at H
     have c12b0 : decide (x20_2 < (t130.length : Int)) = true := decide_eq_true c12
     clear c12
     refine neg_first (p := (0 ≤ (rd t130 x20_2))) (fun c13 => ?_) (fun c13 => ?_)
     ·rw [if_neg c13] at H
      exact absurd H (by simp)
     rw [if_pos c13] at H
     have c13b0 := eq_true c13
     have c13b1 : decide (0 ≤ (rd t130 x20_2)) = true := decide_eq_true c13
     clear c13
     obtain ⟨ji14, hji14⟩ : ∃ j_ : Int, (shr .u64 a0 (rd t130 x20_2)) = j_ := ⟨_, rfl⟩
     replace H : (if x7_2.length < 140737488355328 then (fields_put_uint64.l0 k2 a0 (x7_2 ++ [(ji14) % 256]) t130 (t130.length : Int) (wrap64 (x20_2 + 1))) else (none)) = some r := by first | (rw [hji14] at H; exact H) | (simp only [hji14] at H ⊢; exact H)
     have hji14_ : (a0 / 2 ^ min (rd t130 x20_2).toNat 64) = ji14 := hji14
     have hji14z : (rd t130 x20_2) ≤ 64 → (a0 / 2 ^ (rd t130 x20_2).toNat) = ji14 := shr_small hji14
     refine neg_first (p := (x7_2.length < 140737488355328)) (fun c15 => ?_) (fun c15 => ?_)
     ·rw [if_neg c15] at H
      exact absurd H (by simp)
     rw [if_pos c15] at H
     have LMc15 := Aside0.mk c15
     clear c15
     obtain ⟨y134, hy134⟩ : ∃ y_ : List Int, y_ = (x7_2 ++ [(ji14) % 256]) := ⟨_, rfl⟩
     replace H : (fields_put_uint64.l0 k2 a0 y134 t130 (t130.length : Int) (wrap64 (x20_2 + 1))) = some r := by first | (rw [hy134]; with_reducible exact H) | (have H2_ := (Option.bind_some _ _).symm.trans H; rw [hy134]; with_reducible exact H2_) | (have H2_ := (Option.bind_some _ _).symm.trans H; with_reducible exact H2_) | with_reducible exact H | (rw [hy134]; exact H) | exact H
     have Ny134 := Aside0.mk hy134
     clear hy134
     have H' := Aside0.mk H
     clear H
     have p133 : 0 ≤ (x20_2 : Int) := of_decide_eq_true (by first | (with_reducible assumption) | assumption)
     have q133 : x20_2 < (t130.length : Int) := of_decide_eq_true (by first | (with_reducible assumption) | assumption)
     obtain ⟨ad133, e133, hx133_0⟩ := Kd.at_int (Kd.R_reads' HO_18.out).2.2 x20_2 p133 q133
     cases e133
     replace p133 := eq_true p133
     replace q133 := eq_true q133
     go_wp2_with (first | ((with_reducible refine gate_builtin (b := .append) (xs := #[.tmp 24, .tmp 29]) rfl ?_); at_builtin; refine Kd.R_append (Kd.int .u8) (w0 := w) w.heap.size rfl (.tmp 24) (.tmp 29) 78 5 (.int .u8 0) 1 rfl Tryz.underlying78 info5 rfl (by decide) (by omega) u7 x7_2 ((ji14) % 256) [.int .u8 ((ji14) % 256)] (fun _ => True) (fun _ => False) rfl rfl ?aP (fun _ hk => hk.elim) ?aF ?aO ?aB ?aS ?aL ?_; (case aP => exact rfl); (case aB => exact (hb_ HB)); (case aF => exact (fun _ _ => trivial)); (case aO => exact (by (with_reducible repeat (first | apply Kd.R_alloc | apply Kd.R_drewN | apply Kd.R_drew)); exact HO_7.out)); (case aS => exact (below_size (hb_ HB))); (case aL => have := LMc15.out; omega); intro v135 w16 ho hb hg hat; rw [← Ny134.out] at ho; have n0_ := Aside0.mk (Kd.R_over' (by (with_reducible repeat (first | apply Kd.R_alloc | apply Kd.R_drewN | apply Kd.R_drew)); exact HO_18.out) (Kd.R_typed (by (with_reducible repeat (first | apply Kd.R_alloc | apply Kd.R_drewN | apply Kd.R_drew)); exact HO_7.out)) (by decide) hg); have n1_ := Aside0.mk (hb); have n2_ := Aside0.mk (ho); clear HO_18; clear HB; clear HO_7; have HO_18 := n0_; have HB := n1_; have HO136 := n2_; clear n0_ n1_ n2_; clear ho hb hg hat))
     go_roundg k2
     case measure => have := HJ3.out; have := HK2.out; omega
     case rel => exact ⟨(y134), (wrap64 (x20_2 + 1)), (by first | rfl | (simp; done) | (simp [*]; done)), H', ⟨by have := HJ3.out; have := HK2.out; omega⟩, ⟨by (with_reducible repeat (first | apply Kd.R_alloc | apply Kd.R_drewN | apply Kd.R_drew)); exact HO136.out⟩, ⟨by (with_reducible repeat (first | apply Kd.R_alloc | apply Kd.R_drewN | apply Kd.R_drew)); exact HO_18.out⟩, ⟨hb_ HB⟩⟩
end Go.Proofs.YthglbmihbmneaaaGreatDoor.P
