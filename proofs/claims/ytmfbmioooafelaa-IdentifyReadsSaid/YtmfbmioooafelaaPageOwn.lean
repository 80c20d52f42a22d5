/- A row of bytes of the call's own, known whole: made, cleared, written by a copy from a text, turned into a text. -/
import Derived.Test.YtmfbmioooafelaaWMore
import Derived.Laws.IdiomStrings
import Derived.Laws.BytesArg
import Derived.Laws.OwnMore
import Derived.Laws.CopyOwn
import Derived.Lib.SliceRun
import Derived.Lib.BufferWrite
import Derived.StillTailTactics
namespace Go.Proofs.YtmfbmioooafelaaW.PrintWords
open Go.RowKit

/-- A block whose cells are these bytes. -/
def RowAt (w : World) (g e : Nat) (l : List UInt8) : Prop := w.heap[g]? = some (.cells (Lib.byteCells l).toArray e (0, 0))
theorem byteCells_len (l : List UInt8) : (Lib.byteCells l).length = l.length := by simp [Lib.byteCells]
namespace RowAt
variable {w w1 : World} {g e : Nat} {l : List UInt8}
theorem cell (h : RowAt w g e l) (j : Nat) (hj : j < l.length) : w.cell? ⟨g, j, none⟩ = some (.int .u8 (l[j].toNat : Int)) := by
  have h' : w.heap[g]? = some (.cells (Lib.byteCells l).toArray e (0, 0)) := h
  rw [blk_cell h' j]
  simp [Lib.byteCells, List.getElem?_eq_getElem hj]
theorem lt (h : RowAt w g e l) : g < w.heap.size := blk_lt h
theorem far (h : RowAt w g e l) {p : Addr} (hp : g ≠ p.block) (u : Value) : RowAt (w.setCell p u) g e l := blk_far h hp u
theorem below (h : RowAt w g e l) (hb : Below w.heap.size w w1) : RowAt w1 g e l := blk_below h hb
theorem drew (h : RowAt w g e l) : RowAt w.drew g e l := h
theorem drewN (h : RowAt w g e l) (n : Nat) : RowAt (w.drewN n) g e l := h
end RowAt
theorem cells_zeroed {g e : Nat} {cs : Array Value} {z : Value} : ∀ (n o : Nat) (w : World), w.heap[g]? = some (.cells cs e (0, 0)) → (∀ i, i < cs.size → cs[i]? = some z) → (w.setCells g o (List.replicate n z)).heap[g]? = some (.cells cs e (0, 0))
  | 0, _, _, h, _ => h
  | n + 1, o, w, h, hz => by
    have h1 : (w.setCell ⟨g, o, none⟩ z).heap[g]? = some (.cells cs e (0, 0)) := by
      refine blk_put h o z ?_
      apply Array.ext
      · simp
      · intro i h1 h2
        rw [Array.getElem_setIfInBounds]
        split
        · have := hz i h2
          rw [Array.getElem?_eq_getElem h2] at this
          exact (Option.some.inj this).symm
        · rfl
    exact cells_zeroed n (o + 1) _ h1 hz
theorem below_setCells' {B g : Nat} {w0 : World} {z : Value} (hg : B ≤ g) : ∀ (n o : Nat) (w : World), Below B w0 w → Below B w0 (w.setCells g o (List.replicate n z))
  | 0, _, _, h => h
  | n + 1, o, _, h => below_setCells' hg n (o + 1) _ (h.setCell hg _)
section
variable {P : Program} {ops : Array Oper} {rest : List Oper} {o : Oper} {a : Act} {Q : Exit → Act → World → Prop}
/-- 'make([]byte, n)'. -/
theorem zeros_event {W : World} (hgd : o.guard = none) {N : Tmp} (_hd : o.dst = some N) (t e : TypeId) (x y : Operand) (n : Nat) (ho : o.op = .makeSlice t x y) (hx : a.eval x = .int .i64 n) (hy : a.eval y = .int .i64 n)
    (ht : P.underlying t = some (.slice e)) (hinfo : (P.info? e).map (fun i => (i.zero, i.size, i.bytes)) = some (some (.int .u8 0), 1, 1)) (hn : n ≤ 281474976710656)
    (h : ∀ g w1, g = W.heap.size → RowAt w1 g e (List.replicate n 0) → Below W.heap.size W w1 → wpList P ops Q rest (a.put o.dst (.slice (some ⟨g, 0, none⟩) n n)) w1) : wpList P ops Q (o :: rest) a W := by
  obtain ⟨i0, hi, hzz⟩ := Option.map_eq_some_iff.1 hinfo
  simp only [Prod.mk.injEq] at hzz
  obtain ⟨hz0, hz1, hz2⟩ := hzz
  have hr := run_make (P := P) W t e i0 (.int .u8 0) ht hi hz0 .i64 .i64 (n : Int) (n : Int) (by omega) (by omega) (by rw [hz2]; omega) (by omega)
  rw [hz1] at hr
  simp only [Int.toNat_natCast, Nat.mul_one] at hr
  obtain ⟨W1, hW1⟩ : ∃ W1, W1 = W.alloc (.cells (madeCells (Value.cells (.int .u8 0)) n) e (0, 0)) := ⟨_, rfl⟩
  rw [← hW1] at hr
  have e2 : madeCells (Value.cells (.int .u8 0)) n = (Lib.byteCells (List.replicate n 0)).toArray := by
    apply Array.toList_inj.mp
    have := toList_madeCells_one (.int .u8 0) n
    simpa [Lib.byteCells, Value.cells] using this
  refine Kd.event_run (w1 := W1) (v := .slice (some ⟨W.heap.size, 0, none⟩) n n) hgd (by simp [execOp, ho, hx, hy, hr]) (h W.heap.size W1 rfl ?_ ?_)
  · rw [hW1, e2]
    exact blk_new _ _
  · rw [hW1]
    exact below_alloc (Below.refl _ _) _
/-- 'clear(b)' of zeros. -/
theorem clear_event {W : World} (hgd : o.guard = none) (hd : o.dst = none) (x : Operand) (t e : TypeId) (g n c : Nat) (ho : o.op = .call { callee := .builtin .clear, args := #[x], argTypes := #[t] }) (hx : a.eval x = .slice (some ⟨g, 0, none⟩) n c)
    (ht : P.underlying t = some (.slice e)) (hv : ∀ w, (zeroValue e).run P w = .ok (.int .u8 0) w) (hn : 0 < n) (hR : RowAt W g e (List.replicate n 0)) {B : Nat} {w0 : World} (hB : Below B w0 W) (hBg : B ≤ g)
    (h : ∀ w1, RowAt w1 g e (List.replicate n 0) → Below B w0 w1 → wpList P ops Q rest a w1) : wpList P ops Q (o :: rest) a W := by
  have hl : (List.replicate n (0 : UInt8)).length = n := List.length_replicate
  have hrun := Lib.run_clear_slice (P := P) W t e o.type (.int .u8 0) ht hv rfl rfl g 0 n c hn (fun j hj => by rw [Nat.zero_add, hR.cell j (by omega)]; rfl) (fun j hj => by rw [Nat.zero_add]; exact blk_frozen hR j)
  obtain ⟨W1, hW1⟩ : ∃ W1, W1 = W.setCells g 0 (List.replicate n (.int .u8 0)) := ⟨_, rfl⟩
  rw [← hW1] at hrun
  refine Kd.event_run (w1 := W1) (v := .tuple #[]) hgd (by simp [execOp, ho, resolve, invoke, builtin, hx, hrun, Result.andThen]) ?_
  rw [hd]
  refine h W1 ?_ ?_
  · rw [hW1]
    refine cells_zeroed (cs := (Lib.byteCells (List.replicate n 0)).toArray) n 0 W hR (fun i hi => ?_)
    have hi' : i < n := by simpa [byteCells_len] using hi
    simp [Lib.byteCells, hi']
  · rw [hW1]
    exact below_setCells' hBg n 0 W hB
/-- 'copy(b[i:], s)', s a text that fits. -/
theorem copy_event {W : World} (hgd : o.guard = none) {N : Tmp} (_hd : o.dst = some N) (x y : Operand) (t u e : TypeId) (g i n c : Nat) (s : ByteArray) (l : List UInt8) (ho : o.op = .call { callee := .builtin .copy, args := #[x, y], argTypes := #[t, u] }) (hx : a.eval x = .slice (some ⟨g, i, none⟩) n c) (hy : a.eval y = .string s)
    (ht : P.underlying t = some (.slice e)) (hs : (P.info? e).map (·.size) = some 1) (hle : s.size ≤ n) (hfit : i + s.size ≤ l.length) (hR : RowAt W g e l) {B : Nat} {w0 : World} (hB : Below B w0 W) (hBg : B ≤ g)
    (h : ∀ w1, RowAt w1 g e (l.take i ++ s.data.toList ++ l.drop (i + s.size)) → Below B w0 w1 → wpList P ops Q rest (a.put o.dst (.int .i64 s.size)) w1) : wpList P ops Q (o :: rest) a W := by
  have hrun := Lib.run_copy_row_string (P := P) W t u o.type e g i n c s (Lib.byteCells l).toArray e ht hs hR hle (by simpa [byteCells_len] using hfit)
  obtain ⟨W1, hW1⟩ : ∃ W1, W1 = W.setRow g (((Lib.byteCells l).toArray).toList.take i ++ Lib.byteCells s.data.toList ++ ((Lib.byteCells l).toArray).toList.drop (i + s.size)).toArray := ⟨_, rfl⟩
  rw [← hW1] at hrun
  refine Kd.event_run (w1 := W1) (v := .int .i64 s.size) hgd (by simp [execOp, ho, resolve, invoke, builtin, hx, hy, hrun, Result.andThen, goInt]) (h W1 ?_ ?_)
  · rw [hW1]
    unfold RowAt
    rw [setRow_heap W g _ _ e (0, 0) hR]
    congr 3
    simp [Lib.byteCells, List.map_take, List.map_drop]
  · rw [hW1]
    exact below_setRow hB hBg _
/-- 'string(b)'. -/
theorem whole_event {W : World} (hgd : o.guard = none) {N : Tmp} (_hd : o.dst = some N) {src dst e : TypeId} (x : Operand) (ho : o.op = .convert src dst x) (l : List UInt8) (g n c : Nat) (hx : a.eval x = .slice (some ⟨g, 0, none⟩) n c) (hn : n = l.length)
    (hb : RowAt W g e l) (hs : P.underlying src = some (.slice e)) (he : P.underlying e = some (.int .u8)) (hd : P.underlying dst = some .string)
    (h : wpList P ops Q rest (a.put o.dst (.string ⟨l.toArray⟩)) W) : wpList P ops Q (o :: rest) a W := by
  subst hn
  have hrun := run_convert_bytes_back (P := P) W src dst e ⟨g, 0, none⟩ c l hs he hd (fun j hj => by
    have e1 : (⟨g, 0, none⟩ : Addr).add j = ⟨g, j, none⟩ := by
      unfold Addr.add
      by_cases hz : j = 0
      · subst hz; rfl
      · rw [if_neg hz]; simp
    rw [e1]
    exact hb.cell j hj)
  exact Kd.event_run hgd (by simp [execOp, ho, hx, hrun]) h
end
end Go.Proofs.YtmfbmioooafelaaW.PrintWords
