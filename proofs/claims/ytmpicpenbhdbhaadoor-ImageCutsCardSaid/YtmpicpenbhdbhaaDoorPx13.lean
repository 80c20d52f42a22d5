/- ImageCuts: the law's own text, walked by hand. -/
import Derived.Test.YtmpicpenbhdbhaaDoorPx1
import Derived.Test.YtmpicpenbhdbhaaDoorPx3
import Derived.Test.YtmpicpenbhdbhaaDoorPx4
import Derived.Test.YtmpicpenbhdbhaaDoorPx5
import Derived.Laws.IdiomStrings
import Derived.Laws.BytesArg
import Derived.OwnWalk
namespace Go.Proofs.YtmpicpenbhdbhaaDoorW.PrintWords
open Go.RowKit

/-- A block whose first cells are these bytes; its mark, if it has one, lies behind them. -/
def BytesAt (w : World) (g e : Nat) (l : List UInt8) : Prop :=
  ∃ (rest : Array Value) (m : Nat × Nat), l.length ≤ m.1 ∧ w.heap[g]? = some (.cells ((l.map fun b => Value.int .u8 (b.toNat : Int)).toArray ++ rest) e m)
namespace BytesAt
variable {w w1 : World} {g e : Nat} {l : List UInt8}
theorem cell (h : BytesAt w g e l) (j : Nat) (hj : j < l.length) : w.cell? ⟨g, j, none⟩ = some (.int .u8 (l[j].toNat : Int)) := by
  obtain ⟨rest, m, hm, hh⟩ := h
  rw [cell_of_row w g j _ e m hh, Array.getElem?_append_left (by simpa using hj)]
  simp [List.getElem?_eq_getElem hj]
theorem frozen (h : BytesAt w g e l) (j : Nat) (hj : j < l.length) : w.frozen? ⟨g, j, none⟩ = false := by
  obtain ⟨rest, m, hm, hh⟩ := h
  obtain ⟨m1, m2⟩ := m
  have hm' : l.length ≤ m1 := hm
  unfold World.frozen?
  rw [hh]
  simp
  intro h1
  omega
theorem lt (h : BytesAt w g e l) : g < w.heap.size := by
  obtain ⟨rest, m, hm, hh⟩ := h
  exact blk_lt hh
theorem put (h : BytesAt w g e l) (j : Nat) (c : UInt8) (hj : j < l.length) : BytesAt (w.setCell ⟨g, j, none⟩ (.int .u8 (c.toNat : Int))) g e (l.set j c) := by
  obtain ⟨rest, m, hm, hh⟩ := h
  refine ⟨rest, m, by rw [List.length_set]; exact hm, ?_⟩
  simp only [World.setCell, Array.getElem?_modify, hh]
  simp
  rw [Array.setIfInBounds_append_left (by simpa using hj)]
  simp
theorem far (h : BytesAt w g e l) {p : Addr} (hp : g ≠ p.block) (u : Value) : BytesAt (w.setCell p u) g e l := by
  obtain ⟨rest, m, hm, hh⟩ := h
  exact ⟨rest, m, hm, (Below.heap_setCell w p u g hp).trans hh⟩
theorem below (h : BytesAt w g e l) (hb : Below w.heap.size w w1) : BytesAt w1 g e l := by
  obtain ⟨rest, m, hm, hh⟩ := h
  exact ⟨rest, m, hm, blk_below hh hb⟩
theorem alloc (h : BytesAt w g e l) (o : Obj) : BytesAt (w.alloc o) g e l := by
  obtain ⟨rest, m, hm, hh⟩ := h
  exact ⟨rest, m, hm, blk_alloc hh o⟩
theorem drew (h : BytesAt w g e l) : BytesAt w.drew g e l := h
theorem drewN (h : BytesAt w g e l) (n : Nat) : BytesAt (w.drewN n) g e l := h
end BytesAt
section
variable {P : Program} {ops : Array Oper} {rest : List Oper} {o : Oper} {a : Act} {Q : Exit → Act → World → Prop}
/-- '[]byte(s)'. -/
theorem bytes_event {W : World} (hgd : o.guard = none) {N : Tmp} (_hd : o.dst = some N) {src dst e : TypeId} (x : Operand) (ho : o.op = .convert src dst x) (s : ByteArray) (hx : a.eval x = .string s)
    (hs : P.underlying src = some .string) (hd : P.underlying dst = some (.slice e)) (he : P.underlying e = some (.int .u8))
    (h : ∀ g c w1, g = W.heap.size → BytesAt w1 g e s.data.toList → Below W.heap.size W w1 → wpList P ops Q rest (a.put o.dst (.slice (some ⟨g, 0, none⟩) s.size c)) w1) : wpList P ops Q (o :: rest) a W := by
  have hrun := run_bytes_of_string (P := P) W src dst e s hs hd he
  obtain ⟨W1, hW1⟩ : ∃ W1, W1 = W.drew.alloc (.cells (bytesRow s (grownCap W s.size 0 e)) e ((bytesRow s (grownCap W s.size 0 e)).size, (bytesRow s (grownCap W s.size 0 e)).size + 1)) := ⟨_, rfl⟩
  rw [← hW1] at hrun
  refine Kd.event_run (w1 := W1) (v := .slice (some ⟨W.heap.size, 0, none⟩) s.size (grownCap W s.size 0 e)) hgd (by simp [execOp, ho, hx, hrun]) (h W.heap.size _ _ rfl ?_ ?_)
  · refine ⟨Array.replicate (grownCap W s.size 0 e - s.size) (.int .u8 0), ((bytesRow s (grownCap W s.size 0 e)).size, (bytesRow s (grownCap W s.size 0 e)).size + 1), ?_, ?_⟩
    · simp [bytesRow]
    · have e1 : W.heap.size = W.drew.heap.size := rfl
      rw [hW1, e1, blk_new]
      have e2 : (s.data.toList.map fun b => Value.int .u8 (b.toNat : Int)).toArray = s.data.map fun b => Value.int .u8 (b.toNat : Int) := by
        apply Array.toList_inj.mp
        simp
      rw [e2]
      rfl
  · rw [hW1]
    exact below_alloc (below_drew1 (Below.refl _ _)) _
/-- 'string(b)' of such bytes. -/
theorem back_event {W : World} (hgd : o.guard = none) {N : Tmp} (_hd : o.dst = some N) {src dst e : TypeId} (x : Operand) (ho : o.op = .convert src dst x) (l : List UInt8) (g n c : Nat) (hx : a.eval x = .slice (some ⟨g, 0, none⟩) n c) (hn : n = l.length)
    (hb : BytesAt W g e l) (hs : P.underlying src = some (.slice e)) (he : P.underlying e = some (.int .u8)) (hd : P.underlying dst = some .string)
    (h : wpList P ops Q rest (a.put o.dst (.string ⟨l.toArray⟩)) W) : wpList P ops Q (o :: rest) a W := by
  subst hn
  have hrun := run_convert_bytes_back (P := P) W src dst e ⟨g, 0, none⟩ c l hs he hd (fun j hj => by
    have e1 : (⟨g, 0, none⟩ : Addr).add j = ⟨g, j, none⟩ := by
      unfold Addr.add
      by_cases hz : j = 0
      · subst hz; rfl
      · rw [if_neg hz]; simp
    rw [e1]
    exact hb.cell j hj)
  exact Kd.event_run hgd (by simp [execOp, ho, hx, hrun]) h
end
end Go.Proofs.YtmpicpenbhdbhaaDoorW.PrintWords

namespace Go.Proofs.YtmpicpenbhdbhaaDoor.P
open Go.RowKit Go.Proofs.YtmpicpenbhdbhaaDoorW.PrintWords Go.Proofs.YtmpicpenbhdbhaaDoorW.PrintLast Go.Proofs.YtmpicpenbhdbhaaDoorW.PrintMore
attribute [local go_sem] max2_int min2_int max_two min_two max_three min_three max_four min_four   -- for this text's walks alone
set_option linter.unusedVariables false
set_option linter.unusedSimpArgs false
set_option linter.unnecessarySimpa false


theorem cuts_world {P : Program} {n : Nat} {args : Array Value} {w : World} {Q : Ending → World → Prop} (S : World → Prop) (hS : S w) (h : ∀ w', S w' → Calls P n args w' Q) : Calls P n args w Q := h w hS
theorem one_event {P : Program} {ops : Array Oper} {rest : List Oper} {o : Oper} {a : Act} {Q : Exit → Act → World → Prop} {W : World} (hgd : o.guard = none) {N : Tmp} (_hd : o.dst = some N) {cs : Array Value} {t : TypeId} {n : Nat}
    (hrun : (execOp a.eval o).run P W = .ok (.value (.slice (some ⟨W.heap.size, 0, none⟩) n n)) (W.alloc (.cells cs t (0, 0))))
    (h : ∀ g, g = W.heap.size → ∀ w1, w1.heap[g]? = some (.cells cs t (0, 0)) → Below W.heap.size W w1 → wpList P ops Q rest (a.put o.dst (.slice (some ⟨g, 0, none⟩) n n)) w1) : wpList P ops Q (o :: rest) a W :=
  Kd.event_run hgd hrun (h _ rfl _ (blk_new W _) (below_alloc (Below.refl _ _) _))
theorem back_cells {P : Program} {ops : Array Oper} {rest : List Oper} {o : Oper} {a : Act} {Q : Exit → Act → World → Prop} {W : World} (hgd : o.guard = none) {N : Tmp} (_hd : o.dst = some N) {src dst e : TypeId} (x : Operand) (ho : o.op = .convert src dst x) (l : List UInt8) (g n c : Nat) (hx : a.eval x = .slice (some ⟨g, 0, none⟩) n c) (hn : n = l.length)
    (hb : ∀ (j : Nat) (hj : j < l.length), W.cell? ⟨g, j, none⟩ = some (.int .u8 (l[j].toNat : Int))) (hs : P.underlying src = some (.slice e)) (he : P.underlying e = some (.int .u8)) (hd : P.underlying dst = some .string)
    (h : wpList P ops Q rest (a.put o.dst (.string ⟨l.toArray⟩)) W) : wpList P ops Q (o :: rest) a W := by
  subst hn
  have hrun := run_convert_bytes_back (P := P) W src dst e ⟨g, 0, none⟩ c l hs he hd (fun j hj => by
    have e1 : (⟨g, 0, none⟩ : Addr).add j = ⟨g, j, none⟩ := by
      unfold Addr.add
      by_cases hz : j = 0
      · subst hz; rfl
      · rw [if_neg hz]; simp
    rw [e1]
    exact hb j hj)
  exact Kd.event_run hgd (by simp [execOp, ho, hx, hrun]) h
theorem one_cell {w : World} {g e : Nat} {c : UInt8} (h : w.heap[g]? = some (.cells #[.int .u8 (c.toNat : Int)] e (0, 0))) : ∀ (j : Nat) (hj : j < [c].length), w.cell? ⟨g, j, none⟩ = some (.int .u8 ([c][j].toNat : Int))
  | 0, _ => (blk_cell h 0).trans rfl
/-- Which byte is turned, and the text with the byte turned. -/
def cutAt (s : ByteArray) (a : Int) : Nat := (IntKind.u64.wrap a % (s.size : Int)).toNat
def cutSet (s : ByteArray) (a : Int) (c : Int) : ByteArray := ⟨(s.data.toList.set (cutAt s a) (UInt8.ofNat c.toNat)).toArray⟩
def oneB (c : Int) : ByteArray := ⟨[UInt8.ofNat c.toNat].toArray⟩
def headgatelaw12_ImageCuts.f (k : Nat) (l : List S48) (typ : Int) (host : ByteArray) (gen : Int) (apt : Bool) (a1 : Int) (a2 : Int) : Option Bool :=
  (headgatelaw10_Large.f k l typ host gen apt).bind fun lg =>
  if lg = true then headgatelaw12_wakes.f k
  else (headgatekeep_CopyTable.f l typ host gen apt).bind fun q => (image_Encode.f k q.1 q.2.1 q.2.2.1 q.2.2.2.1 q.2.2.2.2).bind fun p =>
    if p.2 = 0 then
      (if 0 < p.1.size ∧ p.1.size ≤ 1000000 ∧ 0 ≤ a2 ∧ a2 < 256 then
        (image_Decode.f k (p.1.extract 0 (cutAt p.1 a1))).bind fun x => (image_Decode.f k (p.1 ++ oneB a2)).bind fun y => (image_Decode.f k (cutSet p.1 a1 a2)).bind fun z => (headgatelaw12_wakes.f k).bind fun t =>
          if x.2.2.2.2.2 = 61 ∧ y.2.2.2.2.2 = 61 ∧ (z.2.2.2.2.2 = 0 ↔ cutSet p.1 a1 a2 = p.1) then some t else none
      else none)
    else if p.1.size = 0 then headgatelaw12_wakes.f k else none
set_option maxHeartbeats 8000000 in
set_option maxRecDepth 100000 in
theorem headgatelaw12_ImageCuts.calls (k : Nat) (A0 : Option Addr) (c0 : Nat) (l : List S48) (typ : Int) (host : ByteArray) (gen : Int) (apt : Bool) (a1 : Int) (a2 : Int) (r : Bool) (w : World) (hr0 : Kd.C k48 w A0 l.length l) (hc0 : l.length ≤ c0) (hG : Glob w) (hT : r = true) (h : headgatelaw12_ImageCuts.f k l typ host gen apt a1 a2 = some r) :
    Calls Tryd.prog 6 #[.agg #[.slice A0 l.length c0, .int .i64 typ, .string host, .int .u32 gen, .bool apt], .int .i64 a1, .int .u8 a2] w fun e w' => e = .returned (.bool r) ∧ Below w.heap.size w w' := by
  have hu27 := Tryd.underlying27
  have hu24 := Tryd.underlying24
  subst hT
  have HG := Aside0.mk hG
  have HR := Aside0.mk hr0
  have HC := Aside0.mk hc0
  clear hG hr0 hc0
  unfold headgatelaw12_ImageCuts.f at h
  replace h := Option.bind_eq_some_iff.mp h
  obtain ⟨lg, hl, h⟩ := h
  have HL0 := Aside0.mk hl
  clear hl
  by_cases h1 : lg = true
  · rw [if_pos h1] at h
    subst h1
    have HW := Aside0.mk h
    clear h
    go_enter Tryd.func6, Tryd.ntmps6
    go_wp2_with (first
      | ((with_reducible refine gate_dst (N := 3) rfl ?_); refine box_event ?hg (N := 3) ?hd (cs := #[.slice A0 l.length c0, .int .i64 typ, .string host, .int .u32 gen, .bool apt]) (t := 27) ?hr ?_; (case hd => rfl); (case hg => rfl); (case hr => first | (go_simp; done) | (go_simp; rfl)); intro gb hg w1 hbox hb; have HB := Aside0.mk hb; have HX := Aside0.mk hbox; have hcgb_0 : w1.cell? ⟨gb, 0, none⟩ = some (.slice A0 l.length c0) := (blk_cell hbox 0).trans rfl; have hcgb_1 : w1.cell? ⟨gb, 1, none⟩ = some (.int .i64 typ) := (blk_cell hbox 1).trans rfl; have hcgb_2 : w1.cell? ⟨gb, 2, none⟩ = some (.string host) := (blk_cell hbox 2).trans rfl; have hcgb_3 : w1.cell? ⟨gb, 3, none⟩ = some (.int .u32 gen) := (blk_cell hbox 3).trans rfl; have hcgb_4 : w1.cell? ⟨gb, 4, none⟩ = some (.bool apt) := (blk_cell hbox 4).trans rfl; have hfgb_0 := blk_frozen hbox 0; have hfgb_1 := blk_frozen hbox 1; have hfgb_2 := blk_frozen hbox 2; have hfgb_3 := blk_frozen hbox 3; have hfgb_4 := blk_frozen hbox 4; clear hb hbox hg)
      | (go_at_call 8; refine (headgatelaw10_Large.calls k A0 c0 l typ host gen apt true _ ?side1 ?side2 HL0.out).mono ?_; (case side1 => exact Kd.C_below HR.out HB.out); (case side2 => exact HC.out); rintro e w2 ⟨rfl, hb⟩; have n1_ := Aside0.mk (below_step HB.out hb); have n2_ := Aside0.mk (blk_below HX.out hb); clear HB HX hb hcgb_0 hfgb_0 hcgb_1 hfgb_1 hcgb_2 hfgb_2 hcgb_3 hfgb_3 hcgb_4 hfgb_4; have HB := n1_; have HX := n2_; clear n1_ n2_; have hcgb_0 : w2.cell? ⟨gb, 0, none⟩ = some (.slice A0 l.length c0) := (blk_cell HX.out 0).trans rfl; have hcgb_1 : w2.cell? ⟨gb, 1, none⟩ = some (.int .i64 typ) := (blk_cell HX.out 1).trans rfl; have hcgb_2 : w2.cell? ⟨gb, 2, none⟩ = some (.string host) := (blk_cell HX.out 2).trans rfl; have hcgb_3 : w2.cell? ⟨gb, 3, none⟩ = some (.int .u32 gen) := (blk_cell HX.out 3).trans rfl; have hcgb_4 : w2.cell? ⟨gb, 4, none⟩ = some (.bool apt) := (blk_cell HX.out 4).trans rfl; have hfgb_0 := blk_frozen HX.out 0; have hfgb_1 := blk_frozen HX.out 1; have hfgb_2 := blk_frozen HX.out 2; have hfgb_3 := blk_frozen HX.out 3; have hfgb_4 := blk_frozen HX.out 4)
      | (go_at_call 9; refine (headgatelaw12_wakes.calls k true _ (Glob.keep HG.out HB.out) HW.out).mono ?_; rintro e w9 ⟨rfl, hb⟩; have n1_ := Aside0.mk (below_step HB.out hb); clear HB hb; have HB := n1_; clear n1_))
    go_ret
    exact ⟨rfl, HB.out⟩
  · rw [if_neg h1] at h
    have h1' : lg = false := by simpa using h1
    clear h1
    subst h1'
    replace h := Option.bind_eq_some_iff.mp h
    obtain ⟨⟨q1, q2, q3, q4, q5⟩, hq, h⟩ := h
    have HQ := Aside0.mk hq
    clear hq
    dsimp only at h
    replace h := Option.bind_eq_some_iff.mp h
    obtain ⟨⟨s, e0⟩, hP, h⟩ := h
    have HP := Aside0.mk hP
    clear hP
    dsimp only at h
    by_cases h3 : e0 = 0
    · rw [if_pos h3] at h
      subst h3
      by_cases h4 : 0 < s.size ∧ s.size ≤ 1000000 ∧ 0 ≤ a2 ∧ a2 < 256
      · rw [if_pos h4] at h
        obtain ⟨hs0, hs1, hc0, hc1⟩ := h4
        replace h := Option.bind_eq_some_iff.mp h
        obtain ⟨⟨x1, x2, x3, x4, x5, ex⟩, hx, h⟩ := h
        replace h := Option.bind_eq_some_iff.mp h
        obtain ⟨⟨y1, y2, y3, y4, y5, ey⟩, hy, h⟩ := h
        replace h := Option.bind_eq_some_iff.mp h
        obtain ⟨⟨z1, z2, z3, z4, z5, ez⟩, hz, h⟩ := h
        replace h := Option.bind_eq_some_iff.mp h
        obtain ⟨t, hW, h⟩ := h
        have HW := Aside0.mk hW
        clear hW
        dsimp only at h
        by_cases h5 : ex = 61 ∧ ey = 61 ∧ (ez = 0 ↔ cutSet s a1 a2 = s)
        · rw [if_pos h5] at h
          obtain rfl := Option.some.inj h
          obtain ⟨rfl, rfl, hez⟩ := h5
          clear h
          obtain ⟨m, hm⟩ : ∃ m, m = cutAt s a1 := ⟨_, rfl⟩
          obtain ⟨c, hc⟩ : ∃ c, c = UInt8.ofNat a2.toNat := ⟨_, rfl⟩
          have hca : a2 = (c.toNat : Int) := by rw [hc, UInt8.toNat_ofNat']; omega
          obtain ⟨u, hu⟩ : ∃ u, u = cutSet s a1 a2 := ⟨_, rfl⟩
          obtain ⟨cs, hcs⟩ : ∃ cs, cs = oneB a2 := ⟨_, rfl⟩
          have hu2 : (⟨(s.data.toList.set m c).toArray⟩ : ByteArray) = u := by rw [hu, hm, hc]; rfl
          have hcs2 : (⟨([c] : List UInt8).toArray⟩ : ByteArray) = cs := by rw [hcs, hc]; rfl
          have hcz : cs.size = 1 := by rw [hcs]; rfl
          have em0 := Int.emod_nonneg (IntKind.u64.wrap a1) (b := (s.size : Int)) (by omega)
          have em1 := Int.emod_lt_of_pos (IntKind.u64.wrap a1) (b := (s.size : Int)) (by omega)
          have ev0 : 0 ≤ IntKind.u64.wrap a1 := by simp only [IntKind.wrap, IntKind.bits, IntKind.signed]; simp; omega
          have hmi : IntKind.u64.wrap a1 % (s.size : Int) = (m : Int) := by rw [hm]; unfold cutAt; omega
          have hml : m < s.size := by omega
          have hml' : m < s.data.toList.length := by simpa using hml
          have eW : wrap64 (Int.tmod (IntKind.u64.wrap a1) (s.size : Int)) = (m : Int) := by
            rw [Int.tmod_eq_emod_of_nonneg ev0, hmi]
            unfold wrap64
            omega
          have eU : IntKind.u64.wrap (s.size : Int) = (s.size : Int) := by (simp [IntKind.wrap, IntKind.bits, IntKind.signed]; omega)
          have ne4 : ((s.size : Int) = 0) = False := eq_false (by omega)
          have ne5 : ((s.size : Int) == 0) = false := beq_eq_false_iff_ne.mpr (by omega)
          have ne6 : (s.size = 0) = False := eq_false (by omega)
          have ne7 : (s = ByteArray.empty) = False := eq_false (fun z => by rw [z] at hs0; exact absurd hs0 (by decide))
          have sne : s.toList ≠ ([] : List UInt8) := fun z => by
            rw [ByteArray.toList_eq] at z
            have := congrArg List.length z
            rw [Array.length_toList] at this
            exact absurd this (Nat.ne_of_gt hs0)
          have se1 : (s.toList == ([] : List UInt8)) = false := beq_eq_false_iff_ne.mpr sne
          have se2 : (s.toList = ([] : List UInt8)) = False := eq_false sne
          have mlt : ((m : Int) < (s.size : Int)) = True := eq_true (Int.ofNat_lt.mpr hml)
          have mlt2 : (m < s.size) = True := eq_true hml
          have mle : ((m : Int) ≤ (s.size : Int)) = True := eq_true (by omega)
          have mle2 : (m ≤ s.size) = True := eq_true (by omega)
          have p0 : (0 : Int) ≤ (m : Int) := Int.natCast_nonneg m
          have lim : (9223372036854775807 < s.size + cs.size) = False := eq_false (by omega)
          have lim2 : (9223372036854775807 < s.size + 1) = False := eq_false (by omega)
          rw [← hm] at hx
          rw [← hu] at hz hez
          rw [← hcs] at hy
          have HX0 := Aside0.mk hx
          have HY0 := Aside0.mk hy
          have HZ0 := Aside0.mk hz
          have hun : (u.toList == s.toList) = decide (u = s) := by
            by_cases hz : u = s
            · rw [hz]; simp
            · rw [decide_eq_false hz]
              refine beq_eq_false_iff_ne.mpr (fun h_ => hz ?_)
              rw [ByteArray.toList_eq, ByteArray.toList_eq] at h_
              exact ByteArray.ext (Array.toList_inj.mp h_)
          obtain ⟨bb, hbb⟩ : ∃ bb, (ez == 0) = bb := ⟨_, rfl⟩
          have hbb2 : (u.toList == s.toList) = bb := by
            rw [hun, ← hbb, Bool.eq_iff_iff, decide_eq_true_iff, beq_iff_eq]
            exact hez.symm
          clear hu hm hc hcs em0 em1 ev0 hmi hc0 hc1 hx hy hz hez hun sne hcz
          subst hca
          have HU := Aside0.mk hu2
          have HCS := Aside0.mk hcs2
          have HLM := Aside0.mk hml'
          clear hml' hml hs0 hs1 hu2 hcs2
          cases bb
          all_goals
            go_enter Tryd.func6, Tryd.ntmps6
            go_wp2_with (first
              | ((with_reducible refine gate_dst (N := 3) rfl ?_); refine box_event ?hg (N := 3) ?hd (cs := #[.slice A0 l.length c0, .int .i64 typ, .string host, .int .u32 gen, .bool apt]) (t := 27) ?hr ?_; (case hd => rfl); (case hg => rfl); (case hr => first | (go_simp; done) | (go_simp; rfl)); intro gb hg w1 hbox hb; have HB := Aside0.mk hb; have HX := Aside0.mk hbox; have hcgb_0 : w1.cell? ⟨gb, 0, none⟩ = some (.slice A0 l.length c0) := (blk_cell hbox 0).trans rfl; have hcgb_1 : w1.cell? ⟨gb, 1, none⟩ = some (.int .i64 typ) := (blk_cell hbox 1).trans rfl; have hcgb_2 : w1.cell? ⟨gb, 2, none⟩ = some (.string host) := (blk_cell hbox 2).trans rfl; have hcgb_3 : w1.cell? ⟨gb, 3, none⟩ = some (.int .u32 gen) := (blk_cell hbox 3).trans rfl; have hcgb_4 : w1.cell? ⟨gb, 4, none⟩ = some (.bool apt) := (blk_cell hbox 4).trans rfl; have hfgb_0 := blk_frozen hbox 0; have hfgb_1 := blk_frozen hbox 1; have hfgb_2 := blk_frozen hbox 2; have hfgb_3 := blk_frozen hbox 3; have hfgb_4 := blk_frozen hbox 4; clear hb hbox hg)
              | (go_at_call 8; refine (headgatelaw10_Large.calls k A0 c0 l typ host gen apt false _ ?side1 ?side2 HL0.out).mono ?_; (case side1 => exact Kd.C_below HR.out HB.out); (case side2 => exact HC.out); rintro e w2 ⟨rfl, hb⟩; have n1_ := Aside0.mk (below_step HB.out hb); have n2_ := Aside0.mk (blk_below HX.out hb); clear HB HX hb hcgb_0 hfgb_0 hcgb_1 hfgb_1 hcgb_2 hfgb_2 hcgb_3 hfgb_3 hcgb_4 hfgb_4; have HB := n1_; have HX := n2_; clear n1_ n2_; have hcgb_0 : w2.cell? ⟨gb, 0, none⟩ = some (.slice A0 l.length c0) := (blk_cell HX.out 0).trans rfl; have hcgb_1 : w2.cell? ⟨gb, 1, none⟩ = some (.int .i64 typ) := (blk_cell HX.out 1).trans rfl; have hcgb_2 : w2.cell? ⟨gb, 2, none⟩ = some (.string host) := (blk_cell HX.out 2).trans rfl; have hcgb_3 : w2.cell? ⟨gb, 3, none⟩ = some (.int .u32 gen) := (blk_cell HX.out 3).trans rfl; have hcgb_4 : w2.cell? ⟨gb, 4, none⟩ = some (.bool apt) := (blk_cell HX.out 4).trans rfl; have hfgb_0 := blk_frozen HX.out 0; have hfgb_1 := blk_frozen HX.out 1; have hfgb_2 := blk_frozen HX.out 2; have hfgb_3 := blk_frozen HX.out 3; have hfgb_4 := blk_frozen HX.out 4)
              | (go_at_call 10; refine (headgatekeep_CopyTable.calls A0 c0 l typ host gen apt q1 q2 q3 q4 q5 _ ?side1 ?side2 HQ.out).mono ?_; (case side1 => exact Kd.C_below HR.out HB.out); (case side2 => exact HC.out); rintro e w3 ⟨vq, rfl, hr, hb⟩; have n1_ := Aside0.mk (below_step HB.out hb); obtain ⟨Aq, cq, eq_⟩ := Kd.R_slice hr; subst eq_; have HRQ := Aside0.mk hr; clear HB HX hb hr hcgb_0 hfgb_0 hcgb_1 hfgb_1 hcgb_2 hfgb_2 hcgb_3 hfgb_3 hcgb_4 hfgb_4; have HB := n1_; clear n1_)
              | (go_at_call 11; refine (image_Encode.calls k Aq cq q1 q2 q3 q4 q5 s _ _ ?side1 ?side2 ?side3 HP.out).mono ?_; (case side1 => exact (Kd.R_reads' HRQ.out).2.2); (case side2 => exact (Kd.R_reads' HRQ.out).2.1); (case side3 => exact Glob.keep HG.out HB.out); rintro e w4 ⟨rfl, hb⟩; have n1_ := Aside0.mk (below_step HB.out hb); clear HB HRQ hb; have HB := n1_; clear n1_)
              | ((with_reducible refine gate_dst (N := 43) rfl ?_); refine bytes_event rfl (N := 43) rfl (.tmp 42) rfl s rfl Tryd.underlying9 Tryd.underlying44 Tryd.underlying5 ?_; intro g cc w5 hgs hba hb; have n1_ := Aside0.mk (below_step HB.out hb); have GE := Aside0.mk (show w.heap.size ≤ g by rw [hgs]; exact below_size HB.out); have hcy2 := hba.cell m HLM.out; have hfy2 := hba.frozen m HLM.out; have BA := Aside0.mk hba; clear HB; have HB := n1_; clear n1_ hb hba hgs)
              | (go_at_call 14; refine cuts_world (fun w' => BytesAt w' g 5 (s.data.toList.set m c) ∧ Below w.heap.size w w') ⟨BA.out.put m c HLM.out, below_set (j := m) (v := .int .u8 (c.toNat : Int)) HB.out GE.out⟩ ?_; rintro w6 ⟨ba_, hb_⟩; clear HB BA hcy2 hfy2; have HB := Aside0.mk hb_; have BA := Aside0.mk ba_; clear ba_ hb_; refine (image_Decode.calls k (s.extract 0 m) x1 x2 x3 x4 x5 61 _ (Glob.keep HG.out HB.out) HX0.out).mono ?_; rintro e w7 ⟨vx, rfl, hr, hb⟩; obtain ⟨Ax, cx, ex_⟩ := Kd.R_slice hr; subst ex_; have n1_ := Aside0.mk (below_step HB.out hb); have n2_ := Aside0.mk (BA.out.below hb); clear HB BA hr hb HX0; have HB := n1_; have BA := n2_; clear n1_ n2_)
              | ((with_reducible refine gate_dst (N := 11) rfl ?_); refine box_event ?hg (N := 11) ?hd (cs := #[.slice none 0 0, .int .i64 0, .string (⟨#[]⟩ : ByteArray), .int .u32 0, .bool false]) (t := 27) ?hr ?_; (case hd => rfl); (case hg => rfl); (case hr => first | (go_simp; done) | (go_simp; rfl)); intro gx hg w8 hbox hb; have NEgx := Aside0.mk (show g ≠ gx by rw [hg]; exact Nat.ne_of_lt BA.out.lt); have GEgx := Aside0.mk (show w.heap.size ≤ gx by rw [hg]; exact below_size HB.out); have n1_ := Aside0.mk (below_step HB.out hb); have n2_ := Aside0.mk (BA.out.below hb); clear HB BA; have HB := n1_; have BA := n2_; have hcgx_0 : w8.cell? ⟨gx, 0, none⟩ = some (.slice none 0 0) := (blk_cell hbox 0).trans rfl; have hcgx_1 : w8.cell? ⟨gx, 1, none⟩ = some (.int .i64 0) := (blk_cell hbox 1).trans rfl; have hcgx_2 : w8.cell? ⟨gx, 2, none⟩ = some (.string (⟨#[]⟩ : ByteArray)) := (blk_cell hbox 2).trans rfl; have hcgx_3 : w8.cell? ⟨gx, 3, none⟩ = some (.int .u32 0) := (blk_cell hbox 3).trans rfl; have hcgx_4 : w8.cell? ⟨gx, 4, none⟩ = some (.bool false) := (blk_cell hbox 4).trans rfl; have hfgx_0 := blk_frozen hbox 0; have hfgx_1 := blk_frozen hbox 1; have hfgx_2 := blk_frozen hbox 2; have hfgx_3 := blk_frozen hbox 3; have hfgx_4 := blk_frozen hbox 4; clear n1_ n2_ hb hbox hg)
              | ((with_reducible refine gate_dst (N := 58) rfl ?_); refine good_world (fun w' => BytesAt w' g 5 (s.data.toList.set m c) ∧ Below w.heap.size w w') ⟨(((((BA.out.far (p := ⟨gx, 0, none⟩) NEgx.out _).far (p := ⟨gx, 1, none⟩) NEgx.out _).far (p := ⟨gx, 2, none⟩) NEgx.out _).far (p := ⟨gx, 3, none⟩) NEgx.out _).far (p := ⟨gx, 4, none⟩) NEgx.out _), (below_set (below_set (below_set (below_set (below_set HB.out GEgx.out) GEgx.out) GEgx.out) GEgx.out) GEgx.out)⟩ ?_; rintro w10 ⟨ba_, hb_⟩; clear HB BA NEgx GEgx hcgx_0 hfgx_0 hcgx_1 hfgx_1 hcgx_2 hfgx_2 hcgx_3 hfgx_3 hcgx_4 hfgx_4; have HB := Aside0.mk hb_; have BA := Aside0.mk ba_; clear ba_ hb_; refine one_event ?hg (N := 58) ?hd (cs := #[.int .u8 (c.toNat : Int)]) (t := 5) (n := 1) ?hr ?_; (case hd => rfl); (case hg => rfl); (case hr => first | (go_simp; done) | (go_simp; rfl)); intro g2 hg w11 hbox hb; have n1_ := Aside0.mk (below_step HB.out hb); have n2_ := Aside0.mk (BA.out.below hb); have B2 := Aside0.mk (one_cell hbox); clear HB BA hb hbox hg; have HB := n1_; have BA := n2_; clear n1_ n2_)
              | ((with_reducible refine gate_dst (N := 59) rfl ?_); refine back_cells rfl (N := 59) rfl (.tmp 58) rfl [c] g2 1 1 rfl rfl B2.out Tryd.underlying44 Tryd.underlying5 Tryd.underlying9 ?_; rw [HCS.out]; clear B2)
              | (go_at_call 14; refine (image_Decode.calls k (s ++ cs) y1 y2 y3 y4 y5 61 _ (Glob.keep HG.out HB.out) HY0.out).mono ?_; rintro e w12 ⟨vx, rfl, hr, hb⟩; obtain ⟨Ax, cx, ex_⟩ := Kd.R_slice hr; subst ex_; have n1_ := Aside0.mk (below_step HB.out hb); have n2_ := Aside0.mk (BA.out.below hb); clear HB BA hr hb HY0; have HB := n1_; have BA := n2_; clear n1_ n2_)
              | ((with_reducible refine gate_dst (N := 13) rfl ?_); refine box_event ?hg (N := 13) ?hd (cs := #[.slice none 0 0, .int .i64 0, .string (⟨#[]⟩ : ByteArray), .int .u32 0, .bool false]) (t := 27) ?hr ?_; (case hd => rfl); (case hg => rfl); (case hr => first | (go_simp; done) | (go_simp; rfl)); intro gy hg w12b hbox hb; have NEgy := Aside0.mk (show g ≠ gy by rw [hg]; exact Nat.ne_of_lt BA.out.lt); have GEgy := Aside0.mk (show w.heap.size ≤ gy by rw [hg]; exact below_size HB.out); have n1_ := Aside0.mk (below_step HB.out hb); have n2_ := Aside0.mk (BA.out.below hb); clear HB BA; have HB := n1_; have BA := n2_; have hcgy_0 : w12b.cell? ⟨gy, 0, none⟩ = some (.slice none 0 0) := (blk_cell hbox 0).trans rfl; have hcgy_1 : w12b.cell? ⟨gy, 1, none⟩ = some (.int .i64 0) := (blk_cell hbox 1).trans rfl; have hcgy_2 : w12b.cell? ⟨gy, 2, none⟩ = some (.string (⟨#[]⟩ : ByteArray)) := (blk_cell hbox 2).trans rfl; have hcgy_3 : w12b.cell? ⟨gy, 3, none⟩ = some (.int .u32 0) := (blk_cell hbox 3).trans rfl; have hcgy_4 : w12b.cell? ⟨gy, 4, none⟩ = some (.bool false) := (blk_cell hbox 4).trans rfl; have hfgy_0 := blk_frozen hbox 0; have hfgy_1 := blk_frozen hbox 1; have hfgy_2 := blk_frozen hbox 2; have hfgy_3 := blk_frozen hbox 3; have hfgy_4 := blk_frozen hbox 4; clear n1_ n2_ hb hbox hg)
              | ((with_reducible refine gate_dst (N := 66) rfl ?_); refine good_world (fun w' => BytesAt w' g 5 (s.data.toList.set m c) ∧ Below w.heap.size w w') ⟨(((((BA.out.far (p := ⟨gy, 0, none⟩) NEgy.out _).far (p := ⟨gy, 1, none⟩) NEgy.out _).far (p := ⟨gy, 2, none⟩) NEgy.out _).far (p := ⟨gy, 3, none⟩) NEgy.out _).far (p := ⟨gy, 4, none⟩) NEgy.out _), (below_set (below_set (below_set (below_set (below_set HB.out GEgy.out) GEgy.out) GEgy.out) GEgy.out) GEgy.out)⟩ ?_; rintro w13 ⟨ba_, hb_⟩; clear HB BA NEgy GEgy hcgy_0 hfgy_0 hcgy_1 hfgy_1 hcgy_2 hfgy_2 hcgy_3 hfgy_3 hcgy_4 hfgy_4; have HB := Aside0.mk hb_; have BA := Aside0.mk ba_; clear ba_ hb_; refine back_event rfl (N := 66) rfl (.tmp 65) rfl (s.data.toList.set m c) _ _ _ rfl ?hn BA.out Tryd.underlying44 Tryd.underlying5 Tryd.underlying9 ?_; (case hn => first | (simp; done) | (simp; rfl)); rw [HU.out])
              | (go_at_call 14; refine (image_Decode.calls k u z1 z2 z3 z4 z5 ez _ (Glob.keep HG.out HB.out) HZ0.out).mono ?_; rintro e w14 ⟨vx, rfl, hr, hb⟩; obtain ⟨Ax, cx, ex_⟩ := Kd.R_slice hr; subst ex_; have n1_ := Aside0.mk (below_step HB.out hb); have n2_ := Aside0.mk (BA.out.below hb); clear HB BA hr hb HZ0; have HB := n1_; have BA := n2_; clear n1_ n2_)
              | ((with_reducible refine gate_dst (N := 15) rfl ?_); refine box_event ?hg (N := 15) ?hd (cs := #[.slice none 0 0, .int .i64 0, .string (⟨#[]⟩ : ByteArray), .int .u32 0, .bool false]) (t := 27) ?hr ?_; (case hd => rfl); (case hg => rfl); (case hr => first | (go_simp; done) | (go_simp; rfl)); intro gz hg w15 hbox hb; have NEgz := Aside0.mk (show g ≠ gz by rw [hg]; exact Nat.ne_of_lt BA.out.lt); have GEgz := Aside0.mk (show w.heap.size ≤ gz by rw [hg]; exact below_size HB.out); have n1_ := Aside0.mk (below_step HB.out hb); have n2_ := Aside0.mk (BA.out.below hb); clear HB BA; have HB := n1_; have BA := n2_; have hcgz_0 : w15.cell? ⟨gz, 0, none⟩ = some (.slice none 0 0) := (blk_cell hbox 0).trans rfl; have hcgz_1 : w15.cell? ⟨gz, 1, none⟩ = some (.int .i64 0) := (blk_cell hbox 1).trans rfl; have hcgz_2 : w15.cell? ⟨gz, 2, none⟩ = some (.string (⟨#[]⟩ : ByteArray)) := (blk_cell hbox 2).trans rfl; have hcgz_3 : w15.cell? ⟨gz, 3, none⟩ = some (.int .u32 0) := (blk_cell hbox 3).trans rfl; have hcgz_4 : w15.cell? ⟨gz, 4, none⟩ = some (.bool false) := (blk_cell hbox 4).trans rfl; have hfgz_0 := blk_frozen hbox 0; have hfgz_1 := blk_frozen hbox 1; have hfgz_2 := blk_frozen hbox 2; have hfgz_3 := blk_frozen hbox 3; have hfgz_4 := blk_frozen hbox 4; clear n1_ n2_ hb hbox hg)
              | ((with_reducible refine gate_dst (N := 80) rfl ?_); (try (refine gate_guard (by rfl) ?_; dsimp only)); refine good_world (fun w' => BytesAt w' g 5 (s.data.toList.set m c) ∧ Below w.heap.size w w') ⟨(((((BA.out.far (p := ⟨gz, 0, none⟩) NEgz.out _).far (p := ⟨gz, 1, none⟩) NEgz.out _).far (p := ⟨gz, 2, none⟩) NEgz.out _).far (p := ⟨gz, 3, none⟩) NEgz.out _).far (p := ⟨gz, 4, none⟩) NEgz.out _), (below_set (below_set (below_set (below_set (below_set HB.out GEgz.out) GEgz.out) GEgz.out) GEgz.out) GEgz.out)⟩ ?_; rintro w16 ⟨ba_, hb_⟩; clear HB BA NEgz GEgz hcgz_0 hfgz_0 hcgz_1 hfgz_1 hcgz_2 hfgz_2 hcgz_3 hfgz_3 hcgz_4 hfgz_4; have HB := Aside0.mk hb_; have BA := Aside0.mk ba_; clear ba_ hb_; refine back_event rfl (N := 80) rfl (.tmp 79) rfl (s.data.toList.set m c) _ _ _ rfl ?hn BA.out Tryd.underlying44 Tryd.underlying5 Tryd.underlying9 ?_; (case hn => first | (simp; done) | (simp; rfl)); rw [HU.out])
              | (go_at_call 9; refine (headgatelaw12_wakes.calls k true _ (Glob.keep HG.out HB.out) HW.out).mono ?_; rintro e w9 ⟨rfl, hb⟩; have n1_ := Aside0.mk (below_step HB.out hb); clear HB hb; have HB := n1_; clear n1_))
            go_ret
            exact ⟨rfl, HB.out⟩
        · rw [if_neg h5] at h
          exact absurd h (by simp)
      · rw [if_neg h4] at h
        exact absurd h (by simp)
    · rw [if_neg h3] at h
      have d5 : (e0 == 0) = false := beq_eq_false_iff_ne.mpr h3
      have d6 : (e0 != 0) = true := bne_iff_ne.mpr h3
      clear h3
      by_cases h4 : s.size = 0
      · rw [if_pos h4] at h
        have HW := Aside0.mk h
        clear h
        have es : s = ByteArray.empty := ByteArray.ext (Array.eq_empty_of_size_eq_zero h4)
        have e1 : (s.toList == ([] : List UInt8)) = true := by rw [es, ByteArray.toList_eq]; rfl
        have e2 : s.toList = ([] : List UInt8) := by rw [es, ByteArray.toList_eq]; rfl
        clear es h4
        go_enter Tryd.func6, Tryd.ntmps6
        go_wp2_with (first
          | ((with_reducible refine gate_dst (N := 3) rfl ?_); refine box_event ?hg (N := 3) ?hd (cs := #[.slice A0 l.length c0, .int .i64 typ, .string host, .int .u32 gen, .bool apt]) (t := 27) ?hr ?_; (case hd => rfl); (case hg => rfl); (case hr => first | (go_simp; done) | (go_simp; rfl)); intro gb hg w1 hbox hb; have HB := Aside0.mk hb; have HX := Aside0.mk hbox; have hcgb_0 : w1.cell? ⟨gb, 0, none⟩ = some (.slice A0 l.length c0) := (blk_cell hbox 0).trans rfl; have hcgb_1 : w1.cell? ⟨gb, 1, none⟩ = some (.int .i64 typ) := (blk_cell hbox 1).trans rfl; have hcgb_2 : w1.cell? ⟨gb, 2, none⟩ = some (.string host) := (blk_cell hbox 2).trans rfl; have hcgb_3 : w1.cell? ⟨gb, 3, none⟩ = some (.int .u32 gen) := (blk_cell hbox 3).trans rfl; have hcgb_4 : w1.cell? ⟨gb, 4, none⟩ = some (.bool apt) := (blk_cell hbox 4).trans rfl; have hfgb_0 := blk_frozen hbox 0; have hfgb_1 := blk_frozen hbox 1; have hfgb_2 := blk_frozen hbox 2; have hfgb_3 := blk_frozen hbox 3; have hfgb_4 := blk_frozen hbox 4; clear hb hbox hg)
          | (go_at_call 8; refine (headgatelaw10_Large.calls k A0 c0 l typ host gen apt false _ ?side1 ?side2 HL0.out).mono ?_; (case side1 => exact Kd.C_below HR.out HB.out); (case side2 => exact HC.out); rintro e w2 ⟨rfl, hb⟩; have n1_ := Aside0.mk (below_step HB.out hb); have n2_ := Aside0.mk (blk_below HX.out hb); clear HB HX hb hcgb_0 hfgb_0 hcgb_1 hfgb_1 hcgb_2 hfgb_2 hcgb_3 hfgb_3 hcgb_4 hfgb_4; have HB := n1_; have HX := n2_; clear n1_ n2_; have hcgb_0 : w2.cell? ⟨gb, 0, none⟩ = some (.slice A0 l.length c0) := (blk_cell HX.out 0).trans rfl; have hcgb_1 : w2.cell? ⟨gb, 1, none⟩ = some (.int .i64 typ) := (blk_cell HX.out 1).trans rfl; have hcgb_2 : w2.cell? ⟨gb, 2, none⟩ = some (.string host) := (blk_cell HX.out 2).trans rfl; have hcgb_3 : w2.cell? ⟨gb, 3, none⟩ = some (.int .u32 gen) := (blk_cell HX.out 3).trans rfl; have hcgb_4 : w2.cell? ⟨gb, 4, none⟩ = some (.bool apt) := (blk_cell HX.out 4).trans rfl; have hfgb_0 := blk_frozen HX.out 0; have hfgb_1 := blk_frozen HX.out 1; have hfgb_2 := blk_frozen HX.out 2; have hfgb_3 := blk_frozen HX.out 3; have hfgb_4 := blk_frozen HX.out 4)
          | (go_at_call 10; refine (headgatekeep_CopyTable.calls A0 c0 l typ host gen apt q1 q2 q3 q4 q5 _ ?side1 ?side2 HQ.out).mono ?_; (case side1 => exact Kd.C_below HR.out HB.out); (case side2 => exact HC.out); rintro e w3 ⟨vq, rfl, hr, hb⟩; have n1_ := Aside0.mk (below_step HB.out hb); obtain ⟨Aq, cq, eq_⟩ := Kd.R_slice hr; subst eq_; have HRQ := Aside0.mk hr; clear HB HX hb hr hcgb_0 hfgb_0 hcgb_1 hfgb_1 hcgb_2 hfgb_2 hcgb_3 hfgb_3 hcgb_4 hfgb_4; have HB := n1_; clear n1_)
          | (go_at_call 11; refine (image_Encode.calls k Aq cq q1 q2 q3 q4 q5 s _ _ ?side1 ?side2 ?side3 HP.out).mono ?_; (case side1 => exact (Kd.R_reads' HRQ.out).2.2); (case side2 => exact (Kd.R_reads' HRQ.out).2.1); (case side3 => exact Glob.keep HG.out HB.out); rintro e w4 ⟨rfl, hb⟩; have n1_ := Aside0.mk (below_step HB.out hb); clear HB HRQ hb; have HB := n1_; clear n1_)
          | (go_at_call 9; refine (headgatelaw12_wakes.calls k true _ (Glob.keep HG.out HB.out) HW.out).mono ?_; rintro e w9 ⟨rfl, hb⟩; have n1_ := Aside0.mk (below_step HB.out hb); clear HB hb; have HB := n1_; clear n1_))
        go_ret
        exact ⟨rfl, HB.out⟩
      · rw [if_neg h4] at h
        exact absurd h (by simp)

end Go.Proofs.YtmpicpenbhdbhaaDoor.P
