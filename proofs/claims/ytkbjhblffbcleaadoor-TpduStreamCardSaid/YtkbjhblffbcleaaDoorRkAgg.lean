/- A listed package-level variable whose datum is an array of structs of single cells: its cells. -/
import Derived.Test.YtkbjhblffbcleaaDoorRk
namespace Go.Proofs.YtkbjhblffbcleaaDoor.Rk
open Go.ChangeShapes Go.WideShapes Go.RowKit Go.Proofs.YtkbjhblffbcleaaDoorW.PrintWords
variable {P : Program}

/-- Whatever reads as this datum has these cells. -/
def Knows (P : Program) (t : TypeId) (d : DataW Unit) (vs : List Value) : Prop :=
  ∀ (w : World) (fuel : Nat) (cs : List Value) (p : List MemPlace), DataW.trod (fun _ => ()) P w 0 (fun _ => true) false fuel t cs = some (d, p) → cs = vs

theorem knows_int {t : TypeId} {k : IntKind} {n : Int} (ht : P.underlying t = some (.int k)) : Knows P t (.lit (.int k n)) [.int k n] := by
  intro w fuel cs p h
  obtain ⟨m, rfl, hx, _⟩ := DataW.trod_int ht h
  simp only [Prod.mk.injEq, DataW.lit.injEq, Lit.int.injEq, true_and] at hx
  rw [hx.1]
theorem knows_bool {t : TypeId} {b : Bool} (ht : P.underlying t = some .bool) : Knows P t (.lit (.bool b)) [.bool b] := by
  intro w fuel cs p h
  obtain ⟨m, rfl, hx⟩ := DataW.trod_bool ht h
  simp only [Prod.mk.injEq, DataW.lit.injEq, Lit.bool.injEq] at hx
  rw [hx.1]

/-- A struct whose fields have one cell each. -/
theorem knows_struct {t : TypeId} {fs : Array Field} (ps : List (TypeId × DataW Unit × Value)) (ht : P.underlying t = some (.struct fs)) (hl : fs.toList.map (fun f => (f.type, f.offset)) = ps.zipIdx.map (fun p => (p.1.1, p.2)))
    (hc : P.cellsOf t = ps.length) (h : ∀ q, q ∈ ps → Knows P q.1 q.2.1 [q.2.2] ∧ P.cellsOf q.1 = 1) : Knows P t (.agg (ps.map (·.2.1))) (ps.map (·.2.2)) := by
  intro w fuel cs p hy
  obtain ⟨xs, n, _, hx, hlen, hxl, hf⟩ := DataW.trod_struct ht hy
  simp only [Prod.mk.injEq, DataW.agg.injEq] at hx
  have hx1 := hx.1
  apply List.ext_getElem?
  intro i
  by_cases hi : i < ps.length
  · have hq : ps[i]? = some ps[i] := List.getElem?_eq_getElem hi
    obtain ⟨hk, hc1⟩ := h ps[i] (List.getElem_mem hi)
    have hli : (fs.toList.map (fun f => (f.type, f.offset)))[i]? = some (ps[i].1, i) := by
      rw [hl]
      simp [List.getElem?_zipIdx, hq]
    rw [List.getElem?_map, Option.map_eq_some_iff] at hli
    obtain ⟨f, hfi, hfe⟩ := hli
    simp only [Prod.mk.injEq] at hfe
    have h1 := hf i f (by simpa using hfi)
    rw [hfe.1, hfe.2, hc1] at h1
    have h2 : (ps.map (·.2.1))[i]? = (xs.map (·.1))[i]? := by rw [hx1]
    rw [List.getElem?_map, List.getElem?_map, hq] at h2
    cases hxi : xs[i]? with
    | none => rw [hxi] at h2; simp at h2
    | some y =>
      rw [hxi] at h1 h2
      simp only [Option.map_some, Option.some.injEq] at h2
      obtain ⟨d, pp⟩ := y
      simp only at h2
      subst h2
      have h3 := hk _ _ _ _ h1
      have h4 := congrArg (·[0]?) h3
      rw [List.getElem?_map, hq]
      simpa [List.getElem?_take, List.getElem?_drop] using h4
  · rw [List.getElem?_eq_none (by omega), List.getElem?_eq_none (by simp; omega)]

/-- An array. -/
theorem knows_array {t e : TypeId} {n m : Nat} (l : List (DataW Unit × List Value)) (ht : P.underlying t = some (.array n e)) (hm : P.cellsOf e = m) (hct : P.cellsOf t = n * m) (hl : l.length = n)
    (h : ∀ x, x ∈ l → Knows P e x.1 x.2 ∧ x.2.length = m) : Knows P t (.agg (l.map (·.1))) (l.map (·.2)).flatten := by
  intro w fuel cs p hy
  cases fuel with
  | zero => simp [DataW.trod] at hy
  | succ k =>
    unfold DataW.trod at hy
    rw [ht] at hy
    simp only at hy
    split at hy
    · rename_i hcl
      obtain ⟨xs, hmm, hx⟩ := Option.map_eq_some_iff.1 hy
      have hx1 : xs.map (·.1) = l.map (·.1) := by
        have := congrArg Prod.fst hx
        simpa using this
      rw [hct] at hcl
      rw [hm] at hmm
      have hseg : ∀ i, (hi : i < n) → (cs.drop (i * m)).take m = (l[i]'(by omega)).2 := by
        intro i hi
        obtain ⟨b, hb, hf⟩ := mapM_at hmm i i (by simp [hi])
        have h2 : (xs.map (·.1))[i]? = (l.map (·.1))[i]? := by rw [hx1]
        rw [List.getElem?_map, List.getElem?_map, hb, List.getElem?_eq_getElem (by omega)] at h2
        simp only [Option.map_some, Option.some.injEq] at h2
        obtain ⟨d, pp⟩ := b
        simp only at h2
        subst h2
        exact (h _ (List.getElem_mem (by omega))).1 _ _ _ _ hf
      clear hy hmm hx hx1
      -- the segments, one behind the other
      have key : ∀ (l : List (DataW Unit × List Value)) (cs : List Value), cs.length = l.length * m → (∀ i, (hi : i < l.length) → (cs.drop (i * m)).take m = (l[i]'hi).2) → cs = (l.map (·.2)).flatten := by
        intro l
        induction l with
        | nil => intro cs h1 _; simp at h1; simp [h1]
        | cons x l ih =>
          intro cs h1 h2
          have hx0 := h2 0 (by simp)
          simp only [Nat.zero_mul, List.drop_zero, List.getElem_cons_zero] at hx0
          have := ih (cs.drop m) (by rw [List.length_drop, h1, List.length_cons, Nat.succ_mul]; omega) (fun i hi => by
            have h3 := h2 (i + 1) (by simp; omega)
            rw [List.getElem_cons_succ] at h3
            rw [List.drop_drop]
            rw [show m + i * m = (i + 1) * m by rw [Nat.succ_mul]; omega]
            exact h3)
          rw [List.map_cons, List.flatten_cons, ← hx0, ← this, List.take_append_drop]
      exact key l cs (by rw [hcl, hl]) (fun i hi => hseg i (by omega))
    · cases hy

/-- A listed variable's cells, from what is known of its datum. -/
theorem met_cells {W : World} {name : String} {d : DataW Unit} {vs : List Value} {l : List (String × DataW Unit)} {g : Nat} {t : TypeId}
    (h : laidMet P l W) (hm : (name, d) ∈ l) (hg : P.globalNamed name = some g) (hty : (P.globals[g]?).map (·.type) = some t) (hk : Knows P t d vs) :
    ∀ i v, vs[i]? = some v → W.cell? ⟨g, i, none⟩ = some v := by
  obtain ⟨ps, hv, _⟩ := h
  obtain ⟨g', t', cs, fuel, p, hg', ht', hvar, hd⟩ := laid_mem hv hm
  obtain rfl := Option.some.inj (hg.symm.trans hg')
  obtain rfl := Option.some.inj (hty.symm.trans ht')
  have e1 := hk _ _ _ _ hd
  intro i v hi
  have := World.var?_cell hg hvar i
  rw [this, ← e1] at *
  simpa using hi
end Go.Proofs.YtkbjhblffbcleaaDoor.Rk
