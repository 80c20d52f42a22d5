/- How what came in reads, by kinds: whatever a row's argument reads as is a value of the print's kind for its type. -/
import Derived.Test.YtmpicpenbhdbhaaDoorWMore
import Derived.ProofKit
import Derived.ChangeArms
import Derived.DataReads
import Derived.Lib.LaidTab
namespace Go.Proofs.YtmpicpenbhdbhaaDoor.Rk
open Go.ChangeShapes Go.WideShapes Go.RowKit Go.Proofs.YtmpicpenbhdbhaaDoorW.PrintWords
variable {P : Program}

def Opens (P : Program) (t : TypeId) {α : Type} (d : Kd α) (Q : α → Prop) : Prop :=
  ∀ (H : Type) (enc : TypeId × Value → H) (w : World) (base : Nat) (spare : Nat → Bool) (held : Bool) (fuel : Nat) (cs : List Value) (y : DataW H × List MemPlace),
    DataW.trod enc P w base spare held fuel t cs = some y → ∃ x, d.K w x cs ∧ Q x

theorem opens_int {t : TypeId} {k : IntKind} (ht : P.underlying t = some (.int k)) : Opens P t (Kd.int k) (fun n => (Lit.int k n).wf = true) := by
  intro H enc w base spare held fuel cs y h
  obtain ⟨n, rfl, _, hw⟩ := DataW.trod_int ht h
  exact ⟨n, rfl, hw⟩
theorem opens_bool {t : TypeId} (ht : P.underlying t = some .bool) : Opens P t Kd.bool (fun _ => True) := by
  intro H enc w base spare held fuel cs y h
  obtain ⟨n, rfl, _⟩ := DataW.trod_bool ht h
  exact ⟨n, rfl, trivial⟩
theorem opens_string {t : TypeId} (ht : P.underlying t = some .string) : Opens P t Kd.string (fun s => s.size ≤ 9223372036854775807) := by
  intro H enc w base spare held fuel cs y h
  obtain ⟨n, rfl, _, hs⟩ := DataW.trod_string ht h
  exact ⟨n, rfl, hs⟩

theorem add_add (a : Addr) (m n : Nat) : (a.add m).add n = a.add (m + n) := by
  unfold Addr.add
  by_cases hn : n = 0
  · simp [hn]
  · by_cases hm : m = 0
    · simp [hm]
    · simp [hm, hn]
      omega

theorem mapM_at {α β : Type} {f : α → Option β} : ∀ {l : List α} {r : List β}, l.mapM f = some r → ∀ (i : Nat) (a : α), l[i]? = some a → ∃ b, r[i]? = some b ∧ f a = some b
  | [], _, _, i, a, ha => by simp at ha
  | x :: l, r, h, i, a, ha => by
    simp only [List.mapM_cons, Option.bind_eq_bind, Option.bind_eq_some_iff, Option.pure_def, Option.some.injEq] at h
    obtain ⟨b, hb, r', hr', rfl⟩ := h
    cases i with
    | zero =>
      simp only [List.getElem?_cons_zero, Option.some.injEq] at ha
      subst ha
      exact ⟨b, rfl, hb⟩
    | succ i => exact mapM_at hr' i a (by simpa using ha)
theorem mapM_length {α β : Type} {f : α → Option β} : ∀ {l : List α} {r : List β}, l.mapM f = some r → r.length = l.length
  | [], r, h => by simp at h; subst h; rfl
  | x :: l, r, h => by
    simp only [List.mapM_cons, Option.bind_eq_bind, Option.bind_eq_some_iff, Option.pure_def, Option.some.injEq] at h
    obtain ⟨b, hb, r', hr', rfl⟩ := h
    simp [mapM_length hr']

theorem cells_get {w : World} {base : Nat} {a : Addr} {n : Nat} {cs : List Value} (h : w.cells? base a n = some cs) : cs.length = n ∧ ∀ i u, cs[i]? = some u → w.cell? (a.add i) = some u := by
  unfold World.cells? at h
  split at h
  · have hl := mapM_length h
    simp at hl
    refine ⟨hl, fun i u hu => ?_⟩
    have hi : i < n := by
      have := (List.getElem?_eq_some_iff.mp hu).1
      omega
    obtain ⟨b, hb, hf⟩ := mapM_at h i i (by simp [hi])
    rw [hu] at hb
    cases hb
    exact hf
  · cases h

theorem build_list {α : Type} {p : Nat → α → Prop} : ∀ n, (∀ i, i < n → ∃ x, p i x) → ∃ l : List α, l.length = n ∧ ∀ i x, l[i]? = some x → p i x
  | 0, _ => ⟨[], rfl, by simp⟩
  | n + 1, h => by
    obtain ⟨l, hl, hp⟩ := build_list n (fun i hi => h i (by omega))
    obtain ⟨x, hx⟩ := h n (by omega)
    refine ⟨l ++ [x], by simp [hl], fun i y hy => ?_⟩
    by_cases hi : i < n
    · rw [List.getElem?_append_left (by omega)] at hy
      exact hp i y hy
    · have : i = n := by
        have := (List.getElem?_eq_some_iff.mp hy).1
        simp at this
        omega
      subst this
      rw [List.getElem?_append_right (by omega)] at hy
      simp [hl] at hy
      subst hy
      exact hx

theorem opens_slice {t e : TypeId} {α : Type} {d : Kd α} {Q : α → Prop} (ht : P.underlying t = some (.slice e)) (hc : P.cellsOf e = d.sz) (ho : Opens P e d Q) :
    Opens P t (Kd.slice e d) (fun l => l.length ≤ 9223372036854775807 ∧ ∀ x ∈ l, Q x) := by
  intro H enc w base spare held fuel cs y h
  rcases DataW.trod_slice ht h with ⟨rfl, _⟩ | ⟨a, len, cap, elems, rest, n, _, rfl, _, hb, hl, hm, hlen, hel, _, _⟩
  · exact ⟨[], ⟨none, 0, rfl, Nat.le_refl _, rfl, by simp, fun h => absurd h (by simp)⟩, by simp, by simp⟩
  · have hx : ∀ i, i < len → ∃ x, (∃ c, c.length = d.sz ∧ d.K w x c ∧ ∀ j u, c[j]? = some u → w.cell? (a.add (i * d.sz + j)) = some u) ∧ Q x := by
      intro i hi
      have h1 := hel i hi
      rw [List.getElem?_eq_getElem (by omega)] at h1
      obtain ⟨cs', h3, h4⟩ := Option.bind_eq_some_iff.mp h1
      obtain ⟨x, h5, h6⟩ := ho _ _ _ _ _ _ _ _ _ h4
      obtain ⟨h7, h8⟩ := cells_get h3
      refine ⟨x, ⟨cs', h7.trans hc, h5, fun j u hu => ?_⟩, h6⟩
      have := h8 j u hu
      rw [add_add, hc] at this
      exact this
    obtain ⟨l, hll, hlp⟩ := build_list len hx
    have hm' : cap ≤ 9223372036854775807 := hm
    refine ⟨l, ⟨some a, cap, by rw [hll], by omega, rfl, by omega, fun _ => ⟨a, rfl, fun j p hp => (hlp j p hp).1⟩⟩, by omega, fun x hxl => ?_⟩
    obtain ⟨i, hi⟩ := List.getElem?_of_mem hxl
    exact (hlp i x hi).2

def Fits (P : Program) (l : List (TypeId × Nat)) (off : Nat) {α : Type} (d : Kd α) (Q : α → Prop) : Prop :=
  ∀ (H : Type) (enc : TypeId × Value → H) (w : World) (base : Nat) (spare : Nat → Bool) (held : Bool) (n : Nat) (cs : List Value), cs.length = off + d.sz →
    (∀ f, f ∈ l → ∃ y, DataW.trod enc P w base spare held n f.1 ((cs.drop f.2).take (P.cellsOf f.1)) = some y) → ∃ x, d.K w x (cs.drop off) ∧ Q x
theorem fits_one {t : TypeId} {off : Nat} {α : Type} {d : Kd α} {Q : α → Prop} (ho : Opens P t d Q) (hc : P.cellsOf t = d.sz) : Fits P [(t, off)] off d Q := by
  intro H enc w base spare held n cs hl h
  obtain ⟨y, hy⟩ := h (t, off) (by simp)
  rw [hc, List.take_of_length_le (by simp; omega)] at hy
  exact ho _ _ _ _ _ _ _ _ _ hy
theorem fits_cons {t : TypeId} {off : Nat} {l : List (TypeId × Nat)} {α β : Type} {a : Kd α} {b : Kd β} {Qa : α → Prop} {Qb : β → Prop} (ho : Opens P t a Qa) (hc : P.cellsOf t = a.sz) (hr : Fits P l (off + a.sz) b Qb) :
    Fits P ((t, off) :: l) off (Kd.pair a b) (fun x => Qa x.1 ∧ Qb x.2) := by
  intro H enc w base spare held n cs hl h
  obtain ⟨y, hy⟩ := h (t, off) (by simp)
  rw [hc] at hy
  obtain ⟨x, hx, qx⟩ := ho _ _ _ _ _ _ _ _ _ hy
  have hl' : cs.length = off + (a.sz + b.sz) := hl
  obtain ⟨z, hz, qz⟩ := hr _ enc w base spare held n cs (by omega) (fun f hf => h f (by simp [hf]))
  refine ⟨(x, z), ⟨_, _, ?_, hx, hz⟩, qx, qz⟩
  rw [← List.drop_drop, List.take_append_drop]
theorem opens_struct {t : TypeId} {fs : Array Field} {l : List (TypeId × Nat)} {α : Type} {d : Kd α} {Q : α → Prop} (ht : P.underlying t = some (.struct fs)) (hl : fs.toList.map (fun f => (f.type, f.offset)) = l) (hc : P.cellsOf t = d.sz)
    (h : Fits P l 0 d Q) : Opens P t d Q := by
  intro H enc w base spare held fuel cs y hy
  obtain ⟨xs, n, _, _, hlen, hxl, hf⟩ := DataW.trod_struct ht hy
  subst hl
  obtain ⟨x, hx, qx⟩ := h _ enc w base spare held n cs (by omega) (fun f hf' => by
    obtain ⟨g, hg, rfl⟩ := List.mem_map.mp hf'
    obtain ⟨i, hi⟩ := List.getElem?_of_mem hg
    rw [Array.getElem?_toList] at hi
    have h1 := hf i g hi
    have h2 : i < xs.length := by
      rw [hxl]
      exact (Array.getElem?_eq_some_iff.mp hi).1
    exact ⟨xs[i], by rw [h1]; exact List.getElem?_eq_getElem h2⟩)
  exact ⟨x, by simpa using hx, qx⟩
theorem trod_array {t e : TypeId} {n : Nat} {H : Type} {enc : TypeId × Value → H} {w : World} {base : Nat} {spare : Nat → Bool} {held : Bool} {fuel : Nat} {cs : List Value} {y : DataW H × List MemPlace}
    (ht : P.underlying t = some (.array n e)) (h : DataW.trod enc P w base spare held fuel t cs = some y) :
    ∃ (xs : List (DataW H × List MemPlace)) (m : Nat), cs.length = P.cellsOf t ∧ (List.range n).mapM (fun i => DataW.trod enc P w base spare held m e ((cs.drop (i * P.cellsOf e)).take (P.cellsOf e))) = some xs := by
  cases fuel with
  | zero => simp [DataW.trod] at h
  | succ m =>
    unfold DataW.trod at h
    rw [ht] at h
    simp only at h
    split at h
    · rename_i hl
      obtain ⟨xs, hm, _⟩ := Option.map_eq_some_iff.1 h
      exact ⟨xs, m, hl, hm⟩
    · cases h
theorem opens_array {t e : TypeId} {n : Nat} {l : List (TypeId × Nat)} {α : Type} {d : Kd α} {Q : α → Prop} (ht : P.underlying t = some (.array n e)) (hl : (List.range n).map (fun i => (e, i * P.cellsOf e)) = l) (hc : P.cellsOf t = d.sz)
    (h : Fits P l 0 d Q) : Opens P t d Q := by
  intro H enc w base spare held fuel cs y hy
  obtain ⟨xs, m, hlen, hm⟩ := trod_array ht hy
  subst hl
  obtain ⟨x, hx, qx⟩ := h _ enc w base spare held m cs (by omega) (fun f hf' => by
    obtain ⟨g, hg, rfl⟩ := List.mem_map.mp hf'
    obtain ⟨i, hi⟩ := List.getElem?_of_mem hg
    obtain ⟨b, _, hb⟩ := mapM_at hm i g hi
    exact ⟨b, hb⟩)
  exact ⟨x, by simpa using hx, qx⟩
theorem opens_iso {t : TypeId} {α β : Type} {d : Kd α} {Q : α → Prop} {f : β → α} (g : α → β) (hg : ∀ x, f (g x) = x) (h : Opens P t d Q) : Opens P t (Kd.iso d f) (fun y => Q (f y)) := by
  intro H enc w base spare held fuel cs y hy
  obtain ⟨x, hx, qx⟩ := h _ _ _ _ _ _ _ _ _ hy
  refine ⟨g x, ?_, ?_⟩
  · show d.K w (f (g x)) cs
    rw [hg]
    exact hx
  · show Q (f (g x))
    rw [hg]
    exact qx

/-- An argument's reading, and its value's cells. -/
theorem arg {t : TypeId} {α : Type} {d : Kd α} {Q : α → Prop} (ho : Opens P t d Q) {H : Type} {enc : TypeId × Value → H} {W : World} {spare : Nat → Bool} {held : Bool} {v : Value} {y : DataW H} {p : List MemPlace}
    (h : DataW.Trod enc P W 0 spare held t v y p) : ∃ x, d.K W x v.cells.toList ∧ Q x := by
  obtain ⟨fuel, hf⟩ := h
  exact ho _ _ _ _ _ _ _ _ _ hf
theorem lt_of {t : TypeId} {H : Type} {enc : TypeId × Value → H} {W : World} {spare : Nat → Bool} {held : Bool} {v : Value} {y : DataW H} {p : List MemPlace}
    (h : DataW.Trod enc P W 0 spare held t v y p) : ∀ x ∈ p, x.block < W.heap.size := by
  obtain ⟨m, hm⟩ := h
  exact DataW.trod_lt m _ _ _ hm
theorem agg_of {cs : Array Value} {l : List Value} (h : (Value.agg cs).cells.toList = l) : cs = l.toArray := by
  subst h
  simp [Value.cells]

/-- Of the listed variables: each one's own reading. -/
theorem laid_mem {W : World} {name : String} {d : DataW Unit} : ∀ {l : List (String × DataW Unit)} {ps : List MemPlace}, DataW.LaidVars P W l ps → (name, d) ∈ l →
    ∃ g t cs fuel p, P.globalNamed name = some g ∧ (P.globals[g]?).map (·.type) = some t ∧ W.var? P name = some cs ∧ DataW.trod (fun _ => ()) P W 0 (fun _ => true) false fuel t cs.toList = some (d, p)
  | [], _, _, h => by cases h
  | x :: l, ps, h, hm => by
    obtain ⟨n, d0⟩ := x
    obtain ⟨g, t, cs, fuel, p, q, h1, h2, h3, h4, h5, _⟩ := h
    rcases List.mem_cons.mp hm with e | e
    · cases e
      exact ⟨g, t, cs, fuel, p, h1, h2, h3, h4⟩
    · exact laid_mem h5 e
/-- A listed table of whole numbers: its cells. -/
theorem tab_cells {W : World} {name : String} {k : IntKind} {zs : List Int} {l : List (String × DataW Unit)} {g : Nat} {t e : TypeId} {n : Nat}
    (h : laidMet P l W) (hm : (name, Lib.tabData k zs) ∈ l) (hg : P.globalNamed name = some g) (hty : (P.globals[g]?).map (·.type) = some t) (ht : P.underlying t = some (.array n e)) (he : P.underlying e = some (.int k)) (hce : P.cellsOf e = 1) (hct : P.cellsOf t = n) :
    ∀ i, i < zs.length → W.cell? ⟨g, i, none⟩ = some (.int k (zs.getD i 0)) := by
  obtain ⟨ps, hv, _⟩ := h
  obtain ⟨g', t', cs, fuel, p, hg', ht', hvar, hd⟩ := laid_mem hv hm
  obtain rfl := Option.some.inj (hg.symm.trans hg')
  obtain rfl := Option.some.inj (hty.symm.trans ht')
  have e1 := Lib.cells_of_tab ht he hce hct hd
  have T : Lib.TabIs P W name k zs := by
    unfold Lib.TabIs
    rw [hvar, ← e1]
  exact fun i hi => T.cell hg i hi
end Go.Proofs.YtmpicpenbhdbhaaDoor.Rk
