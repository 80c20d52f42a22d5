-- joined by this session's wip/tools/pack.py: words of the kit's print, cut to what the claim names; functions printed by a patched copy of the printer; walks and lemmas of this session; Lean checks it
import Derived.Test.YtjogkfcjlljjcaaDoorBb3
import Derived.Maps.Own
import Derived.Maps.OwnOps
import Derived.Maps.OwnSet
import Derived.Maps.Views
import Derived.Carry
import Derived.Lib.SliceRun
import Derived.Deep.QuietTactic
import Derived.BigQuiet
import Derived.OwnWalk
set_option maxHeartbeats 40000000
set_option maxRecDepth 100000
namespace Go.Proofs.YtjogkfcjlljjcaaDoor.P
open Go.RowKit Go.Proofs.YtjogkfcjlljjcaaDoorW.PrintWords Go.Proofs.YtjogkfcjlljjcaaDoorW.PrintLast Go.Proofs.YtjogkfcjlljjcaaDoorW.PrintMore
attribute [local go_sem] max2_int min2_int max_two min_two max_three min_three max_four min_four   -- for this text's walks alone
set_option linter.unusedVariables false
set_option linter.unusedSimpArgs false
set_option linter.unnecessarySimpa false
def rowc (m : List S53) : List Value := m.flatMap fun x => [.string x.f0, .int .u64 x.f1]
theorem rowc_cons (x : S53) (m : List S53) : rowc (x :: m) = .string x.f0 :: .int .u64 x.f1 :: rowc m := rfl
theorem rowc_length (m : List S53) : (rowc m).length = m.length * 2 := by
  induction m with
  | nil => rfl
  | cons x m ih => rw [rowc_cons, List.length_cons, List.length_cons, ih, List.length_cons]; omega
theorem rowc_drop (m : List S53) (j : Nat) : (rowc m).drop (j * 2) = rowc (m.drop j) := by
 induction m generalizing j with
 | nil => rw [List.drop_nil]; exact List.drop_nil
 | cons x m ih =>
  cases j with
  | zero => rfl
  | succ j => rw [show (j + 1) * 2 = j * 2 + 1 + 1 by omega, rowc_cons, List.drop_succ_cons, List.drop_succ_cons, ih, List.drop_succ_cons]
theorem rowc_take (m : List S53) (j : Nat) : (rowc m).take (j * 2) = rowc (m.take j) := by
 induction m generalizing j with
 | nil => rw [List.take_nil]; exact List.take_nil
 | cons x m ih =>
  cases j with
  | zero => rfl
  | succ j => rw [show (j + 1) * 2 = j * 2 + 1 + 1 by omega, rowc_cons, List.take_succ_cons, List.take_succ_cons, ih, List.take_succ_cons]; rfl
theorem rowc_set (m : List S53) (i : Nat) (x : S53) : ((rowc m).set (i * 2) (.string x.f0)).set (i * 2 + 1) (.int .u64 x.f1) = rowc (m.set i x) := by
 induction m generalizing i with
 | nil => rfl
 | cons y m ih =>
  cases i with
  | zero => rfl
  | succ i => rw [show (i + 1) * 2 = i * 2 + 1 + 1 by omega, rowc_cons, List.set_cons_succ, List.set_cons_succ, List.set_cons_succ, List.set_cons_succ, ih, List.set_cons_succ]; rfl
theorem reps_rowc (w : World) (base : Nat) (ok : Nat → Prop) (l : List S53) (cs : List Value) (h : Reps (k53.M w base ok) 2 l cs) : cs = rowc l := by
 induction l generalizing cs with
 | nil =>
  have := h.1
  exact List.eq_nil_of_length_eq_zero (by simpa using this)
 | cons x l ih =>
  have h0 := k53_openM (h.2 0 x rfl)
  rw [Nat.zero_mul, List.drop_zero] at h0
  have h1 : Reps (k53.M w base ok) 2 l (cs.drop 2) := by
   refine ⟨by rw [List.length_drop, h.1, List.length_cons]; omega, fun j p hj => ?_⟩
   have := h.2 (j + 1) p (by rw [List.getElem?_cons_succ]; exact hj)
   rwa [show (j + 1) * 2 = 2 + j * 2 by omega, ← List.drop_drop] at this
  rw [rowc_cons, ← ih _ h1, ← List.take_append_drop 2 cs, h0]
  simp
theorem rowc_reps (w : World) (base : Nat) (ok : Nat → Prop) (l : List S53) : Reps (k53.M w base ok) 2 l (rowc l) := by
  refine ⟨rowc_length l, fun j p hj => ?_⟩
  obtain ⟨hj1, rfl⟩ := List.getElem?_eq_some_iff.mp hj
  rw [rowc_drop, List.drop_eq_getElem_cons hj1, rowc_cons]
  exact k53_mkM w base ok l[j]
def Bk (w : World) (g : Nat) (m : List S53) (rest : List Value) : Prop := w.heap[g]? = some (.cells (rowc m ++ rest).toArray 53 (0, 0))
theorem R_block {w : World} {base : Nat} {ok : Nat → Prop} {ad : Addr} {n c : Nat} {l : List S53} (h : Kd.R k53 53 w base ok (.slice (some ad) n c) l) : ∃ g rest, ad = ⟨g, 0, none⟩ ∧ base ≤ g ∧ Bk w g l rest ∧ n = l.length ∧ n ≤ c ∧ c ≤ maxLen ∧ rest.length + l.length * 2 = c * 2 := by
 obtain ⟨h0, inner, ⟨hl, ho⟩, hr⟩ := h
 have hi := reps_rowc _ _ _ _ _ hr
 subst hi
 rcases ho with ⟨he, _⟩ | ⟨g, cap, cur, he, hg, hh, h1, h2, h3, h4⟩
 ·cases he
 ·injection he with e1 e2 e3
  injection e1 with e1
  subst e1
  subst e3
  subst e2
  have h3' : cur.toList.length = c * 2 := by rw [Array.length_toList]; exact h3
  refine ⟨g, cur.toList.drop (l.length * 2), rfl, hg, ?_, rfl, h1, h2, by rw [List.length_drop, h3']; omega⟩
  unfold Bk
  rw [hh]
  have : (rowc l ++ cur.toList.drop (l.length * 2)).toArray = cur := by
   rw [← h4, show l.length * k53.sz = l.length * 2 from rfl, List.take_append_drop]
  rw [this]
theorem block_R {w : World} {base g k c : Nat} {m : List S53} {rest : List Value} (hb : Bk w g m rest) (hg : base ≤ g) (hk : k ≤ m.length) (hc : m.length ≤ c) (hm : c ≤ maxLen) (hr : rest.length + m.length * 2 = c * 2) : Kd.R k53 53 w base (fun _ => True) (.slice (some ⟨g, 0, none⟩) k c) (m.take k) := by
 have hlen : (m.take k).length = k := by rw [List.length_take]; omega
 refine ⟨fun _ _ => trivial, rowc (m.take k), ⟨by rw [rowc_length]; rfl, Or.inr ⟨g, c, _, by rw [hlen], hg, hb, by omega, hm, ?_, ?_⟩⟩, rowc_reps _ _ _ _⟩
 ·rw [List.size_toArray, List.length_append, rowc_length]
  show m.length * 2 + rest.length = c * 2
  omega
 ·show ((rowc m ++ rest).toArray.toList).take ((m.take k).length * 2) = _
  rw [hlen, List.take_append_of_le_length (by rw [rowc_length]; omega), rowc_take]
theorem Bk.cells {w : World} {g : Nat} {m : List S53} {rest : List Value} (h : Bk w g m rest) (i : Nat) (hi : i < m.length) : w.cell? ((⟨g, 0, none⟩ : Addr).add (i * 2)) = some (.string m[i].f0) ∧ w.cell? ⟨((⟨g, 0, none⟩ : Addr).add (i * 2)).block, ((⟨g, 0, none⟩ : Addr).add (i * 2)).off + 1, none⟩ = some (.int .u64 m[i].f1) := by
 have e : (⟨g, 0, none⟩ : Addr).add (i * 2) = ⟨g, i * 2, none⟩ := by
  unfold Addr.add
  by_cases hz : i * 2 = 0
  ·rw [if_pos hz, hz]
  ·rw [if_neg hz, Nat.zero_add]
 have hd := rowc_drop m i
 rw [List.drop_eq_getElem_cons hi, rowc_cons] at hd
 have h0 : (rowc m)[i * 2]? = some (.string m[i].f0) := by
  have := congrArg (fun l => l[0]?) hd
  simpa [List.getElem?_drop] using this
 have h1 : (rowc m)[i * 2 + 1]? = some (.int .u64 m[i].f1) := by
  have := congrArg (fun l => l[1]?) hd
  simpa [List.getElem?_drop] using this
 have hl := rowc_length m
 rw [e]
 refine ⟨(blk_cell h (i * 2)).trans ?_, (blk_cell h (i * 2 + 1)).trans ?_⟩
 ·rw [List.getElem?_toArray, List.getElem?_append_left (by omega)]
  exact h0
 ·rw [List.getElem?_toArray, List.getElem?_append_left (by omega)]
  exact h1
theorem Bk.put {w : World} {g : Nat} {m : List S53} {rest : List Value} (h : Bk w g m rest) (i : Nat) (hi : i < m.length) (x : S53) : Bk ((w.setCell ⟨g, i * 2, none⟩ (.string x.f0)).setCell ⟨g, i * 2 + 1, none⟩ (.int .u64 x.f1)) g (m.set i x) rest := by
  have hl := rowc_length m
  refine blk_put (blk_put h (i * 2) _ rfl) (i * 2 + 1) _ ?_
  rw [List.setIfInBounds_toArray, List.setIfInBounds_toArray, List.set_append_left _ _ (by omega), List.set_append_left _ _ (by rw [List.length_set]; omega), rowc_set]
structure Kp (g : Nat) (w w1 : World) : Prop where
  os : w1.os = w.os
  tape : w1.tape = w.tape
  output : w1.output = w.output
  size : w.heap.size ≤ w1.heap.size
  block : ∀ k, k < w.heap.size → k ≠ g → w1.heap[k]? = w.heap[k]?
theorem Kp.refl (g : Nat) (w : World) : Kp g w w := ⟨rfl, rfl, rfl, Nat.le_refl _, fun _ _ _ => rfl⟩
theorem Kp.below {g : Nat} {w w1 w2 : World} (h : Kp g w w1) (k : Below w1.heap.size w1 w2) : Kp g w w2 :=
  ⟨k.os.trans h.os, k.tape.trans h.tape, k.output.trans h.output, Nat.le_trans h.size k.size, fun b hb hne => (k.block b (Nat.lt_of_lt_of_le hb h.size)).trans (h.block b hb hne)⟩
theorem Kp.set {g b j : Nat} {w w1 : World} (h : Kp g w w1) (hb : b = g ∨ w.heap.size ≤ b) (v : Value) : Kp g w (w1.setCell ⟨b, j, none⟩ v) := by
 have h1 := below_set (w := w1) (g := w1.heap.size) (j := j) (v := v) (Below.refl _ _) (Nat.le_refl _)
 refine ⟨h.os, h.tape, h.output, ?_, fun k hk hne => ?_⟩
 ·have : (w1.setCell ⟨b, j, none⟩ v).heap.size = w1.heap.size := by simp [World.setCell]
  rw [this]; exact h.size
 ·have hkb : k ≠ b := by rcases hb with rfl | hb; exact hne; omega
  exact (Below.heap_setCell w1 ⟨b, j, none⟩ v k hkb).trans (h.block k hk hne)
theorem Kp.blk {g b : Nat} {o : Obj} {w w1 : World} (h : Kp g w w1) (hb : w.heap[b]? = some o) (hne : b ≠ g) : w1.heap[b]? = some o := (h.block b (blk_lt hb) hne).trans hb
theorem setCells_block (g t : Nat) : ∀ (vs : List Value) (o : Nat) (w : World) (cur : Array Value), w.heap[g]? = some (.cells cur t (0, 0)) → ∃ cur2, (w.setCells g o vs).heap[g]? = some (.cells cur2 t (0, 0)) ∧ cur2.size = cur.size ∧ cur2.toList.take o = cur.toList.take o
 | [], o, w, cur, h => ⟨cur, h, rfl, rfl⟩
 | v :: r, o, w, cur, h => by
  obtain ⟨cur2, h1, h2, h3⟩ := setCells_block g t r (o + 1) (w.setCell ⟨g, o, none⟩ v) (cur.setIfInBounds o v) (blk_put h o v rfl)
  refine ⟨cur2, h1, by rw [h2, Array.size_setIfInBounds], ?_⟩
  have := congrArg (fun l => l.take o) h3
  simp only [List.take_take, Nat.min_eq_left (Nat.le_succ o), Array.toList_setIfInBounds, List.take_set_of_le (Nat.le_refl o)] at this
  exact this
theorem Kp.sets {g : Nat} {w : World} : ∀ (vs : List Value) (o : Nat) (w1 : World), Kp g w w1 → Kp g w (w1.setCells g o vs)
  | [], _, _, h => h
  | v :: r, o, w1, h => Kp.sets r (o + 1) _ (h.set (Or.inl rfl) v)
theorem run_clear_regs (w : World) (ty g i n c : Nat) (m : List S53) (rest : List Value) (hb : Bk w g m rest) (hi : i + n = m.length) (hn : 0 < n) :
  ∃ vs, (Builtin.clear_ #[22] ty #[.slice (some ⟨g, i * 2, none⟩) n c]).run Tryd.prog w = .ok (.tuple #[]) (w.setCells g (i * 2) vs) := by
 have hl := rowc_length m
 have hc : ∀ j, j < n * 2 → (w.cell? ⟨g, i * 2 + j, none⟩).isSome = true := fun j hj => by
  rw [blk_cell hb (i * 2 + j), List.getElem?_toArray, List.getElem?_append_left (by omega), List.getElem?_eq_getElem (by omega)]
  rfl
 have hz : ∀ w, (zeroValue 53).run Tryd.prog w = .ok (.agg #[.string (⟨#[]⟩ : ByteArray), .int .u64 0]) w := fun w => by kernel_rfl
 have hlen : (Builtin.zeroCells #[.string (⟨#[]⟩ : ByteArray), .int .u64 0] n).toList.length = n * 2 := by simp [Builtin.zeroCells]
 refine ⟨(Builtin.zeroCells #[.string (⟨#[]⟩ : ByteArray), .int .u64 0] n).toList, ?_⟩
 have hst := run_storeCells_cells (P := Tryd.prog) g (i * 2) (Builtin.zeroCells #[.string (⟨#[]⟩ : ByteArray), .int .u64 0] n).toList 0 w (fun j hj => hc j (by rw [hlen] at hj; exact hj)) (fun j _ => bF_ hb _) (by
  intro v hv
  simp only [Builtin.zeroCells, Array.toList_map, List.mem_map] at hv
  obtain ⟨q, _, rfl⟩ := hv
  have : q % 2 = 0 ∨ q % 2 = 1 := by omega
  rcases this with h | h <;> simp [h, Value.oneCell'])
 simp only [Nat.add_zero] at hst
 obtain ⟨k, rfl⟩ : ∃ k, n = k + 1 := ⟨n - 1, by omega⟩
 have hu := run_underlying (P := Tryd.prog) (t := 22) (d := _) Tryd.underlying22
 simp [Builtin.clear_, hu, hz, Value.cells, hst]
def Kt (w w1 : World) : Prop := ∀ (b t : Nat) (cs : Array Value), t ≠ 53 → w.heap[b]? = some (.cells cs t (0, 0)) → w1.heap[b]? = some (.cells cs t (0, 0))
theorem Kt.of_below {w w1 : World} (h : Below w.heap.size w w1) : Kt w w1 := fun _ _ _ _ hb => blk_below hb h
theorem Kt.of_kp {g : Nat} {m : List S53} {rest : List Value} {w w1 : World} (h : Kp g w w1) (hg : Bk w g m rest) : Kt w w1 := fun b t cs ht hb => h.blk hb (fun e => by
  subst e
  unfold Bk at hg
  rw [hb] at hg
  injection hg with hg
  injection hg with _ hg
  exact ht hg)
def DelK (base : Nat) (l : List S53) (w w1 : World) : Prop := Below w.heap.size w w1 ∨ ∃ g rest, base ≤ g ∧ Bk w g l rest ∧ Kp g w w1
theorem block_R2 {w : World} {base g i c : Nat} {q : List S53} {cur : Array Value} (hh : w.heap[g]? = some (.cells cur 53 (0, 0))) (hg : base ≤ g) (hs : cur.size = c * 2) (ht : cur.toList.take (i * 2) = rowc q) (hq : q.length = i) (hc : i ≤ c) (hm : c ≤ maxLen) : Kd.R k53 53 w base (fun _ => True) (.slice (some ⟨g, 0, none⟩) i c) q := by
  subst hq
  exact ⟨fun _ _ => trivial, rowc q, ⟨by rw [rowc_length]; rfl, Or.inr ⟨g, c, cur, rfl, hg, hh, hc, hm, hs, ht⟩⟩, rowc_reps _ _ _ _⟩
theorem row_addr (g i : Nat) : (⟨g, 0, none⟩ : Addr).add (i * 2) = ⟨g, i * 2, none⟩ := by
  unfold Addr.add
  by_cases hz : i * 2 = 0
  · rw [if_pos hz, hz]
  · rw [if_neg hz, Nat.zero_add]
theorem delete_itself (pred : ByteArray → Int → Bool) (gd : Nat) (base : Nat) (A : Option Addr) (c : Nat) (l : List S53) (w : World) (hr : Kd.R k53 53 w base (fun _ => True) (.slice A l.length c) l) (hn : l.length ≤ 1000) (hcl : ∀ (s : ByteArray) (ky : Int) (w1 : World), Kt w w1 → Calls Tryd.prog 53 #[.pointer (some ⟨gd, 0, none⟩), .agg #[.string s, .int .u64 ky]] w1 fun e w2 => e = .returned (.bool (pred s ky)) ∧ Below w1.heap.size w1 w2) :
  Calls Tryd.prog 65 #[.slice A l.length c, (.func (.func 53) #[.pointer (some ⟨gd, 0, none⟩)] #[])] w fun e w' => ∃ v, e = .returned v ∧ Kd.R k53 53 w' base (fun _ => True) v (l.filter fun x => !pred x.f0 x.f1) ∧ DelK base l w w' := by
 have hu53 := Tryd.underlying53
 have HR := aS_ hr
 have HN := aS_ hn
 have HCL := aS_ hcl
 clear hcl
 cases hi0 : l.findIdx? (fun x => pred x.f0 x.f1) with
 | none =>
  have HX := aS_ (show idxP pred l = -1 by unfold idxP; rw [hi0])
  have hfl : (l.filter fun x => !pred x.f0 x.f1) = l := by
   rw [List.filter_eq_self]
   intro x hx
   rw [List.findIdx?_eq_none_iff] at hi0
   rw [hi0 x hx]
   rfl
  rw [hfl]
  clear hi0 hfl hr hn
  go_enter Tryd.func65, Tryd.ntmps65
  go_wp2_with (first
   | (go_at_call 52; refine (index_itself pred gd _ c l _ (Kd.R_reads' HR.out).2.2 HN.out (fun s ky w1 hb => HCL.out s ky w1 (Kt.of_below hb))).mono ?_; rw [HX.out]; rintro e w1 ⟨rfl, hb⟩; have HB := aS_ hb; clear hb))
  go_ret
  exact ⟨_, rfl, Kd.R_below HR.out HB.out, Or.inl HB.out⟩
 | some i0 =>
  have HX := aS_ (show idxP pred l = (i0 : Int) by unfold idxP; rw [hi0])
  obtain ⟨hi1, hi2, hi3⟩ := List.findIdx?_eq_some_iff_getElem.mp hi0
  obtain ⟨ad, ea⟩ : ∃ ad, A = some ad := by
   cases A with
   | some ad => exact ⟨ad, rfl⟩
   | none =>
    obtain ⟨ad, h, _⟩ := (Kd.R_reads' hr).2.2.2.2 (by omega)
    cases h
  subst ea
  obtain ⟨g, rest, ead, hbg, hB0, _, hlc, hcm, hrl⟩ := R_block hr
  subst ead
  have HB0 := aS_ hB0
  have HG := aS_ (And.intro hbg (And.intro hlc (And.intro hcm hrl)))
  have d0 : ((i0 : Int) == -1) = false := beq_eq_false_iff_ne.mpr (by omega)
  have hw0 := deed_next i0 (by omega)
  have START := aS_ (show i0 < l.length ∧ l.take i0 = (l.take (i0 + 1)).filter (fun x => !pred x.f0 x.f1) by
   refine ⟨hi1, ?_⟩
   rw [List.take_add_one, List.getElem?_eq_getElem hi1, List.filter_append, List.filter_eq_self.mpr]
   ·have hp : pred l[i0].f0 l[i0].f1 = true := hi2
    simp [hp]
   ·intro x hx
    obtain ⟨q, hq, rfl⟩ := List.getElem_of_mem hx
    have hq1 : q < i0 := by have := hq; rw [List.length_take] at this; omega
    have := hi3 q hq1
    rw [List.getElem_take]
    simpa using this)
  clear hi0 hi1 hi2 hi3 hr hn hB0 hbg hlc hcm hrl
  go_enter Tryd.func65, Tryd.ntmps65
  go_wp2_with (first
   | (go_at_call 52; refine (index_itself pred gd _ c l _ (Kd.R_reads' HR.out).2.2 HN.out (fun s ky w1 hb => HCL.out s ky w1 (Kt.of_below hb))).mono ?_; rw [HX.out]; rintro e w1 ⟨rfl, hb⟩; have HB := aS_ hb; clear hb))
  have KP := aS_ ((Kp.refl g w).below HB.out)
  have BK := aS_ (show Bk w1 g l rest from blk_below HB0.out HB.out)
  clear HB
  go_loopw [5, 6] (fun iv jv wr => ∃ (i j : Nat) (m : List S53), iv = .int .i64 i ∧ jv = .int .i64 j ∧ Aside0 (i < j ∧ j ≤ l.length ∧ m.length = l.length ∧ m.take i = (l.take j).filter (fun x => !pred x.f0 x.f1) ∧ m.drop j = l.drop j) ∧ Aside0 (Bk wr g m rest) ∧ Aside0 (Kp g w wr)) (fun _ jv _ => l.length - (intOf jv).toNat)
  case atStart => exact ⟨i0, i0 + 1, l, rfl, hw0, ⟨Nat.lt_succ_self _, START.out.1, rfl, START.out.2, rfl⟩, BK, KP⟩
  case round =>
   clear BK KP hw0 d0
   obtain ⟨i, j, m, rfl, rfl, HI, BK, KP⟩ := hrel
   by_cases hlt : j < l.length
   ·have q0 : (j : Int) < (l.length : Int) := by omega
    have p0 : (0 : Int) ≤ (j : Int) := Int.natCast_nonneg j
    have p1 : (0 : Int) ≤ (i : Int) := Int.natCast_nonneg i
    have q1 : (i : Int) < (l.length : Int) := by have := HI.out.1; omega
    have d3 : decide ((j : Int) < (l.length : Int)) = true := decide_eq_true q0
    have JM := aS_ (show j < m.length by have := HI.out.2.2.1; omega)
    have IM := aS_ (show i < m.length by have := HI.out.1; have := HI.out.2.2.1; omega)
    have J1 := aS_ (show j ≤ 1000 by have := HN.out; omega)
    have I1 := aS_ (show i ≤ 1000 by have := HN.out; have := HI.out.1; omega)
    have HLT := aS_ hlt
    obtain ⟨hx0, hx1⟩ := Bk.cells BK.out j JM.out
    rw [row_addr] at hx0 hx1
    dsimp only at hx0 hx1
    obtain ⟨s, hs⟩ : ∃ s, s = (m[j]'JM.out).f0 := ⟨_, rfl⟩
    obtain ⟨ky, hky⟩ : ∃ ky, ky = (m[j]'JM.out).f1 := ⟨_, rfl⟩
    rw [← hs] at hx0
    rw [← hky] at hx1
    have hmj : m[j]'JM.out = (⟨s, ky⟩ : S53) := by rw [hs, hky]
    have hlj : l[j]'HLT.out = (⟨s, ky⟩ : S53) := by
     have h1 := HI.out.2.2.2.2
     rw [List.drop_eq_getElem_cons JM.out, List.drop_eq_getElem_cons hlt] at h1
     rw [← hmj]
     exact (List.cons.inj h1).1.symm
    have hdr : m.drop (j + 1) = l.drop (j + 1) := by
     have h1 := HI.out.2.2.2.2
     rw [List.drop_eq_getElem_cons JM.out, List.drop_eq_getElem_cons hlt] at h1
     exact (List.cons.inj h1).2
    have LJ := aS_ (And.intro hlj hdr)
    clear hs hky hmj hlj hdr hlt
    cases hq : pred s ky
    ·have HQ := aS_ hq
     go_wp2_with (first
      | ((with_reducible refine gate_dst (N := 7) rfl ?_); refine bX_ (N := 7) (cs := #[.string (⟨#[]⟩ : ByteArray), .int .u64 0]) (t := 53) ?hr ?_; (case hr => first | (go_simp; done) | (go_simp; rfl)); intro gr hg w5 hbox hb; have GR := aS_ (show w.heap.size ≤ gr by rw [hg]; exact KP.out.size); have NG := aS_ (show g ≠ gr by rw [hg]; exact Nat.ne_of_lt (blk_lt BK.out)); have n1_ := aS_ (KP.out.below hb); have n2_ := aS_ (show Bk w5 g m rest from blk_below BK.out hb); have BR := aS_ hbox; clear KP BK; have KP := n1_; have BK := n2_; have hcr0 : w5.cell? ⟨gr, 0, none⟩ = some (.string (⟨#[]⟩ : ByteArray)) := bC_ hbox 0 rfl; have hcr1 : w5.cell? ⟨gr, 1, none⟩ = some (.int .u64 0) := bC_ hbox 1 rfl; have hfr0 := bF_ hbox; clear n1_ n2_ hb hbox hg hx0 hx1)
      | (go_at_call 53; refine deed_call (fun w' => Aside0 (Kp g w w') ∧ Aside0 (Bk w' g m rest) ∧ Aside0 (w'.heap[gr]? = some (.cells #[.string s, .int .u64 ky] 53 (0, 0)))) ⟨⟨(KP.out.set (Or.inr GR.out) _).set (Or.inr GR.out) _⟩, ⟨blk_far (blk_far BK.out (p := ⟨gr, 0, none⟩) NG.out _) (p := ⟨gr, 1, none⟩) NG.out _⟩, ⟨blk_put (blk_put BR.out 0 _ rfl) 1 _ rfl⟩⟩ ?_; rintro w6 ⟨kp_, bk_1, br_⟩; clear KP BK BR hcr0 hcr1 hfr0; refine (HCL.out s ky _ (Kt.of_kp kp_.out HB0.out)).mono ?_; rw [HQ.out]; rintro e w7 ⟨rfl, hb⟩; have KP := aS_ (kp_.out.below hb); have BK := aS_ (show Bk w7 g m rest from blk_below bk_1.out hb); have BR := aS_ (blk_below br_.out hb); clear kp_ bk_1 br_ hb; have hcr0 : w7.cell? ⟨gr, 0, none⟩ = some (.string s) := bC_ BR.out 0 rfl; have hcr1 : w7.cell? ⟨gr, 1, none⟩ = some (.int .u64 ky) := bC_ BR.out 1 rfl; obtain ⟨hy0, hy1⟩ := Bk.cells BK.out i IM.out; have hfy := fun j => bF_ BK.out j; have e0_ := row_addr g i; rw [e0_] at hy0 hy1; dsimp only at hy0 hy1; clear e0_; have hfy0 := hfy (i * 2); have hfy1 := hfy (i * 2 + 1); clear hfy))
     go_roundw
     case rel =>
      refine ⟨i + 1, j + 1, m.set i (⟨s, ky⟩ : S53), deed_next i I1.out, deed_next j J1.out, ⟨Nat.succ_lt_succ HI.out.1, HLT.out, by rw [List.length_set]; exact HI.out.2.2.1, ?_, ?_⟩, ⟨BK.out.put i IM.out (⟨s, ky⟩ : S53)⟩, ⟨(KP.out.set (Or.inl rfl) _).set (Or.inl rfl) _⟩⟩
      ·rw [List.take_add_one, List.take_set_of_le (Nat.le_refl i), HI.out.2.2.2.1, List.getElem?_set_self IM.out, List.take_add_one (l := l), List.getElem?_eq_getElem HLT.out, LJ.out.1, List.filter_append]
       simp [HQ.out]
      ·rw [List.drop_set_of_lt (Nat.lt_succ_of_lt HI.out.1)]
       exact LJ.out.2
     case measure => exact deed_less j l.length J1.out HLT.out
    ·have HQ := aS_ hq
     go_wp2_with (first
      | ((with_reducible refine gate_dst (N := 7) rfl ?_); refine bX_ (N := 7) (cs := #[.string (⟨#[]⟩ : ByteArray), .int .u64 0]) (t := 53) ?hr ?_; (case hr => first | (go_simp; done) | (go_simp; rfl)); intro gr hg w5 hbox hb; have GR := aS_ (show w.heap.size ≤ gr by rw [hg]; exact KP.out.size); have NG := aS_ (show g ≠ gr by rw [hg]; exact Nat.ne_of_lt (blk_lt BK.out)); have n1_ := aS_ (KP.out.below hb); have n2_ := aS_ (show Bk w5 g m rest from blk_below BK.out hb); have BR := aS_ hbox; clear KP BK; have KP := n1_; have BK := n2_; have hcr0 : w5.cell? ⟨gr, 0, none⟩ = some (.string (⟨#[]⟩ : ByteArray)) := bC_ hbox 0 rfl; have hcr1 : w5.cell? ⟨gr, 1, none⟩ = some (.int .u64 0) := bC_ hbox 1 rfl; have hfr0 := bF_ hbox; clear n1_ n2_ hb hbox hg hx0 hx1)
      | (go_at_call 53; refine deed_call (fun w' => Aside0 (Kp g w w') ∧ Aside0 (Bk w' g m rest) ∧ Aside0 (w'.heap[gr]? = some (.cells #[.string s, .int .u64 ky] 53 (0, 0)))) ⟨⟨(KP.out.set (Or.inr GR.out) _).set (Or.inr GR.out) _⟩, ⟨blk_far (blk_far BK.out (p := ⟨gr, 0, none⟩) NG.out _) (p := ⟨gr, 1, none⟩) NG.out _⟩, ⟨blk_put (blk_put BR.out 0 _ rfl) 1 _ rfl⟩⟩ ?_; rintro w6 ⟨kp_, bk_1, br_⟩; clear KP BK BR hcr0 hcr1 hfr0; refine (HCL.out s ky _ (Kt.of_kp kp_.out HB0.out)).mono ?_; rw [HQ.out]; rintro e w7 ⟨rfl, hb⟩; have KP := aS_ (kp_.out.below hb); have BK := aS_ (show Bk w7 g m rest from blk_below bk_1.out hb); have BR := aS_ (blk_below br_.out hb); clear kp_ bk_1 br_ hb; have hcr0 : w7.cell? ⟨gr, 0, none⟩ = some (.string s) := bC_ BR.out 0 rfl; have hcr1 : w7.cell? ⟨gr, 1, none⟩ = some (.int .u64 ky) := bC_ BR.out 1 rfl))
     go_roundw
     case rel =>
      refine ⟨i, j + 1, m, rfl, deed_next j J1.out, ⟨Nat.lt_succ_of_lt HI.out.1, HLT.out, HI.out.2.2.1, ?_, LJ.out.2⟩, BK, KP⟩
      rw [HI.out.2.2.2.1, List.take_add_one, List.getElem?_eq_getElem HLT.out, LJ.out.1, List.filter_append]
      simp [HQ.out]
     case measure => exact deed_less j l.length J1.out HLT.out
   ·have hje : j = l.length := by have := HI.out.2.1; omega
    subst hje
    obtain ⟨h1, _, h3, h4, _⟩ := HI.out
    rw [List.take_length] at h4
    obtain ⟨hbg, hlc, hcm, hrl⟩ := HG.out
    obtain ⟨vs, hvs⟩ := run_clear_regs wr 0 g i (l.length - i) (c - i) m rest BK.out (by omega) (by omega)
    have d3 : decide ((l.length : Int) < (l.length : Int)) = false := decide_eq_false (by omega)
    have p1 : (0 : Int) ≤ (i : Int) := Int.natCast_nonneg i
    have q1 : (i : Int) ≤ (l.length : Int) := by omega
    have q2 : i ≤ l.length := by omega
    have q3 : (l.length : Int) ≤ (c : Int) := by omega
    have q4 : (i : Int) ≤ (c : Int) := by omega
    have q5 : (i = c) = False := eq_false (by omega)
    have q6 : (c = i) = False := eq_false (by omega)
    have q7 : (c - i = 0) = False := eq_false (by omega)
    have q8 : (c ≤ i) = False := eq_false (by omega)
    have q9 : ((i : Int) = (c : Int)) = False := eq_false (by omega)
    have KP2 := aS_ (KP.out.sets vs (i * 2))
    obtain ⟨cur2, hb2, hs2, ht2⟩ := setCells_block g 53 vs (i * 2) wr _ BK.out
    have HE := aS_ (And.intro (And.intro h1 (And.intro h3 h4)) (And.intro hb2 (And.intro hs2 ht2)))
    clear h1 h3 h4 hbg hlc hcm hrl hlt hb2 hs2 ht2
    go_wp2
    all_goals
     go_ret
     obtain ⟨⟨h1, h3, h4⟩, hb2, hs2, ht2⟩ := HE.out
     obtain ⟨hbg, hlc, hcm, hrl⟩ := HG.out
     refine ⟨_, rfl, ?_, Or.inr ⟨g, rest, hbg, HB0.out, KP2.out⟩⟩
     rw [← h4]
     exact block_R2 hb2 hbg (by rw [hs2, List.size_toArray, List.length_append, rowc_length]; omega) (by rw [ht2]; show (rowc m ++ rest).take (i * 2) = _; rw [List.take_append_of_le_length (by rw [rowc_length]; omega), rowc_take]) (by rw [List.length_take]; omega) (by omega) hcm
theorem delete_struck (pred : ByteArray → Int → Bool) (gp gq : Nat) (base : Nat) (A : Option Addr) (c : Nat) (l : List S53) (w : World) (hr : Kd.R k53 53 w base (fun _ => True) (.slice A l.length c) l) (hn : l.length ≤ 1000) (hcl : ∀ (s : ByteArray) (ky : Int) (w1 : World), Kt w w1 → Calls Tryd.prog 59 #[.agg #[.string s, .int .u64 ky], .pointer (some ⟨gp, 0, none⟩), .pointer (some ⟨gq, 0, none⟩)] w1 fun e w2 => e = .returned (.bool (pred s ky)) ∧ Below w1.heap.size w1 w2) :
  Calls Tryd.prog 65 #[.slice A l.length c, (.func (.func 59) #[] #[.pointer (some ⟨gp, 0, none⟩), .pointer (some ⟨gq, 0, none⟩)])] w fun e w' => ∃ v, e = .returned v ∧ Kd.R k53 53 w' base (fun _ => True) v (l.filter fun x => !pred x.f0 x.f1) ∧ DelK base l w w' := by
 have hu53 := Tryd.underlying53
 have HR := aS_ hr
 have HN := aS_ hn
 have HCL := aS_ hcl
 clear hcl
 cases hi0 : l.findIdx? (fun x => pred x.f0 x.f1) with
 | none =>
  have HX := aS_ (show idxP pred l = -1 by unfold idxP; rw [hi0])
  have hfl : (l.filter fun x => !pred x.f0 x.f1) = l := by
   rw [List.filter_eq_self]
   intro x hx
   rw [List.findIdx?_eq_none_iff] at hi0
   rw [hi0 x hx]
   rfl
  rw [hfl]
  clear hi0 hfl hr hn
  go_enter Tryd.func65, Tryd.ntmps65
  go_wp2_with (first
   | (go_at_call 52; refine (index_struck pred gp gq _ c l _ (Kd.R_reads' HR.out).2.2 HN.out (fun s ky w1 hb => HCL.out s ky w1 (Kt.of_below hb))).mono ?_; rw [HX.out]; rintro e w1 ⟨rfl, hb⟩; have HB := aS_ hb; clear hb))
  go_ret
  exact ⟨_, rfl, Kd.R_below HR.out HB.out, Or.inl HB.out⟩
 | some i0 =>
  have HX := aS_ (show idxP pred l = (i0 : Int) by unfold idxP; rw [hi0])
  obtain ⟨hi1, hi2, hi3⟩ := List.findIdx?_eq_some_iff_getElem.mp hi0
  obtain ⟨ad, ea⟩ : ∃ ad, A = some ad := by
   cases A with
   | some ad => exact ⟨ad, rfl⟩
   | none =>
    obtain ⟨ad, h, _⟩ := (Kd.R_reads' hr).2.2.2.2 (by omega)
    cases h
  subst ea
  obtain ⟨g, rest, ead, hbg, hB0, _, hlc, hcm, hrl⟩ := R_block hr
  subst ead
  have HB0 := aS_ hB0
  have HG := aS_ (And.intro hbg (And.intro hlc (And.intro hcm hrl)))
  have d0 : ((i0 : Int) == -1) = false := beq_eq_false_iff_ne.mpr (by omega)
  have hw0 := deed_next i0 (by omega)
  have START := aS_ (show i0 < l.length ∧ l.take i0 = (l.take (i0 + 1)).filter (fun x => !pred x.f0 x.f1) by
   refine ⟨hi1, ?_⟩
   rw [List.take_add_one, List.getElem?_eq_getElem hi1, List.filter_append, List.filter_eq_self.mpr]
   ·have hp : pred l[i0].f0 l[i0].f1 = true := hi2
    simp [hp]
   ·intro x hx
    obtain ⟨q, hq, rfl⟩ := List.getElem_of_mem hx
    have hq1 : q < i0 := by have := hq; rw [List.length_take] at this; omega
    have := hi3 q hq1
    rw [List.getElem_take]
    simpa using this)
  clear hi0 hi1 hi2 hi3 hr hn hB0 hbg hlc hcm hrl
  go_enter Tryd.func65, Tryd.ntmps65
  go_wp2_with (first
   | (go_at_call 52; refine (index_struck pred gp gq _ c l _ (Kd.R_reads' HR.out).2.2 HN.out (fun s ky w1 hb => HCL.out s ky w1 (Kt.of_below hb))).mono ?_; rw [HX.out]; rintro e w1 ⟨rfl, hb⟩; have HB := aS_ hb; clear hb))
  have KP := aS_ ((Kp.refl g w).below HB.out)
  have BK := aS_ (show Bk w1 g l rest from blk_below HB0.out HB.out)
  clear HB
  go_loopw [5, 6] (fun iv jv wr => ∃ (i j : Nat) (m : List S53), iv = .int .i64 i ∧ jv = .int .i64 j ∧ Aside0 (i < j ∧ j ≤ l.length ∧ m.length = l.length ∧ m.take i = (l.take j).filter (fun x => !pred x.f0 x.f1) ∧ m.drop j = l.drop j) ∧ Aside0 (Bk wr g m rest) ∧ Aside0 (Kp g w wr)) (fun _ jv _ => l.length - (intOf jv).toNat)
  case atStart => exact ⟨i0, i0 + 1, l, rfl, hw0, ⟨Nat.lt_succ_self _, START.out.1, rfl, START.out.2, rfl⟩, BK, KP⟩
  case round =>
   clear BK KP hw0 d0
   obtain ⟨i, j, m, rfl, rfl, HI, BK, KP⟩ := hrel
   by_cases hlt : j < l.length
   ·have q0 : (j : Int) < (l.length : Int) := by omega
    have p0 : (0 : Int) ≤ (j : Int) := Int.natCast_nonneg j
    have p1 : (0 : Int) ≤ (i : Int) := Int.natCast_nonneg i
    have q1 : (i : Int) < (l.length : Int) := by have := HI.out.1; omega
    have d3 : decide ((j : Int) < (l.length : Int)) = true := decide_eq_true q0
    have JM := aS_ (show j < m.length by have := HI.out.2.2.1; omega)
    have IM := aS_ (show i < m.length by have := HI.out.1; have := HI.out.2.2.1; omega)
    have J1 := aS_ (show j ≤ 1000 by have := HN.out; omega)
    have I1 := aS_ (show i ≤ 1000 by have := HN.out; have := HI.out.1; omega)
    have HLT := aS_ hlt
    obtain ⟨hx0, hx1⟩ := Bk.cells BK.out j JM.out
    rw [row_addr] at hx0 hx1
    dsimp only at hx0 hx1
    obtain ⟨s, hs⟩ : ∃ s, s = (m[j]'JM.out).f0 := ⟨_, rfl⟩
    obtain ⟨ky, hky⟩ : ∃ ky, ky = (m[j]'JM.out).f1 := ⟨_, rfl⟩
    rw [← hs] at hx0
    rw [← hky] at hx1
    have hmj : m[j]'JM.out = (⟨s, ky⟩ : S53) := by rw [hs, hky]
    have hlj : l[j]'HLT.out = (⟨s, ky⟩ : S53) := by
     have h1 := HI.out.2.2.2.2
     rw [List.drop_eq_getElem_cons JM.out, List.drop_eq_getElem_cons hlt] at h1
     rw [← hmj]
     exact (List.cons.inj h1).1.symm
    have hdr : m.drop (j + 1) = l.drop (j + 1) := by
     have h1 := HI.out.2.2.2.2
     rw [List.drop_eq_getElem_cons JM.out, List.drop_eq_getElem_cons hlt] at h1
     exact (List.cons.inj h1).2
    have LJ := aS_ (And.intro hlj hdr)
    clear hs hky hmj hlj hdr hlt
    cases hq : pred s ky
    ·have HQ := aS_ hq
     go_wp2_with (first
      | ((with_reducible refine gate_dst (N := 7) rfl ?_); refine bX_ (N := 7) (cs := #[.string (⟨#[]⟩ : ByteArray), .int .u64 0]) (t := 53) ?hr ?_; (case hr => first | (go_simp; done) | (go_simp; rfl)); intro gr hg w5 hbox hb; have GR := aS_ (show w.heap.size ≤ gr by rw [hg]; exact KP.out.size); have NG := aS_ (show g ≠ gr by rw [hg]; exact Nat.ne_of_lt (blk_lt BK.out)); have n1_ := aS_ (KP.out.below hb); have n2_ := aS_ (show Bk w5 g m rest from blk_below BK.out hb); have BR := aS_ hbox; clear KP BK; have KP := n1_; have BK := n2_; have hcr0 : w5.cell? ⟨gr, 0, none⟩ = some (.string (⟨#[]⟩ : ByteArray)) := bC_ hbox 0 rfl; have hcr1 : w5.cell? ⟨gr, 1, none⟩ = some (.int .u64 0) := bC_ hbox 1 rfl; have hfr0 := bF_ hbox; clear n1_ n2_ hb hbox hg hx0 hx1)
      | (go_at_call 59; refine deed_call (fun w' => Aside0 (Kp g w w') ∧ Aside0 (Bk w' g m rest) ∧ Aside0 (w'.heap[gr]? = some (.cells #[.string s, .int .u64 ky] 53 (0, 0)))) ⟨⟨(KP.out.set (Or.inr GR.out) _).set (Or.inr GR.out) _⟩, ⟨blk_far (blk_far BK.out (p := ⟨gr, 0, none⟩) NG.out _) (p := ⟨gr, 1, none⟩) NG.out _⟩, ⟨blk_put (blk_put BR.out 0 _ rfl) 1 _ rfl⟩⟩ ?_; rintro w6 ⟨kp_, bk_1, br_⟩; clear KP BK BR hcr0 hcr1 hfr0; refine (HCL.out s ky _ (Kt.of_kp kp_.out HB0.out)).mono ?_; rw [HQ.out]; rintro e w7 ⟨rfl, hb⟩; have KP := aS_ (kp_.out.below hb); have BK := aS_ (show Bk w7 g m rest from blk_below bk_1.out hb); have BR := aS_ (blk_below br_.out hb); clear kp_ bk_1 br_ hb; have hcr0 : w7.cell? ⟨gr, 0, none⟩ = some (.string s) := bC_ BR.out 0 rfl; have hcr1 : w7.cell? ⟨gr, 1, none⟩ = some (.int .u64 ky) := bC_ BR.out 1 rfl; obtain ⟨hy0, hy1⟩ := Bk.cells BK.out i IM.out; have hfy := fun j => bF_ BK.out j; have e0_ := row_addr g i; rw [e0_] at hy0 hy1; dsimp only at hy0 hy1; clear e0_; have hfy0 := hfy (i * 2); have hfy1 := hfy (i * 2 + 1); clear hfy))
     go_roundw
     case rel =>
      refine ⟨i + 1, j + 1, m.set i (⟨s, ky⟩ : S53), deed_next i I1.out, deed_next j J1.out, ⟨Nat.succ_lt_succ HI.out.1, HLT.out, by rw [List.length_set]; exact HI.out.2.2.1, ?_, ?_⟩, ⟨BK.out.put i IM.out (⟨s, ky⟩ : S53)⟩, ⟨(KP.out.set (Or.inl rfl) _).set (Or.inl rfl) _⟩⟩
      ·rw [List.take_add_one, List.take_set_of_le (Nat.le_refl i), HI.out.2.2.2.1, List.getElem?_set_self IM.out, List.take_add_one (l := l), List.getElem?_eq_getElem HLT.out, LJ.out.1, List.filter_append]
       simp [HQ.out]
      ·rw [List.drop_set_of_lt (Nat.lt_succ_of_lt HI.out.1)]
       exact LJ.out.2
     case measure => exact deed_less j l.length J1.out HLT.out
    ·have HQ := aS_ hq
     go_wp2_with (first
      | ((with_reducible refine gate_dst (N := 7) rfl ?_); refine bX_ (N := 7) (cs := #[.string (⟨#[]⟩ : ByteArray), .int .u64 0]) (t := 53) ?hr ?_; (case hr => first | (go_simp; done) | (go_simp; rfl)); intro gr hg w5 hbox hb; have GR := aS_ (show w.heap.size ≤ gr by rw [hg]; exact KP.out.size); have NG := aS_ (show g ≠ gr by rw [hg]; exact Nat.ne_of_lt (blk_lt BK.out)); have n1_ := aS_ (KP.out.below hb); have n2_ := aS_ (show Bk w5 g m rest from blk_below BK.out hb); have BR := aS_ hbox; clear KP BK; have KP := n1_; have BK := n2_; have hcr0 : w5.cell? ⟨gr, 0, none⟩ = some (.string (⟨#[]⟩ : ByteArray)) := bC_ hbox 0 rfl; have hcr1 : w5.cell? ⟨gr, 1, none⟩ = some (.int .u64 0) := bC_ hbox 1 rfl; have hfr0 := bF_ hbox; clear n1_ n2_ hb hbox hg hx0 hx1)
      | (go_at_call 59; refine deed_call (fun w' => Aside0 (Kp g w w') ∧ Aside0 (Bk w' g m rest) ∧ Aside0 (w'.heap[gr]? = some (.cells #[.string s, .int .u64 ky] 53 (0, 0)))) ⟨⟨(KP.out.set (Or.inr GR.out) _).set (Or.inr GR.out) _⟩, ⟨blk_far (blk_far BK.out (p := ⟨gr, 0, none⟩) NG.out _) (p := ⟨gr, 1, none⟩) NG.out _⟩, ⟨blk_put (blk_put BR.out 0 _ rfl) 1 _ rfl⟩⟩ ?_; rintro w6 ⟨kp_, bk_1, br_⟩; clear KP BK BR hcr0 hcr1 hfr0; refine (HCL.out s ky _ (Kt.of_kp kp_.out HB0.out)).mono ?_; rw [HQ.out]; rintro e w7 ⟨rfl, hb⟩; have KP := aS_ (kp_.out.below hb); have BK := aS_ (show Bk w7 g m rest from blk_below bk_1.out hb); have BR := aS_ (blk_below br_.out hb); clear kp_ bk_1 br_ hb; have hcr0 : w7.cell? ⟨gr, 0, none⟩ = some (.string s) := bC_ BR.out 0 rfl; have hcr1 : w7.cell? ⟨gr, 1, none⟩ = some (.int .u64 ky) := bC_ BR.out 1 rfl))
     go_roundw
     case rel =>
      refine ⟨i, j + 1, m, rfl, deed_next j J1.out, ⟨Nat.lt_succ_of_lt HI.out.1, HLT.out, HI.out.2.2.1, ?_, LJ.out.2⟩, BK, KP⟩
      rw [HI.out.2.2.2.1, List.take_add_one, List.getElem?_eq_getElem HLT.out, LJ.out.1, List.filter_append]
      simp [HQ.out]
     case measure => exact deed_less j l.length J1.out HLT.out
   ·have hje : j = l.length := by have := HI.out.2.1; omega
    subst hje
    obtain ⟨h1, _, h3, h4, _⟩ := HI.out
    rw [List.take_length] at h4
    obtain ⟨hbg, hlc, hcm, hrl⟩ := HG.out
    obtain ⟨vs, hvs⟩ := run_clear_regs wr 0 g i (l.length - i) (c - i) m rest BK.out (by omega) (by omega)
    have d3 : decide ((l.length : Int) < (l.length : Int)) = false := decide_eq_false (by omega)
    have p1 : (0 : Int) ≤ (i : Int) := Int.natCast_nonneg i
    have q1 : (i : Int) ≤ (l.length : Int) := by omega
    have q2 : i ≤ l.length := by omega
    have q3 : (l.length : Int) ≤ (c : Int) := by omega
    have q4 : (i : Int) ≤ (c : Int) := by omega
    have q5 : (i = c) = False := eq_false (by omega)
    have q6 : (c = i) = False := eq_false (by omega)
    have q7 : (c - i = 0) = False := eq_false (by omega)
    have q8 : (c ≤ i) = False := eq_false (by omega)
    have q9 : ((i : Int) = (c : Int)) = False := eq_false (by omega)
    have KP2 := aS_ (KP.out.sets vs (i * 2))
    obtain ⟨cur2, hb2, hs2, ht2⟩ := setCells_block g 53 vs (i * 2) wr _ BK.out
    have HE := aS_ (And.intro (And.intro h1 (And.intro h3 h4)) (And.intro hb2 (And.intro hs2 ht2)))
    clear h1 h3 h4 hbg hlc hcm hrl hlt hb2 hs2 ht2
    go_wp2
    all_goals
     go_ret
     obtain ⟨⟨h1, h3, h4⟩, hb2, hs2, ht2⟩ := HE.out
     obtain ⟨hbg, hlc, hcm, hrl⟩ := HG.out
     refine ⟨_, rfl, ?_, Or.inr ⟨g, rest, hbg, HB0.out, KP2.out⟩⟩
     rw [← h4]
     exact block_R2 hb2 hbg (by rw [hs2, List.size_toArray, List.length_append, rowc_length]; omega) (by rw [ht2]; show (rowc m ++ rest).take (i * 2) = _; rw [List.take_append_of_le_length (by rw [rowc_length]; omega), rowc_take]) (by rw [List.length_take]; omega) (by omega) hcm
theorem DelK.kt {base : Nat} {l : List S53} {w w1 : World} (h : DelK base l w w1) : Kt w w1 := by
  rcases h with h | ⟨g, rest, _, hb, hk⟩
  · exact Kt.of_below h
  · exact Kt.of_kp hk hb
theorem DelK.below {w0 w w1 : World} {l : List S53} (h : DelK w0.heap.size l w w1) (hb : Below w0.heap.size w0 w) : Below w0.heap.size w0 w1 := by
  rcases h with h | ⟨g, rest, hg, _, hk⟩
  · exact below_step hb h
  · exact ⟨hk.os.trans hb.os, hk.tape.trans hb.tape, hk.output.trans hb.output, Nat.le_trans hb.size hk.size, fun k hk1 => (hk.block k (Nat.lt_of_lt_of_le hk1 hb.size) (by omega)).trans (hb.block k hk1)⟩
theorem DelK.row {base base2 : Nat} {w w1 : World} {l : List S53} {ok : Nat → Prop} {v : Value} {xs : List S46} (h : DelK base l w w1) (hr : Kd.R k46 46 w base2 ok v xs) : Kd.R k46 46 w1 base2 ok v xs := by
  rcases h with h | ⟨g, rest, _, hb, hk⟩
  · exact Kd.R_below hr h
  · exact Kd.R_mono (Kd.R_step (Kd.R_types hr hb (by decide)) (fun k hok hlt => hk.block k hlt hok.2)) (fun _ hk => hk.1)
theorem Dd.del {w0 w w1 : World} {gd : Nat} {c : S31} {rg u ue v : Value} {l l' : List S53} {typ : Int} {host : ByteArray} {gen : Int} {apt : Bool} {ev : List S46} (h : Dd w0 w gd c rg u l typ host gen apt ue ev) (hk : DelK w0.heap.size l w w1) (hr : Kd.R k53 53 w1 w0.heap.size (fun _ => True) v l') : w1.heap[gd]? = some (.cells (dcells c rg u typ host gen apt ue) 66 (0, 0)) ∧ Dd w0 (w1.setCell ⟨gd, 14, none⟩ v) gd c rg v l' typ host gen apt ue ev := by
  have hb := hk.kt gd _ _ (by decide) h.b
  refine ⟨hb, h.o, blk_put hb 14 v rfl, Kd.R_mono (Kd.R_far (p := ⟨gd, 14, none⟩) (Kd.R_types hr hb (by decide)) (fun _ hk => hk.2) _) (fun _ hk => hk.1), Kd.R_mono (Kd.R_far (p := ⟨gd, 14, none⟩) (Kd.R_types (hk.row h.re) hb (by decide)) (fun _ hk => hk.2) _) (fun _ hk => hk.1), below_set (hk.below h.hb) h.o⟩
theorem drop_itself (w0 : World) (gd : Nat) (c : S31) (rg u ue : Value) (l : List S53) (ev : List S46) (typ : Int) (host : ByteArray) (gen : Int) (apt : Bool) (w : World) (hd : Dd w0 w gd c rg u l typ host gen apt ue ev) (hn : l.length ≤ 1000)  :
  Calls Tryd.prog 54 #[.pointer (some ⟨gd, 0, none⟩), (.func (.func 53) #[.pointer (some ⟨gd, 0, none⟩)] #[])] w fun e w' => e = .returned (.tuple #[]) ∧ (∃ u2, Dd w0 w' gd c rg u2 (l.filter fun x => !(fun s _ => s.toList == c.f2.toList) x.f0 x.f1) typ host gen apt ue ev) := by
 have D := aS_ hd
 obtain ⟨Au, cu, eu⟩ := Kd.R_slice hd.r
 subst eu
 have CON := aS_ (delete_itself (fun s _ => s.toList == c.f2.toList) gd w0.heap.size Au cu l w hd.r hn (fun s ky w1 ht => itself_calls gd c rg _ _ typ host gen apt s ky w1 (ht gd _ _ (by decide) D.out.b)))
 have hcd14 : w.cell? ⟨gd, 14, none⟩ = some (.slice Au l.length cu) := bC_ D.out.b 14 rfl
 clear hd hn
 go_enter Tryd.func54, Tryd.ntmps54
 go_wp2_with (first
  | (go_at_call 65; refine CON.out.mono ?_; rintro e w1 ⟨v, rfl, hr, hk⟩; obtain ⟨A1, c1, e1⟩ := Kd.R_slice hr; subst e1; obtain ⟨hb_, hd_⟩ := D.out.del hk hr; have D2 := aS_ hd_; clear hr hk hd_ CON hcd14; have hcd14 : w1.cell? ⟨gd, 14, none⟩ = some (.slice Au l.length cu) := bC_ hb_ 14 rfl; have hfd14 := bF_ hb_ 14; clear hb_))
 go_end0
 exact ⟨rfl, ⟨_, D2.out⟩⟩
theorem drop_struck (w0 : World) (gp gq : Nat) (gd : Nat) (whole : Bool) (c : S31) (rg u ue : Value) (l : List S53) (ev : List S46) (typ : Int) (host : ByteArray) (gen : Int) (apt : Bool) (w : World) (hd : Dd w0 w gd c rg u l typ host gen apt ue ev) (hn : l.length ≤ 1000) (hP : w.heap[gp]? = some (.cells #[.pointer (some ⟨gd, 0, none⟩)] 63 (0, 0))) (nP : gp ≠ gd) (hQ : w.heap[gq]? = some (.cells #[.bool whole] 4 (0, 0))) (nQ : gq ≠ gd) :
  Calls Tryd.prog 54 #[.pointer (some ⟨gd, 0, none⟩), (.func (.func 59) #[] #[.pointer (some ⟨gp, 0, none⟩), .pointer (some ⟨gq, 0, none⟩)])] w fun e w' => e = .returned (.tuple #[]) ∧ (∃ u2, Dd w0 w' gd c rg u2 (l.filter fun x => !(struckP c whole) x.f0 x.f1) typ host gen apt ue ev) ∧ w'.heap[gp]? = some (.cells #[.pointer (some ⟨gd, 0, none⟩)] 63 (0, 0)) ∧ w'.heap[gq]? = some (.cells #[.bool whole] 4 (0, 0)) := by
 have D := aS_ hd
 have BKP := aS_ hP
 have NGP := aS_ nP
 clear hP nP
 have BKQ := aS_ hQ
 have NGQ := aS_ nQ
 clear hQ nQ
 obtain ⟨Au, cu, eu⟩ := Kd.R_slice hd.r
 subst eu
 have CON := aS_ (delete_struck (struckP c whole) gp gq w0.heap.size Au cu l w hd.r hn (fun s ky w1 ht => struck_calls gd gp gq c rg _ _ typ host gen apt whole s ky w1 (ht gd _ _ (by decide) D.out.b) (ht gp _ _ (by decide) BKP.out) (ht gq _ _ (by decide) BKQ.out)))
 have hcd14 : w.cell? ⟨gd, 14, none⟩ = some (.slice Au l.length cu) := bC_ D.out.b 14 rfl
 clear hd hn
 go_enter Tryd.func54, Tryd.ntmps54
 go_wp2_with (first
  | (go_at_call 65; refine CON.out.mono ?_; rintro e w1 ⟨v, rfl, hr, hk⟩; obtain ⟨A1, c1, e1⟩ := Kd.R_slice hr; subst e1; obtain ⟨hb_, hd_⟩ := D.out.del hk hr; have D2 := aS_ hd_; have XP := aS_ (hk.kt gp _ _ (by decide) BKP.out); have XQ := aS_ (hk.kt gq _ _ (by decide) BKQ.out); clear hr hk hd_ CON hcd14; have hcd14 : w1.cell? ⟨gd, 14, none⟩ = some (.slice Au l.length cu) := bC_ hb_ 14 rfl; have hfd14 := bF_ hb_ 14; clear hb_))
 go_end0
 exact ⟨rfl, ⟨_, D2.out⟩, blk_far XP.out (p := ⟨gd, 14, none⟩) NGP.out _, blk_far XQ.out (p := ⟨gd, 14, none⟩) NGQ.out _⟩
theorem preempt_whole (k : Nat) (w0 : World) (gd : Nat) (c : S31) (rg u ue : Value) (l : List S53) (ev : List S46) (typ : Int) (host : ByteArray) (gen : Int) (apt : Bool) (kk : Int) (w : World) (hd : Dd w0 w gd c rg u l typ host gen apt ue ev) (hk : resv_Key.f k l typ host gen apt c.f2 = some kk) (ht : access_Type.f c.f11 = some true) (ha : (kk != 0 && kk == c.f8) = true) (he : resv_everybody.f typ = some true) (h0 : c.f10 = 0) (hn : l.length ≤ 1000) (hev : ev.length ≤ 1000) :
  Calls Tryd.prog 34 #[.pointer (some ⟨gd, 0, none⟩)] w fun e w' => e = .returned (.int .i64 1) ∧ ∃ u2 ue2, Dd w0 w' gd c rg u2 (l.filter fun x => !struckP c true x.f0 x.f1) c.f11 (takenBy c) ((gen + 1) % 4294967296) apt ue2 (ev ++ told c (struckP c true) 2 l l.length) := by
 have hu66 := Tryd.underlying66
 have hu31 := Tryd.underlying31
 have hu27 := Tryd.underlying27
 have hu24 := Tryd.underlying24
 have D := aS_ hd
 have HK := aS_ hk
 have HN := aS_ hn
 have HEV := aS_ hev
 clear hn hev
 have HT := aS_ ht
 clear ht
 have HA := aS_ ha
 clear ha
 have HE := aS_ he
 have hmf : ∀ (fn : Fn) (first cap : Array Value) (w : World), (Instr.makeFunc fn first cap).run Tryd.prog w = .ok (.func fn first cap) w := fun _ _ _ _ => rfl
 have d0 : (c.f10 == 0) = true := beq_iff_eq.mpr h0
 clear he h0
 obtain ⟨Au, cu, eu⟩ := Kd.R_slice hd.r
 subst eu
 clear hd hk
 go_enter Tryd.func34, Tryd.ntmps34
 go_wp2_with (first
  | ((with_reducible refine gate_dst (N := 1) rfl ?_); refine bX_ (N := 1) (cs := #[.pointer (some ⟨gd, 0, none⟩)]) (t := 63) ?hr ?_; (case hr => first | (go_simp; done) | (go_simp; rfl)); intro gp hg w0_ hbox hb; have NP_ := aS_ (show gp ≠ gd by rw [hg]; exact Ne.symm (Nat.ne_of_lt (blk_lt D.out.b))); have n1_ := aS_ (D.out.below hb); clear D; have D := n1_; have BKP := aS_ hbox; have hcp : w0_.cell? ⟨gp, 0, none⟩ = some (.pointer (some ⟨gd, 0, none⟩)) := bC_ hbox 0 rfl; have hcd11 : w0_.cell? ⟨gd, 11, none⟩ = some (.int .i64 c.f11) := bC_ D.out.b 11 rfl; clear n1_ hb hbox hg)
  | (go_at_call 45; refine (access_Type.calls c.f11 true _ HT.out).mono ?_; rintro e w1 ⟨rfl, hd⟩; have hb_ := hd.below; have n1_ := aS_ (D.out.below hb_); clear D hd hcd11; have D := n1_; clear n1_; have x1_ := aS_ (blk_below BKP.out hb_); clear BKP hcp; have BKP := x1_; clear x1_; have hcp : w1.cell? ⟨gp, 0, none⟩ = some (.pointer (some ⟨gd, 0, none⟩)) := bC_ BKP.out 0 rfl; clear hb_)
  | (go_at_call 57; refine (asks_calls k w0 gd c rg _ _ l ev typ host gen apt kk _ D.out HK.out).mono ?_; rw [HA.out]; rintro e w2 ⟨rfl, hb_⟩; have n1_ := aS_ (D.out.below hb_); clear D; have D := n1_; clear n1_; have x1_ := aS_ (blk_below BKP.out hb_); clear BKP hcp; have BKP := x1_; clear x1_; have hcp : w2.cell? ⟨gp, 0, none⟩ = some (.pointer (some ⟨gd, 0, none⟩)) := bC_ BKP.out 0 rfl; clear hb_; have hcd15 : w2.cell? ⟨gd, 15, none⟩ = some (.int .i64 typ) := bC_ D.out.b 15 rfl; have hcd10 : w2.cell? ⟨gd, 10, none⟩ = some (.int .u64 c.f10) := bC_ D.out.b 10 rfl)
  | (go_at_call 46; refine (resv_everybody.calls typ true _ HE.out).mono ?_; rintro e w3 ⟨rfl, hd⟩; have hb_ := hd.below; have n1_ := aS_ (D.out.below hb_); clear D hd hcd15 hcd10; have D := n1_; clear n1_; have x1_ := aS_ (blk_below BKP.out hb_); clear BKP hcp; have BKP := x1_; clear x1_; have hcp : w3.cell? ⟨gp, 0, none⟩ = some (.pointer (some ⟨gd, 0, none⟩)) := bC_ BKP.out 0 rfl; clear hb_; have hcd15 : w3.cell? ⟨gd, 15, none⟩ = some (.int .i64 typ) := bC_ D.out.b 15 rfl; have hcd10 : w3.cell? ⟨gd, 10, none⟩ = some (.int .u64 c.f10) := bC_ D.out.b 10 rfl)
  | ((with_reducible refine gate_dst (N := 3) rfl ?_); refine bX_ (N := 3) (cs := #[.bool false]) (t := 4) ?hr ?_; (case hr => first | (go_simp; done) | (go_simp; rfl)); intro gq hg w4 hbox hb; have NQ_ := aS_ (show gq ≠ gd by rw [hg]; exact Ne.symm (Nat.ne_of_lt (blk_lt D.out.b))); have NPQ := aS_ (show gp ≠ gq by rw [hg]; exact Nat.ne_of_lt (blk_lt BKP.out)); have GQ := aS_ (show w3.heap.size ≤ gq by rw [hg]; exact Nat.le_refl _); have BW := aS_ hb; have BKQ := aS_ hbox; have hcq : w4.cell? ⟨gq, 0, none⟩ = some (.bool false) := bC_ hbox 0 rfl; have hfq := bF_ hbox 0; clear hb hbox hg hcp hcd15 hcd10)
  | ((with_reducible refine gate_dst (N := 33) rfl ?_); refine good_world (fun w' => Aside0 (Below w3.heap.size w3 w') ∧ Aside0 (w'.heap[gq]? = some (.cells #[.bool true] 4 (0, 0)))) ⟨⟨below_set BW.out GQ.out⟩, ⟨blk_put BKQ.out 0 _ rfl⟩⟩ ?_; rintro w5 ⟨hbw, hbq⟩; clear BW BKQ hcq hfq GQ; have BKQ := hbq; have n1_ := aS_ (D.out.below hbw.out); have n2_ := aS_ (blk_below BKP.out hbw.out); clear D BKP hbw hbq; have D := n1_; have BKP := n2_; clear n1_ n2_))
 have n1_ := aS_ (D.out.below (below_drew (Below.refl _ _)))
 have n2_ := aS_ (blk_drew BKP.out)
 have n3_ := aS_ (blk_drew BKQ.out)
 clear D BKP BKQ
 have D := n1_
 have BKP := n2_
 have BKQ := n3_
 clear n1_ n2_ n3_
 refine start_ (n := 30) (S := fun w' => w'.cell? ⟨gq, 0, none⟩ = some (.bool true)) (ds := []) #[false, false, false, false, false, false, false, false, false, false, false, false, false, false, false, false, false, false, false, false, false, false, false, false, false, false, false, false, false, false] (by kernel_rfl) rfl rfl (bC_ BKQ.out 0 rfl) (fun hHeld => ?_)
 generalize w5.drew = w6 at D BKP BKQ hHeld ⊢
 refine qtk_ 0 (some 34) (dB 30 1) hHeld ?_
 refine qon_ 1 (some 35) (dB 30 3) ?_
 refine qof_ 2 (some 36) (dB 30 7) ?_
 refine qof_ 3 (some 37) (dB 30 15) ?_
 refine qof_ 4 (some 38) (dB 30 31) ?_
 refine qof_ 5 (some 39) (dB 30 63) ?_
 refine qof_ 6 (some 40) (dB 30 127) ?_
 refine qof_ 7 (some 41) (dB 30 255) ?_
 refine qof_ 8 (some 42) (dB 30 511) ?_
 refine qof_ 9 (some 43) (dB 30 1023) ?_
 refine qof_ 10 (some 44) (dB 30 2047) ?_
 refine qof_ 11 (some 45) (dB 30 4095) ?_
 refine qof_ 12 (some 46) (dB 30 8191) ?_
 refine qof_ 13 (some 47) (dB 30 16383) ?_
 refine qof_ 14 (some 48) (dB 30 32767) ?_
 refine qof_ 15 (some 49) (dB 30 65535) ?_
 refine qof_ 16 (some 50) (dB 30 131071) ?_
 refine qof_ 17 (some 51) (dB 30 262143) ?_
 refine qof_ 18 (some 52) (dB 30 524287) ?_
 refine qof_ 19 (some 53) (dB 30 1048575) ?_
 refine qof_ 20 (some 54) (dB 30 2097151) ?_
 refine qof_ 21 (some 55) (dB 30 4194303) ?_
 refine qof_ 22 (some 56) (dB 30 8388607) ?_
 refine qof_ 23 (some 57) (dB 30 16777215) ?_
 refine qof_ 24 (some 58) (dB 30 33554431) ?_
 refine qof_ 25 (some 59) (dB 30 67108863) ?_
 refine qof_ 26 (some 60) (dB 30 134217727) ?_
 refine qof_ 27 (some 61) (dB 30 268435455) ?_
 refine qon_ 28 (some 62) (dB 30 536870911) ?_
 refine qon_ 29 (some 5) (dB 30 1073741823) ?_
 refine done_ (by kernel_rfl) ?_
 have hcp : w6.cell? ⟨gp, 0, none⟩ = some (.pointer (some ⟨gd, 0, none⟩)) := bC_ BKP.out 0 rfl
 go_wp2_with (first
  | (go_at_call 55; refine (tell_struck w0 gd gp gq true c rg _ _ l ev typ host gen apt 2 _ D.out HN.out HEV.out BKP.out NP_.out BKQ.out NQ_.out).mono ?_; rintro e w7 ⟨rfl, hd_, hp_, hq_⟩; obtain ⟨ue2, hd2_⟩ := hd_.out; clear D BKP BKQ hd_ hcp; have D := aS_ hd2_; have BKP := hp_; have BKQ := hq_; clear hd2_; have hcp : w7.cell? ⟨gp, 0, none⟩ = some (.pointer (some ⟨gd, 0, none⟩)) := bC_ BKP.out 0 rfl)
  | (go_at_call 54; refine (drop_struck w0 gp gq gd true c rg _ _ l _ typ host gen apt _ D.out HN.out BKP.out NP_.out BKQ.out NQ_.out).mono ?_; rintro e w8 ⟨rfl, ⟨u2, hd2_⟩, hp_, hq_⟩; clear D BKP BKQ hcp; have D := aS_ hd2_; have BKP := aS_ hp_; have BKQ := aS_ hq_; clear hd2_ hp_ hq_; have hcp : w8.cell? ⟨gp, 0, none⟩ = some (.pointer (some ⟨gd, 0, none⟩)) := bC_ BKP.out 0 rfl; have hcd17 : w8.cell? ⟨gd, 17, none⟩ = some (.int .u32 gen) := bC_ D.out.b 17 rfl; have hfd17 := bF_ D.out.b 17)
  | (go_at_call 58; refine deed_call (fun w' => Aside0 (Dd w0 w' gd c rg u2 _ typ host ((gen + 1) % 4294967296) apt ue2 _)) ⟨D.out.put 17 _ rfl⟩ ?_; intro w9 D9_; clear D hcd17 hfd17; refine (take_calls w0 gd c rg _ _ _ _ typ host _ apt _ D9_.out).mono ?_; rintro e w10 ⟨rfl, hd⟩; have D := aS_ hd; clear D9_ hd))
 go_ret
 exact ⟨rfl, _, _, D.out⟩
theorem preempt_takes (k : Nat) (w0 : World) (gd : Nat) (c : S31) (rg u ue : Value) (l : List S53) (ev : List S46) (typ : Int) (host : ByteArray) (gen : Int) (apt : Bool) (kk : Int) (w : World) (hd : Dd w0 w gd c rg u l typ host gen apt ue ev) (hk : resv_Key.f k l typ host gen apt c.f2 = some kk) (eb : Bool) (ht : access_Type.f c.f11 = some true) (ha : (kk != 0 && kk == c.f8) = true) (he : resv_everybody.f typ = some eb) (h0 : (eb && c.f10 == 0) = false) (hho : host.toList ≠ ([] : List UInt8)) (kh : Int) (hkh : resv_Key.f k l typ host gen apt host = some kh) (hkk : kh = c.f10) (hn : l.length ≤ 1000) (hev : ev.length ≤ 1000) :
    Calls Tryd.prog 34 #[.pointer (some ⟨gd, 0, none⟩)] w fun e w' => e = .returned (.int .i64 1) ∧ ∃ u2 ue2, Dd w0 w' gd c rg u2 (l.filter fun x => !struckP c false x.f0 x.f1) c.f11 (takenBy c) ((gen + 1) % 4294967296) apt ue2 (ev ++ told c (struckP c false) 2 l l.length) := by
  have hu66 := Tryd.underlying66
  have hu31 := Tryd.underlying31
  have hu27 := Tryd.underlying27
  have hu24 := Tryd.underlying24
  have D := aS_ hd
  have HK := aS_ hk
  have HN := aS_ hn
  have HEV := aS_ hev
  clear hn hev
  have HT := aS_ ht
  clear ht
  have HA := aS_ ha
  clear ha
  have hmf : ∀ (fn : Fn) (first cap : Array Value) (w : World), (Instr.makeFunc fn first cap).run Tryd.prog w = .ok (.func fn first cap) w := fun _ _ _ _ => rfl
  have HE := aS_ he
  have HKH := aS_ hkh
  have d1 : (host.toList == ([] : List UInt8)) = false := beq_eq_false_iff_ne.mpr hho
  have d2 : (host.toList = ([] : List UInt8)) = False := eq_false hho
  have d3 : (kh == c.f10) = true := beq_iff_eq.mpr hkk
  clear he hkh hho hkk
  obtain ⟨Au, cu, eu⟩ := Kd.R_slice hd.r
  subst eu
  clear hd hk
  cases eb
  · clear h0
    go_enter Tryd.func34, Tryd.ntmps34
    go_wp2_with (first
      | ((with_reducible refine gate_dst (N := 1) rfl ?_); refine bX_ (N := 1) (cs := #[.pointer (some ⟨gd, 0, none⟩)]) (t := 63) ?hr ?_; (case hr => first | (go_simp; done) | (go_simp; rfl)); intro gp hg w0_ hbox hb; have NP_ := aS_ (show gp ≠ gd by rw [hg]; exact Ne.symm (Nat.ne_of_lt (blk_lt D.out.b))); have n1_ := aS_ (D.out.below hb); clear D; have D := n1_; have BKP := aS_ hbox; have hcp : w0_.cell? ⟨gp, 0, none⟩ = some (.pointer (some ⟨gd, 0, none⟩)) := bC_ hbox 0 rfl; have hcd11 : w0_.cell? ⟨gd, 11, none⟩ = some (.int .i64 c.f11) := bC_ D.out.b 11 rfl; clear n1_ hb hbox hg)
      | (go_at_call 45; refine (access_Type.calls c.f11 true _ HT.out).mono ?_; rintro e w1 ⟨rfl, hd⟩; have hb_ := hd.below; have n1_ := aS_ (D.out.below hb_); clear D hd hcd11; have D := n1_; clear n1_; have x1_ := aS_ (blk_below BKP.out hb_); clear BKP hcp; have BKP := x1_; clear x1_; have hcp : w1.cell? ⟨gp, 0, none⟩ = some (.pointer (some ⟨gd, 0, none⟩)) := bC_ BKP.out 0 rfl; clear hb_)
      | (go_at_call 57; refine (asks_calls k w0 gd c rg _ _ l ev typ host gen apt kk _ D.out HK.out).mono ?_; rw [HA.out]; rintro e w2 ⟨rfl, hb_⟩; have n1_ := aS_ (D.out.below hb_); clear D; have D := n1_; clear n1_; have x1_ := aS_ (blk_below BKP.out hb_); clear BKP hcp; have BKP := x1_; clear x1_; have hcp : w2.cell? ⟨gp, 0, none⟩ = some (.pointer (some ⟨gd, 0, none⟩)) := bC_ BKP.out 0 rfl; clear hb_; have hcd15 : w2.cell? ⟨gd, 15, none⟩ = some (.int .i64 typ) := bC_ D.out.b 15 rfl; have hcd10 : w2.cell? ⟨gd, 10, none⟩ = some (.int .u64 c.f10) := bC_ D.out.b 10 rfl)
      | (go_at_call 46; refine (resv_everybody.calls typ false _ HE.out).mono ?_; rintro e w3 ⟨rfl, hd⟩; have hb_ := hd.below; have n1_ := aS_ (D.out.below hb_); clear D hd hcd15 hcd10; have D := n1_; clear n1_; have x1_ := aS_ (blk_below BKP.out hb_); clear BKP hcp; have BKP := x1_; clear x1_; have hcp : w3.cell? ⟨gp, 0, none⟩ = some (.pointer (some ⟨gd, 0, none⟩)) := bC_ BKP.out 0 rfl; clear hb_; have hcd15 : w3.cell? ⟨gd, 15, none⟩ = some (.int .i64 typ) := bC_ D.out.b 15 rfl; have hcd10 : w3.cell? ⟨gd, 10, none⟩ = some (.int .u64 c.f10) := bC_ D.out.b 10 rfl)
      | ((with_reducible refine gate_dst (N := 3) rfl ?_); refine bX_ (N := 3) (cs := #[.bool false]) (t := 4) ?hr ?_; (case hr => first | (go_simp; done) | (go_simp; rfl)); intro gq hg w4 hbox hb; have NQ_ := aS_ (show gq ≠ gd by rw [hg]; exact Ne.symm (Nat.ne_of_lt (blk_lt D.out.b))); have NPQ := aS_ (show gp ≠ gq by rw [hg]; exact Nat.ne_of_lt (blk_lt BKP.out)); have GQ := aS_ (show w3.heap.size ≤ gq by rw [hg]; exact Nat.le_refl _); have BW := aS_ hb; have BKQ := aS_ hbox; have hcq : w4.cell? ⟨gq, 0, none⟩ = some (.bool false) := bC_ hbox 0 rfl; have hfq := bF_ hbox 0; clear hb hbox hg hcp hcd15 hcd10)
      | ((with_reducible refine gate_dst (N := 33) rfl ?_); refine good_world (fun w' => Aside0 (Below w3.heap.size w3 w') ∧ Aside0 (w'.heap[gq]? = some (.cells #[.bool false] 4 (0, 0)))) ⟨⟨below_set BW.out GQ.out⟩, ⟨blk_put BKQ.out 0 _ rfl⟩⟩ ?_; rintro w5 ⟨hbw, hbq⟩; clear BW BKQ hcq hfq GQ; have BKQ := hbq; have n1_ := aS_ (D.out.below hbw.out); have n2_ := aS_ (blk_below BKP.out hbw.out); clear D BKP hbw hbq; have D := n1_; have BKP := n2_; clear n1_ n2_))
    have n1_ := aS_ (D.out.below (below_drew (Below.refl _ _)))
    have n2_ := aS_ (blk_drew BKP.out)
    have n3_ := aS_ (blk_drew BKQ.out)
    clear D BKP BKQ
    have D := n1_
    have BKP := n2_
    have BKQ := n3_
    clear n1_ n2_ n3_
    refine start_ (n := 30) (S := fun w' => w'.cell? ⟨gq, 0, none⟩ = some (.bool false) ∧ w'.cell? ⟨gp, 0, none⟩ = some (.pointer (some ⟨gd, 0, none⟩)) ∧ w'.cell? ⟨gd, 14, none⟩ = some (.slice Au l.length cu) ∧ w'.cell? ⟨gd, 15, none⟩ = some (.int .i64 typ) ∧ w'.cell? ⟨gd, 16, none⟩ = some (.string host) ∧ w'.cell? ⟨gd, 17, none⟩ = some (.int .u32 gen) ∧ w'.cell? ⟨gd, 18, none⟩ = some (.bool apt) ∧ w'.cell? ⟨gd, 10, none⟩ = some (.int .u64 c.f10)) (ds := []) #[false, false, false, false, false, false, false, false, false, false, false, false, false, false, false, false, false, false, false, false, false, false, false, false, false, false, false, false, false, false] (by kernel_rfl) rfl rfl ⟨bC_ BKQ.out 0 rfl, bC_ BKP.out 0 rfl, bC_ D.out.b 14 rfl, bC_ D.out.b 15 rfl, bC_ D.out.b 16 rfl, bC_ D.out.b 17 rfl, bC_ D.out.b 18 rfl, bC_ D.out.b 10 rfl⟩ (fun hHeld => ?_)
    generalize w5.drew = w6 at D BKP BKQ hHeld ⊢
    refine qtk_ 0 (some 34) (dB 30 1) hHeld ?_
    refine qon_ 1 (some 35) (dB 30 3) ?_
    refine qtk_ 2 (some 36) (dB 30 7) hHeld ?_
    refine qon_ 3 (some 37) (dB 30 15) ?_
    refine qon_ 4 (some 38) (dB 30 31) ?_
    refine qon_ 5 (some 39) (dB 30 63) ?_
    refine qon_ 6 (some 40) (dB 30 127) ?_
    refine qtk_ 7 (some 41) (dB 30 255) hHeld ?_
    refine qon_ 8 (some 42) (dB 30 511) ?_
    refine qon_ 9 (some 43) (dB 30 1023) ?_
    refine qtk_ 10 (some 44) (dB 30 2047) hHeld ?_
    refine qon_ 11 (some 45) (dB 30 4095) ?_
    refine qon_ 12 (some 46) (dB 30 8191) ?_
    refine qtk_ 13 (some 47) (dB 30 16383) hHeld ?_
    refine qtk_ 14 (some 48) (dB 30 32767) hHeld ?_
    refine qon_ 15 (some 49) (dB 30 65535) ?_
    refine qon_ 16 (some 50) (dB 30 131071) ?_
    refine qon_ 17 (some 51) (dB 30 262143) ?_
    refine qon_ 18 (some 52) (dB 30 524287) ?_
    refine qtk_ 19 (some 53) (dB 30 1048575) hHeld ?_
    refine qtk_ 21 (some 55) (dB 30 3145727) hHeld ?_
    refine qon_ 22 (some 56) (dB 30 7340031) ?_
    refine qon_ 23 (some 57) (dB 30 15728639) ?_
    refine qon_ 24 (some 58) (dB 30 32505855) ?_
    refine qtk_ 25 (some 59) (dB 30 66060287) hHeld ?_
    refine one_ (i := 20) (N := some 54) (dB 30 67108863) rfl rfl (by kernel_rfl) (by decide) (fun K hK => ?_)
    refine goes_ Tryd.func24 (by kernel_rfl) rfl #[.agg #[.slice Au l.length cu, .int .i64 typ, .string host, .int .u32 gen, .bool apt], .string host] (by rfl) rfl rfl (by simp only [List.map_toArray, List.map_cons, List.map_nil]; rfl) ?_
    with_reducible refine (resv_Key.calls k Au cu l typ host gen apt host kh _ (Kd.R_reads' D.out.r).2.2 (Kd.R_reads' D.out.r).2.1 HKH.out).mono ?_
    rintro e_ w66 ⟨rfl, hb⟩
    have n1_ := aS_ (D.out.below hb)
    have n2_ := aS_ (blk_below BKP.out hb)
    have n3_ := aS_ (blk_below BKQ.out hb)
    clear D BKP BKQ hb
    have D := n1_
    have BKP := n2_
    have BKQ := n3_
    clear n1_ n2_ n3_
    refine ⟨_, rfl, ?_⟩
    refine hK.out _ _ ⟨bC_ BKQ.out 0 rfl, bC_ BKP.out 0 rfl, bC_ D.out.b 14 rfl, bC_ D.out.b 15 rfl, bC_ D.out.b 16 rfl, bC_ D.out.b 17 rfl, bC_ D.out.b 18 rfl, bC_ D.out.b 10 rfl⟩ (fun hHeld => ?_)
    clear hK K
    refine norm_ (a' := ?_) ?_ ?_
    rotate_left
    ·show Act.put _ (some 54) _ = _
     simp only [Act.put, la_, lb_, lc_, i64_w, i32_w]
     rfl
    refine qon_ 26 (some 60) (dB 30 134217727) ?_
    refine qon_ 27 (some 61) (dB 30 268435455) ?_
    refine qon_ 28 (some 62) (dB 30 536870911) ?_
    refine qon_ 29 (some 5) (dB 30 1073741823) ?_
    refine done_ (by kernel_rfl) ?_
    have hcp : w66.cell? ⟨gp, 0, none⟩ = some (.pointer (some ⟨gd, 0, none⟩)) := bC_ BKP.out 0 rfl
    go_wp2_with (first
      | (go_at_call 55; refine (tell_struck w0 gd gp gq false c rg _ _ l ev typ host gen apt 2 _ D.out HN.out HEV.out BKP.out NP_.out BKQ.out NQ_.out).mono ?_; rintro e w7 ⟨rfl, hd_, hp_, hq_⟩; obtain ⟨ue2, hd2_⟩ := hd_.out; clear D BKP BKQ hd_ hcp; have D := aS_ hd2_; have BKP := hp_; have BKQ := hq_; clear hd2_; have hcp : w7.cell? ⟨gp, 0, none⟩ = some (.pointer (some ⟨gd, 0, none⟩)) := bC_ BKP.out 0 rfl)
      | (go_at_call 54; refine (drop_struck w0 gp gq gd false c rg _ _ l _ typ host gen apt _ D.out HN.out BKP.out NP_.out BKQ.out NQ_.out).mono ?_; rintro e w8 ⟨rfl, ⟨u2, hd2_⟩, hp_, hq_⟩; clear D BKP BKQ hcp; have D := aS_ hd2_; have BKP := aS_ hp_; have BKQ := aS_ hq_; clear hd2_ hp_ hq_; have hcp : w8.cell? ⟨gp, 0, none⟩ = some (.pointer (some ⟨gd, 0, none⟩)) := bC_ BKP.out 0 rfl; have hcd17 : w8.cell? ⟨gd, 17, none⟩ = some (.int .u32 gen) := bC_ D.out.b 17 rfl; have hfd17 := bF_ D.out.b 17)
      | (go_at_call 58; refine deed_call (fun w' => Aside0 (Dd w0 w' gd c rg u2 _ typ host ((gen + 1) % 4294967296) apt ue2 _)) ⟨D.out.put 17 _ rfl⟩ ?_; intro w9 D9_; clear D hcd17 hfd17; refine (take_calls w0 gd c rg _ _ _ _ typ host _ apt _ D9_.out).mono ?_; rintro e w10 ⟨rfl, hd⟩; have D := aS_ hd; clear D9_ hd))
    go_ret
    exact ⟨rfl, _, _, D.out⟩
  · have d0 : (c.f10 == 0) = false := by simpa using h0
    clear h0
    go_enter Tryd.func34, Tryd.ntmps34
    go_wp2_with (first
      | ((with_reducible refine gate_dst (N := 1) rfl ?_); refine bX_ (N := 1) (cs := #[.pointer (some ⟨gd, 0, none⟩)]) (t := 63) ?hr ?_; (case hr => first | (go_simp; done) | (go_simp; rfl)); intro gp hg w0_ hbox hb; have NP_ := aS_ (show gp ≠ gd by rw [hg]; exact Ne.symm (Nat.ne_of_lt (blk_lt D.out.b))); have n1_ := aS_ (D.out.below hb); clear D; have D := n1_; have BKP := aS_ hbox; have hcp : w0_.cell? ⟨gp, 0, none⟩ = some (.pointer (some ⟨gd, 0, none⟩)) := bC_ hbox 0 rfl; have hcd11 : w0_.cell? ⟨gd, 11, none⟩ = some (.int .i64 c.f11) := bC_ D.out.b 11 rfl; clear n1_ hb hbox hg)
      | (go_at_call 45; refine (access_Type.calls c.f11 true _ HT.out).mono ?_; rintro e w1 ⟨rfl, hd⟩; have hb_ := hd.below; have n1_ := aS_ (D.out.below hb_); clear D hd hcd11; have D := n1_; clear n1_; have x1_ := aS_ (blk_below BKP.out hb_); clear BKP hcp; have BKP := x1_; clear x1_; have hcp : w1.cell? ⟨gp, 0, none⟩ = some (.pointer (some ⟨gd, 0, none⟩)) := bC_ BKP.out 0 rfl; clear hb_)
      | (go_at_call 57; refine (asks_calls k w0 gd c rg _ _ l ev typ host gen apt kk _ D.out HK.out).mono ?_; rw [HA.out]; rintro e w2 ⟨rfl, hb_⟩; have n1_ := aS_ (D.out.below hb_); clear D; have D := n1_; clear n1_; have x1_ := aS_ (blk_below BKP.out hb_); clear BKP hcp; have BKP := x1_; clear x1_; have hcp : w2.cell? ⟨gp, 0, none⟩ = some (.pointer (some ⟨gd, 0, none⟩)) := bC_ BKP.out 0 rfl; clear hb_; have hcd15 : w2.cell? ⟨gd, 15, none⟩ = some (.int .i64 typ) := bC_ D.out.b 15 rfl; have hcd10 : w2.cell? ⟨gd, 10, none⟩ = some (.int .u64 c.f10) := bC_ D.out.b 10 rfl)
      | (go_at_call 46; refine (resv_everybody.calls typ true _ HE.out).mono ?_; rintro e w3 ⟨rfl, hd⟩; have hb_ := hd.below; have n1_ := aS_ (D.out.below hb_); clear D hd hcd15 hcd10; have D := n1_; clear n1_; have x1_ := aS_ (blk_below BKP.out hb_); clear BKP hcp; have BKP := x1_; clear x1_; have hcp : w3.cell? ⟨gp, 0, none⟩ = some (.pointer (some ⟨gd, 0, none⟩)) := bC_ BKP.out 0 rfl; clear hb_; have hcd15 : w3.cell? ⟨gd, 15, none⟩ = some (.int .i64 typ) := bC_ D.out.b 15 rfl; have hcd10 : w3.cell? ⟨gd, 10, none⟩ = some (.int .u64 c.f10) := bC_ D.out.b 10 rfl)
      | ((with_reducible refine gate_dst (N := 3) rfl ?_); refine bX_ (N := 3) (cs := #[.bool false]) (t := 4) ?hr ?_; (case hr => first | (go_simp; done) | (go_simp; rfl)); intro gq hg w4 hbox hb; have NQ_ := aS_ (show gq ≠ gd by rw [hg]; exact Ne.symm (Nat.ne_of_lt (blk_lt D.out.b))); have NPQ := aS_ (show gp ≠ gq by rw [hg]; exact Nat.ne_of_lt (blk_lt BKP.out)); have GQ := aS_ (show w3.heap.size ≤ gq by rw [hg]; exact Nat.le_refl _); have BW := aS_ hb; have BKQ := aS_ hbox; have hcq : w4.cell? ⟨gq, 0, none⟩ = some (.bool false) := bC_ hbox 0 rfl; have hfq := bF_ hbox 0; clear hb hbox hg hcp hcd15 hcd10)
      | ((with_reducible refine gate_dst (N := 33) rfl ?_); refine good_world (fun w' => Aside0 (Below w3.heap.size w3 w') ∧ Aside0 (w'.heap[gq]? = some (.cells #[.bool false] 4 (0, 0)))) ⟨⟨below_set BW.out GQ.out⟩, ⟨blk_put BKQ.out 0 _ rfl⟩⟩ ?_; rintro w5 ⟨hbw, hbq⟩; clear BW BKQ hcq hfq GQ; have BKQ := hbq; have n1_ := aS_ (D.out.below hbw.out); have n2_ := aS_ (blk_below BKP.out hbw.out); clear D BKP hbw hbq; have D := n1_; have BKP := n2_; clear n1_ n2_))
    have n1_ := aS_ (D.out.below (below_drew (Below.refl _ _)))
    have n2_ := aS_ (blk_drew BKP.out)
    have n3_ := aS_ (blk_drew BKQ.out)
    clear D BKP BKQ
    have D := n1_
    have BKP := n2_
    have BKQ := n3_
    clear n1_ n2_ n3_
    refine start_ (n := 30) (S := fun w' => w'.cell? ⟨gq, 0, none⟩ = some (.bool false) ∧ w'.cell? ⟨gp, 0, none⟩ = some (.pointer (some ⟨gd, 0, none⟩)) ∧ w'.cell? ⟨gd, 14, none⟩ = some (.slice Au l.length cu) ∧ w'.cell? ⟨gd, 15, none⟩ = some (.int .i64 typ) ∧ w'.cell? ⟨gd, 16, none⟩ = some (.string host) ∧ w'.cell? ⟨gd, 17, none⟩ = some (.int .u32 gen) ∧ w'.cell? ⟨gd, 18, none⟩ = some (.bool apt) ∧ w'.cell? ⟨gd, 10, none⟩ = some (.int .u64 c.f10)) (ds := []) #[false, false, false, false, false, false, false, false, false, false, false, false, false, false, false, false, false, false, false, false, false, false, false, false, false, false, false, false, false, false] (by kernel_rfl) rfl rfl ⟨bC_ BKQ.out 0 rfl, bC_ BKP.out 0 rfl, bC_ D.out.b 14 rfl, bC_ D.out.b 15 rfl, bC_ D.out.b 16 rfl, bC_ D.out.b 17 rfl, bC_ D.out.b 18 rfl, bC_ D.out.b 10 rfl⟩ (fun hHeld => ?_)
    generalize w5.drew = w6 at D BKP BKQ hHeld ⊢
    refine qtk_ 0 (some 34) (dB 30 1) hHeld ?_
    refine qon_ 1 (some 35) (dB 30 3) ?_
    refine qtk_ 2 (some 36) (dB 30 7) hHeld ?_
    refine qon_ 3 (some 37) (dB 30 15) ?_
    refine qon_ 4 (some 38) (dB 30 31) ?_
    refine qon_ 5 (some 39) (dB 30 63) ?_
    refine qon_ 6 (some 40) (dB 30 127) ?_
    refine qtk_ 7 (some 41) (dB 30 255) hHeld ?_
    refine qon_ 8 (some 42) (dB 30 511) ?_
    refine qon_ 9 (some 43) (dB 30 1023) ?_
    refine qtk_ 10 (some 44) (dB 30 2047) hHeld ?_
    refine qon_ 11 (some 45) (dB 30 4095) ?_
    refine qon_ 12 (some 46) (dB 30 8191) ?_
    refine qtk_ 13 (some 47) (dB 30 16383) hHeld ?_
    refine qtk_ 14 (some 48) (dB 30 32767) hHeld ?_
    refine qon_ 15 (some 49) (dB 30 65535) ?_
    refine qon_ 16 (some 50) (dB 30 131071) ?_
    refine qon_ 17 (some 51) (dB 30 262143) ?_
    refine qon_ 18 (some 52) (dB 30 524287) ?_
    refine qtk_ 19 (some 53) (dB 30 1048575) hHeld ?_
    refine qtk_ 21 (some 55) (dB 30 3145727) hHeld ?_
    refine qon_ 22 (some 56) (dB 30 7340031) ?_
    refine qon_ 23 (some 57) (dB 30 15728639) ?_
    refine qon_ 24 (some 58) (dB 30 32505855) ?_
    refine qtk_ 25 (some 59) (dB 30 66060287) hHeld ?_
    refine one_ (i := 20) (N := some 54) (dB 30 67108863) rfl rfl (by kernel_rfl) (by decide) (fun K hK => ?_)
    refine goes_ Tryd.func24 (by kernel_rfl) rfl #[.agg #[.slice Au l.length cu, .int .i64 typ, .string host, .int .u32 gen, .bool apt], .string host] (by rfl) rfl rfl (by simp only [List.map_toArray, List.map_cons, List.map_nil]; rfl) ?_
    with_reducible refine (resv_Key.calls k Au cu l typ host gen apt host kh _ (Kd.R_reads' D.out.r).2.2 (Kd.R_reads' D.out.r).2.1 HKH.out).mono ?_
    rintro e_ w66 ⟨rfl, hb⟩
    have n1_ := aS_ (D.out.below hb)
    have n2_ := aS_ (blk_below BKP.out hb)
    have n3_ := aS_ (blk_below BKQ.out hb)
    clear D BKP BKQ hb
    have D := n1_
    have BKP := n2_
    have BKQ := n3_
    clear n1_ n2_ n3_
    refine ⟨_, rfl, ?_⟩
    refine hK.out _ _ ⟨bC_ BKQ.out 0 rfl, bC_ BKP.out 0 rfl, bC_ D.out.b 14 rfl, bC_ D.out.b 15 rfl, bC_ D.out.b 16 rfl, bC_ D.out.b 17 rfl, bC_ D.out.b 18 rfl, bC_ D.out.b 10 rfl⟩ (fun hHeld => ?_)
    clear hK K
    refine norm_ (a' := ?_) ?_ ?_
    rotate_left
    ·show Act.put _ (some 54) _ = _
     simp only [Act.put, la_, lb_, lc_, i64_w, i32_w]
     rfl
    refine qon_ 26 (some 60) (dB 30 134217727) ?_
    refine qon_ 27 (some 61) (dB 30 268435455) ?_
    refine qon_ 28 (some 62) (dB 30 536870911) ?_
    refine qon_ 29 (some 5) (dB 30 1073741823) ?_
    refine done_ (by kernel_rfl) ?_
    have hcp : w66.cell? ⟨gp, 0, none⟩ = some (.pointer (some ⟨gd, 0, none⟩)) := bC_ BKP.out 0 rfl
    go_wp2_with (first
      | (go_at_call 55; refine (tell_struck w0 gd gp gq false c rg _ _ l ev typ host gen apt 2 _ D.out HN.out HEV.out BKP.out NP_.out BKQ.out NQ_.out).mono ?_; rintro e w7 ⟨rfl, hd_, hp_, hq_⟩; obtain ⟨ue2, hd2_⟩ := hd_.out; clear D BKP BKQ hd_ hcp; have D := aS_ hd2_; have BKP := hp_; have BKQ := hq_; clear hd2_; have hcp : w7.cell? ⟨gp, 0, none⟩ = some (.pointer (some ⟨gd, 0, none⟩)) := bC_ BKP.out 0 rfl)
      | (go_at_call 54; refine (drop_struck w0 gp gq gd false c rg _ _ l _ typ host gen apt _ D.out HN.out BKP.out NP_.out BKQ.out NQ_.out).mono ?_; rintro e w8 ⟨rfl, ⟨u2, hd2_⟩, hp_, hq_⟩; clear D BKP BKQ hcp; have D := aS_ hd2_; have BKP := aS_ hp_; have BKQ := aS_ hq_; clear hd2_ hp_ hq_; have hcp : w8.cell? ⟨gp, 0, none⟩ = some (.pointer (some ⟨gd, 0, none⟩)) := bC_ BKP.out 0 rfl; have hcd17 : w8.cell? ⟨gd, 17, none⟩ = some (.int .u32 gen) := bC_ D.out.b 17 rfl; have hfd17 := bF_ D.out.b 17)
      | (go_at_call 58; refine deed_call (fun w' => Aside0 (Dd w0 w' gd c rg u2 _ typ host ((gen + 1) % 4294967296) apt ue2 _)) ⟨D.out.put 17 _ rfl⟩ ?_; intro w9 D9_; clear D hcd17 hfd17; refine (take_calls w0 gd c rg _ _ _ _ typ host _ apt _ D9_.out).mono ?_; rintro e w10 ⟨rfl, hd⟩; have D := aS_ hd; clear D9_ hd))
    go_ret
    exact ⟨rfl, _, _, D.out⟩
theorem preempt_zero (k : Nat) (w0 : World) (gd : Nat) (c : S31) (rg u ue : Value) (l : List S53) (ev : List S46) (typ : Int) (host : ByteArray) (gen : Int) (apt : Bool) (kk : Int) (w : World) (hd : Dd w0 w gd c rg u l typ host gen apt ue ev) (hk : resv_Key.f k l typ host gen apt c.f2 = some kk) (eb : Bool) (ht : access_Type.f c.f11 = some true) (ha : (kk != 0 && kk == c.f8) = true) (he : resv_everybody.f typ = some eb) (kh : Int) (hkh : resv_Key.f k l typ host gen apt host = some kh) (htk : ¬ (host.toList ≠ ([] : List UInt8) ∧ kh = c.f10)) (hew : eb = false) (h0 : c.f10 = 0) :
    Calls Tryd.prog 34 #[.pointer (some ⟨gd, 0, none⟩)] w fun e w' => e = .returned (.int .i64 5) ∧ Dd w0 w' gd c rg u l typ host gen apt ue ev := by
  have hu66 := Tryd.underlying66
  have hu31 := Tryd.underlying31
  have hu27 := Tryd.underlying27
  have hu24 := Tryd.underlying24
  have D := aS_ hd
  have HK := aS_ hk
  have HT := aS_ ht
  clear ht
  have HA := aS_ ha
  clear ha
  have hmf : ∀ (fn : Fn) (first cap : Array Value) (w : World), (Instr.makeFunc fn first cap).run Tryd.prog w = .ok (.func fn first cap) w := fun _ _ _ _ => rfl
  have HE := aS_ he
  have HKH := aS_ hkh
  clear he hkh
  subst hew
  have d0 : (c.f10 == 0) = true := beq_iff_eq.mpr h0
  clear h0
  obtain ⟨Au, cu, eu⟩ := Kd.R_slice hd.r
  subst eu
  clear hd hk
  by_cases hho : host.toList ≠ ([] : List UInt8)
  · skip
    have d1 : (host.toList == ([] : List UInt8)) = false := beq_eq_false_iff_ne.mpr hho
    have d2 : (host.toList = ([] : List UInt8)) = False := eq_false hho
    have d3 : (kh == c.f10) = false := beq_eq_false_iff_ne.mpr (fun z => htk ⟨hho, z⟩)
    clear hho htk
    go_enter Tryd.func34, Tryd.ntmps34
    go_wp2_with (first
      | ((with_reducible refine gate_dst (N := 1) rfl ?_); refine bX_ (N := 1) (cs := #[.pointer (some ⟨gd, 0, none⟩)]) (t := 63) ?hr ?_; (case hr => first | (go_simp; done) | (go_simp; rfl)); intro gp hg w0_ hbox hb; have NP_ := aS_ (show gp ≠ gd by rw [hg]; exact Ne.symm (Nat.ne_of_lt (blk_lt D.out.b))); have n1_ := aS_ (D.out.below hb); clear D; have D := n1_; have BKP := aS_ hbox; have hcp : w0_.cell? ⟨gp, 0, none⟩ = some (.pointer (some ⟨gd, 0, none⟩)) := bC_ hbox 0 rfl; have hcd11 : w0_.cell? ⟨gd, 11, none⟩ = some (.int .i64 c.f11) := bC_ D.out.b 11 rfl; clear n1_ hb hbox hg)
      | (go_at_call 45; refine (access_Type.calls c.f11 true _ HT.out).mono ?_; rintro e w1 ⟨rfl, hd⟩; have hb_ := hd.below; have n1_ := aS_ (D.out.below hb_); clear D hd hcd11; have D := n1_; clear n1_; have x1_ := aS_ (blk_below BKP.out hb_); clear BKP hcp; have BKP := x1_; clear x1_; have hcp : w1.cell? ⟨gp, 0, none⟩ = some (.pointer (some ⟨gd, 0, none⟩)) := bC_ BKP.out 0 rfl; clear hb_)
      | (go_at_call 57; refine (asks_calls k w0 gd c rg _ _ l ev typ host gen apt kk _ D.out HK.out).mono ?_; rw [HA.out]; rintro e w2 ⟨rfl, hb_⟩; have n1_ := aS_ (D.out.below hb_); clear D; have D := n1_; clear n1_; have x1_ := aS_ (blk_below BKP.out hb_); clear BKP hcp; have BKP := x1_; clear x1_; have hcp : w2.cell? ⟨gp, 0, none⟩ = some (.pointer (some ⟨gd, 0, none⟩)) := bC_ BKP.out 0 rfl; clear hb_; have hcd15 : w2.cell? ⟨gd, 15, none⟩ = some (.int .i64 typ) := bC_ D.out.b 15 rfl; have hcd10 : w2.cell? ⟨gd, 10, none⟩ = some (.int .u64 c.f10) := bC_ D.out.b 10 rfl)
      | (go_at_call 46; refine (resv_everybody.calls typ false _ HE.out).mono ?_; rintro e w3 ⟨rfl, hd⟩; have hb_ := hd.below; have n1_ := aS_ (D.out.below hb_); clear D hd hcd15 hcd10; have D := n1_; clear n1_; have x1_ := aS_ (blk_below BKP.out hb_); clear BKP hcp; have BKP := x1_; clear x1_; have hcp : w3.cell? ⟨gp, 0, none⟩ = some (.pointer (some ⟨gd, 0, none⟩)) := bC_ BKP.out 0 rfl; clear hb_; have hcd15 : w3.cell? ⟨gd, 15, none⟩ = some (.int .i64 typ) := bC_ D.out.b 15 rfl; have hcd10 : w3.cell? ⟨gd, 10, none⟩ = some (.int .u64 c.f10) := bC_ D.out.b 10 rfl)
      | ((with_reducible refine gate_dst (N := 3) rfl ?_); refine bX_ (N := 3) (cs := #[.bool false]) (t := 4) ?hr ?_; (case hr => first | (go_simp; done) | (go_simp; rfl)); intro gq hg w4 hbox hb; have NQ_ := aS_ (show gq ≠ gd by rw [hg]; exact Ne.symm (Nat.ne_of_lt (blk_lt D.out.b))); have NPQ := aS_ (show gp ≠ gq by rw [hg]; exact Nat.ne_of_lt (blk_lt BKP.out)); have GQ := aS_ (show w3.heap.size ≤ gq by rw [hg]; exact Nat.le_refl _); have BW := aS_ hb; have BKQ := aS_ hbox; have hcq : w4.cell? ⟨gq, 0, none⟩ = some (.bool false) := bC_ hbox 0 rfl; have hfq := bF_ hbox 0; clear hb hbox hg hcp hcd15 hcd10)
      | ((with_reducible refine gate_dst (N := 33) rfl ?_); refine good_world (fun w' => Aside0 (Below w3.heap.size w3 w') ∧ Aside0 (w'.heap[gq]? = some (.cells #[.bool false] 4 (0, 0)))) ⟨⟨below_set BW.out GQ.out⟩, ⟨blk_put BKQ.out 0 _ rfl⟩⟩ ?_; rintro w5 ⟨hbw, hbq⟩; clear BW BKQ hcq hfq GQ; have BKQ := hbq; have n1_ := aS_ (D.out.below hbw.out); have n2_ := aS_ (blk_below BKP.out hbw.out); clear D BKP hbw hbq; have D := n1_; have BKP := n2_; clear n1_ n2_))
    have n1_ := aS_ (D.out.below (below_drew (Below.refl _ _)))
    have n2_ := aS_ (blk_drew BKP.out)
    have n3_ := aS_ (blk_drew BKQ.out)
    clear D BKP BKQ
    have D := n1_
    have BKP := n2_
    have BKQ := n3_
    clear n1_ n2_ n3_
    refine start_ (n := 30) (S := fun w' => w'.cell? ⟨gq, 0, none⟩ = some (.bool false) ∧ w'.cell? ⟨gp, 0, none⟩ = some (.pointer (some ⟨gd, 0, none⟩)) ∧ w'.cell? ⟨gd, 14, none⟩ = some (.slice Au l.length cu) ∧ w'.cell? ⟨gd, 15, none⟩ = some (.int .i64 typ) ∧ w'.cell? ⟨gd, 16, none⟩ = some (.string host) ∧ w'.cell? ⟨gd, 17, none⟩ = some (.int .u32 gen) ∧ w'.cell? ⟨gd, 18, none⟩ = some (.bool apt) ∧ w'.cell? ⟨gd, 10, none⟩ = some (.int .u64 c.f10)) (ds := []) #[false, false, false, false, false, false, false, false, false, false, false, false, false, false, false, false, false, false, false, false, false, false, false, false, false, false, false, false, false, false] (by kernel_rfl) rfl rfl ⟨bC_ BKQ.out 0 rfl, bC_ BKP.out 0 rfl, bC_ D.out.b 14 rfl, bC_ D.out.b 15 rfl, bC_ D.out.b 16 rfl, bC_ D.out.b 17 rfl, bC_ D.out.b 18 rfl, bC_ D.out.b 10 rfl⟩ (fun hHeld => ?_)
    generalize w5.drew = w6 at D BKP BKQ hHeld ⊢
    refine qtk_ 0 (some 34) (dB 30 1) hHeld ?_
    refine qon_ 1 (some 35) (dB 30 3) ?_
    refine qtk_ 2 (some 36) (dB 30 7) hHeld ?_
    refine qon_ 3 (some 37) (dB 30 15) ?_
    refine qon_ 4 (some 38) (dB 30 31) ?_
    refine qon_ 5 (some 39) (dB 30 63) ?_
    refine qon_ 6 (some 40) (dB 30 127) ?_
    refine qtk_ 7 (some 41) (dB 30 255) hHeld ?_
    refine qon_ 8 (some 42) (dB 30 511) ?_
    refine qon_ 9 (some 43) (dB 30 1023) ?_
    refine qtk_ 10 (some 44) (dB 30 2047) hHeld ?_
    refine qon_ 11 (some 45) (dB 30 4095) ?_
    refine qon_ 12 (some 46) (dB 30 8191) ?_
    refine qtk_ 13 (some 47) (dB 30 16383) hHeld ?_
    refine qtk_ 14 (some 48) (dB 30 32767) hHeld ?_
    refine qon_ 15 (some 49) (dB 30 65535) ?_
    refine qon_ 16 (some 50) (dB 30 131071) ?_
    refine qon_ 17 (some 51) (dB 30 262143) ?_
    refine qon_ 18 (some 52) (dB 30 524287) ?_
    refine qtk_ 19 (some 53) (dB 30 1048575) hHeld ?_
    refine qtk_ 21 (some 55) (dB 30 3145727) hHeld ?_
    refine qon_ 22 (some 56) (dB 30 7340031) ?_
    refine qon_ 23 (some 57) (dB 30 15728639) ?_
    refine qon_ 24 (some 58) (dB 30 32505855) ?_
    refine qtk_ 25 (some 59) (dB 30 66060287) hHeld ?_
    refine one_ (i := 20) (N := some 54) (dB 30 67108863) rfl rfl (by kernel_rfl) (by decide) (fun K hK => ?_)
    refine goes_ Tryd.func24 (by kernel_rfl) rfl #[.agg #[.slice Au l.length cu, .int .i64 typ, .string host, .int .u32 gen, .bool apt], .string host] (by rfl) rfl rfl (by simp only [List.map_toArray, List.map_cons, List.map_nil]; rfl) ?_
    with_reducible refine (resv_Key.calls k Au cu l typ host gen apt host kh _ (Kd.R_reads' D.out.r).2.2 (Kd.R_reads' D.out.r).2.1 HKH.out).mono ?_
    rintro e_ w66 ⟨rfl, hb⟩
    have n1_ := aS_ (D.out.below hb)
    have n2_ := aS_ (blk_below BKP.out hb)
    have n3_ := aS_ (blk_below BKQ.out hb)
    clear D BKP BKQ hb
    have D := n1_
    have BKP := n2_
    have BKQ := n3_
    clear n1_ n2_ n3_
    refine ⟨_, rfl, ?_⟩
    refine hK.out _ _ ⟨bC_ BKQ.out 0 rfl, bC_ BKP.out 0 rfl, bC_ D.out.b 14 rfl, bC_ D.out.b 15 rfl, bC_ D.out.b 16 rfl, bC_ D.out.b 17 rfl, bC_ D.out.b 18 rfl, bC_ D.out.b 10 rfl⟩ (fun hHeld => ?_)
    clear hK K
    refine norm_ (a' := ?_) ?_ ?_
    rotate_left
    ·show Act.put _ (some 54) _ = _
     simp only [Act.put, la_, lb_, lc_, i64_w, i32_w]
     rfl
    refine qon_ 26 (some 60) (dB 30 134217727) ?_
    refine qon_ 27 (some 61) (dB 30 268435455) ?_
    refine qon_ 28 (some 62) (dB 30 536870911) ?_
    refine qon_ 29 (some 5) (dB 30 1073741823) ?_
    refine done_ (by kernel_rfl) ?_
    have hcp : w66.cell? ⟨gp, 0, none⟩ = some (.pointer (some ⟨gd, 0, none⟩)) := bC_ BKP.out 0 rfl; have hcd10 : w66.cell? ⟨gd, 10, none⟩ = some (.int .u64 c.f10) := bC_ D.out.b 10 rfl; have hcd14 : w66.cell? ⟨gd, 14, none⟩ = some (.slice Au l.length cu) := bC_ D.out.b 14 rfl
    go_wp2
    go_ret
    exact ⟨rfl, D.out⟩
  · skip
    have hho : host.toList = ([] : List UInt8) := Classical.byContradiction hho
    have d1 : (host.toList == ([] : List UInt8)) = true := beq_iff_eq.mpr hho
    clear htk
    go_enter Tryd.func34, Tryd.ntmps34
    go_wp2_with (first
      | ((with_reducible refine gate_dst (N := 1) rfl ?_); refine bX_ (N := 1) (cs := #[.pointer (some ⟨gd, 0, none⟩)]) (t := 63) ?hr ?_; (case hr => first | (go_simp; done) | (go_simp; rfl)); intro gp hg w0_ hbox hb; have NP_ := aS_ (show gp ≠ gd by rw [hg]; exact Ne.symm (Nat.ne_of_lt (blk_lt D.out.b))); have n1_ := aS_ (D.out.below hb); clear D; have D := n1_; have BKP := aS_ hbox; have hcp : w0_.cell? ⟨gp, 0, none⟩ = some (.pointer (some ⟨gd, 0, none⟩)) := bC_ hbox 0 rfl; have hcd11 : w0_.cell? ⟨gd, 11, none⟩ = some (.int .i64 c.f11) := bC_ D.out.b 11 rfl; clear n1_ hb hbox hg)
      | (go_at_call 45; refine (access_Type.calls c.f11 true _ HT.out).mono ?_; rintro e w1 ⟨rfl, hd⟩; have hb_ := hd.below; have n1_ := aS_ (D.out.below hb_); clear D hd hcd11; have D := n1_; clear n1_; have x1_ := aS_ (blk_below BKP.out hb_); clear BKP hcp; have BKP := x1_; clear x1_; have hcp : w1.cell? ⟨gp, 0, none⟩ = some (.pointer (some ⟨gd, 0, none⟩)) := bC_ BKP.out 0 rfl; clear hb_)
      | (go_at_call 57; refine (asks_calls k w0 gd c rg _ _ l ev typ host gen apt kk _ D.out HK.out).mono ?_; rw [HA.out]; rintro e w2 ⟨rfl, hb_⟩; have n1_ := aS_ (D.out.below hb_); clear D; have D := n1_; clear n1_; have x1_ := aS_ (blk_below BKP.out hb_); clear BKP hcp; have BKP := x1_; clear x1_; have hcp : w2.cell? ⟨gp, 0, none⟩ = some (.pointer (some ⟨gd, 0, none⟩)) := bC_ BKP.out 0 rfl; clear hb_; have hcd15 : w2.cell? ⟨gd, 15, none⟩ = some (.int .i64 typ) := bC_ D.out.b 15 rfl; have hcd10 : w2.cell? ⟨gd, 10, none⟩ = some (.int .u64 c.f10) := bC_ D.out.b 10 rfl)
      | (go_at_call 46; refine (resv_everybody.calls typ false _ HE.out).mono ?_; rintro e w3 ⟨rfl, hd⟩; have hb_ := hd.below; have n1_ := aS_ (D.out.below hb_); clear D hd hcd15 hcd10; have D := n1_; clear n1_; have x1_ := aS_ (blk_below BKP.out hb_); clear BKP hcp; have BKP := x1_; clear x1_; have hcp : w3.cell? ⟨gp, 0, none⟩ = some (.pointer (some ⟨gd, 0, none⟩)) := bC_ BKP.out 0 rfl; clear hb_; have hcd15 : w3.cell? ⟨gd, 15, none⟩ = some (.int .i64 typ) := bC_ D.out.b 15 rfl; have hcd10 : w3.cell? ⟨gd, 10, none⟩ = some (.int .u64 c.f10) := bC_ D.out.b 10 rfl)
      | ((with_reducible refine gate_dst (N := 3) rfl ?_); refine bX_ (N := 3) (cs := #[.bool false]) (t := 4) ?hr ?_; (case hr => first | (go_simp; done) | (go_simp; rfl)); intro gq hg w4 hbox hb; have NQ_ := aS_ (show gq ≠ gd by rw [hg]; exact Ne.symm (Nat.ne_of_lt (blk_lt D.out.b))); have NPQ := aS_ (show gp ≠ gq by rw [hg]; exact Nat.ne_of_lt (blk_lt BKP.out)); have GQ := aS_ (show w3.heap.size ≤ gq by rw [hg]; exact Nat.le_refl _); have BW := aS_ hb; have BKQ := aS_ hbox; have hcq : w4.cell? ⟨gq, 0, none⟩ = some (.bool false) := bC_ hbox 0 rfl; have hfq := bF_ hbox 0; clear hb hbox hg hcp hcd15 hcd10)
      | ((with_reducible refine gate_dst (N := 33) rfl ?_); refine good_world (fun w' => Aside0 (Below w3.heap.size w3 w') ∧ Aside0 (w'.heap[gq]? = some (.cells #[.bool false] 4 (0, 0)))) ⟨⟨below_set BW.out GQ.out⟩, ⟨blk_put BKQ.out 0 _ rfl⟩⟩ ?_; rintro w5 ⟨hbw, hbq⟩; clear BW BKQ hcq hfq GQ; have BKQ := hbq; have n1_ := aS_ (D.out.below hbw.out); have n2_ := aS_ (blk_below BKP.out hbw.out); clear D BKP hbw hbq; have D := n1_; have BKP := n2_; clear n1_ n2_))
    have n1_ := aS_ (D.out.below (below_drew (Below.refl _ _)))
    have n2_ := aS_ (blk_drew BKP.out)
    have n3_ := aS_ (blk_drew BKQ.out)
    clear D BKP BKQ
    have D := n1_
    have BKP := n2_
    have BKQ := n3_
    clear n1_ n2_ n3_
    refine start_ (n := 30) (S := fun w' => w'.cell? ⟨gq, 0, none⟩ = some (.bool false) ∧ w'.cell? ⟨gp, 0, none⟩ = some (.pointer (some ⟨gd, 0, none⟩)) ∧ w'.cell? ⟨gd, 14, none⟩ = some (.slice Au l.length cu) ∧ w'.cell? ⟨gd, 15, none⟩ = some (.int .i64 typ) ∧ w'.cell? ⟨gd, 16, none⟩ = some (.string host) ∧ w'.cell? ⟨gd, 17, none⟩ = some (.int .u32 gen) ∧ w'.cell? ⟨gd, 18, none⟩ = some (.bool apt) ∧ w'.cell? ⟨gd, 10, none⟩ = some (.int .u64 c.f10)) (ds := []) #[false, false, false, false, false, false, false, false, false, false, false, false, false, false, false, false, false, false, false, false, false, false, false, false, false, false, false, false, false, false] (by kernel_rfl) rfl rfl ⟨bC_ BKQ.out 0 rfl, bC_ BKP.out 0 rfl, bC_ D.out.b 14 rfl, bC_ D.out.b 15 rfl, bC_ D.out.b 16 rfl, bC_ D.out.b 17 rfl, bC_ D.out.b 18 rfl, bC_ D.out.b 10 rfl⟩ (fun hHeld => ?_)
    generalize w5.drew = w6 at D BKP BKQ hHeld ⊢
    refine qtk_ 0 (some 34) (dB 30 1) hHeld ?_
    refine qon_ 1 (some 35) (dB 30 3) ?_
    refine qtk_ 2 (some 36) (dB 30 7) hHeld ?_
    refine qon_ 3 (some 37) (dB 30 15) ?_
    refine qon_ 4 (some 38) (dB 30 31) ?_
    refine qon_ 5 (some 39) (dB 30 63) ?_
    refine qon_ 6 (some 40) (dB 30 127) ?_
    refine qtk_ 7 (some 41) (dB 30 255) hHeld ?_
    refine qon_ 8 (some 42) (dB 30 511) ?_
    refine qon_ 9 (some 43) (dB 30 1023) ?_
    refine qof_ 10 (some 44) (dB 30 2047) ?_
    refine qof_ 11 (some 45) (dB 30 4095) ?_
    refine qof_ 12 (some 46) (dB 30 8191) ?_
    refine qof_ 13 (some 47) (dB 30 16383) ?_
    refine qof_ 14 (some 48) (dB 30 32767) ?_
    refine qof_ 15 (some 49) (dB 30 65535) ?_
    refine qof_ 16 (some 50) (dB 30 131071) ?_
    refine qof_ 17 (some 51) (dB 30 262143) ?_
    refine qof_ 18 (some 52) (dB 30 524287) ?_
    refine qof_ 19 (some 53) (dB 30 1048575) ?_
    refine qof_ 20 (some 54) (dB 30 2097151) ?_
    refine qof_ 21 (some 55) (dB 30 4194303) ?_
    refine qof_ 22 (some 56) (dB 30 8388607) ?_
    refine qof_ 23 (some 57) (dB 30 16777215) ?_
    refine qof_ 24 (some 58) (dB 30 33554431) ?_
    refine qof_ 25 (some 59) (dB 30 67108863) ?_
    refine qof_ 26 (some 60) (dB 30 134217727) ?_
    refine qon_ 27 (some 61) (dB 30 268435455) ?_
    refine qon_ 28 (some 62) (dB 30 536870911) ?_
    refine qon_ 29 (some 5) (dB 30 1073741823) ?_
    refine done_ (by kernel_rfl) ?_
    have hcp : w6.cell? ⟨gp, 0, none⟩ = some (.pointer (some ⟨gd, 0, none⟩)) := bC_ BKP.out 0 rfl; have hcd10 : w6.cell? ⟨gd, 10, none⟩ = some (.int .u64 c.f10) := bC_ D.out.b 10 rfl; have hcd14 : w6.cell? ⟨gd, 14, none⟩ = some (.slice Au l.length cu) := bC_ D.out.b 14 rfl
    go_wp2
    go_ret
    exact ⟨rfl, D.out⟩
theorem preempt_miss (k : Nat) (w0 : World) (gd : Nat) (c : S31) (rg u ue : Value) (l : List S53) (ev : List S46) (typ : Int) (host : ByteArray) (gen : Int) (apt : Bool) (kk : Int) (w : World) (hd : Dd w0 w gd c rg u l typ host gen apt ue ev) (hk : resv_Key.f k l typ host gen apt c.f2 = some kk) (eb : Bool) (ht : access_Type.f c.f11 = some true) (ha : (kk != 0 && kk == c.f8) = true) (he : resv_everybody.f typ = some eb) (kh : Int) (hkh : resv_Key.f k l typ host gen apt host = some kh) (htk : ¬ (host.toList ≠ ([] : List UInt8) ∧ kh = c.f10)) (h0 : c.f10 ≠ 0) (hn : l.length ≤ 1000) (hi0 : decide (0 ≤ idxP (struckP c false) l) = false) :
    Calls Tryd.prog 34 #[.pointer (some ⟨gd, 0, none⟩)] w fun e w' => e = .returned (.int .i64 2) ∧ Dd w0 w' gd c rg u l typ host gen apt ue ev := by
  have hu66 := Tryd.underlying66
  have hu31 := Tryd.underlying31
  have hu27 := Tryd.underlying27
  have hu24 := Tryd.underlying24
  have D := aS_ hd
  have HK := aS_ hk
  have HT := aS_ ht
  clear ht
  have HA := aS_ ha
  clear ha
  have hmf : ∀ (fn : Fn) (first cap : Array Value) (w : World), (Instr.makeFunc fn first cap).run Tryd.prog w = .ok (.func fn first cap) w := fun _ _ _ _ => rfl
  have HE := aS_ he
  have HKH := aS_ hkh
  clear he hkh
  have d0 : (c.f10 == 0) = false := beq_eq_false_iff_ne.mpr h0
  clear h0
  have HN := aS_ hn
  clear hn
  have HI0 := aS_ hi0
  clear hi0
  obtain ⟨Au, cu, eu⟩ := Kd.R_slice hd.r
  subst eu
  clear hd hk
  cases eb
  · skip
    by_cases hho : host.toList ≠ ([] : List UInt8)
    · skip
      have d1 : (host.toList == ([] : List UInt8)) = false := beq_eq_false_iff_ne.mpr hho
      have d2 : (host.toList = ([] : List UInt8)) = False := eq_false hho
      have d3 : (kh == c.f10) = false := beq_eq_false_iff_ne.mpr (fun z => htk ⟨hho, z⟩)
      clear hho htk
      go_enter Tryd.func34, Tryd.ntmps34
      go_wp2_with (first
        | ((with_reducible refine gate_dst (N := 1) rfl ?_); refine bX_ (N := 1) (cs := #[.pointer (some ⟨gd, 0, none⟩)]) (t := 63) ?hr ?_; (case hr => first | (go_simp; done) | (go_simp; rfl)); intro gp hg w0_ hbox hb; have NP_ := aS_ (show gp ≠ gd by rw [hg]; exact Ne.symm (Nat.ne_of_lt (blk_lt D.out.b))); have n1_ := aS_ (D.out.below hb); clear D; have D := n1_; have BKP := aS_ hbox; have hcp : w0_.cell? ⟨gp, 0, none⟩ = some (.pointer (some ⟨gd, 0, none⟩)) := bC_ hbox 0 rfl; have hcd11 : w0_.cell? ⟨gd, 11, none⟩ = some (.int .i64 c.f11) := bC_ D.out.b 11 rfl; clear n1_ hb hbox hg)
        | (go_at_call 45; refine (access_Type.calls c.f11 true _ HT.out).mono ?_; rintro e w1 ⟨rfl, hd⟩; have hb_ := hd.below; have n1_ := aS_ (D.out.below hb_); clear D hd hcd11; have D := n1_; clear n1_; have x1_ := aS_ (blk_below BKP.out hb_); clear BKP hcp; have BKP := x1_; clear x1_; have hcp : w1.cell? ⟨gp, 0, none⟩ = some (.pointer (some ⟨gd, 0, none⟩)) := bC_ BKP.out 0 rfl; clear hb_)
        | (go_at_call 57; refine (asks_calls k w0 gd c rg _ _ l ev typ host gen apt kk _ D.out HK.out).mono ?_; rw [HA.out]; rintro e w2 ⟨rfl, hb_⟩; have n1_ := aS_ (D.out.below hb_); clear D; have D := n1_; clear n1_; have x1_ := aS_ (blk_below BKP.out hb_); clear BKP hcp; have BKP := x1_; clear x1_; have hcp : w2.cell? ⟨gp, 0, none⟩ = some (.pointer (some ⟨gd, 0, none⟩)) := bC_ BKP.out 0 rfl; clear hb_; have hcd15 : w2.cell? ⟨gd, 15, none⟩ = some (.int .i64 typ) := bC_ D.out.b 15 rfl; have hcd10 : w2.cell? ⟨gd, 10, none⟩ = some (.int .u64 c.f10) := bC_ D.out.b 10 rfl)
        | (go_at_call 46; refine (resv_everybody.calls typ false _ HE.out).mono ?_; rintro e w3 ⟨rfl, hd⟩; have hb_ := hd.below; have n1_ := aS_ (D.out.below hb_); clear D hd hcd15 hcd10; have D := n1_; clear n1_; have x1_ := aS_ (blk_below BKP.out hb_); clear BKP hcp; have BKP := x1_; clear x1_; have hcp : w3.cell? ⟨gp, 0, none⟩ = some (.pointer (some ⟨gd, 0, none⟩)) := bC_ BKP.out 0 rfl; clear hb_; have hcd15 : w3.cell? ⟨gd, 15, none⟩ = some (.int .i64 typ) := bC_ D.out.b 15 rfl; have hcd10 : w3.cell? ⟨gd, 10, none⟩ = some (.int .u64 c.f10) := bC_ D.out.b 10 rfl)
        | ((with_reducible refine gate_dst (N := 3) rfl ?_); refine bX_ (N := 3) (cs := #[.bool false]) (t := 4) ?hr ?_; (case hr => first | (go_simp; done) | (go_simp; rfl)); intro gq hg w4 hbox hb; have NQ_ := aS_ (show gq ≠ gd by rw [hg]; exact Ne.symm (Nat.ne_of_lt (blk_lt D.out.b))); have NPQ := aS_ (show gp ≠ gq by rw [hg]; exact Nat.ne_of_lt (blk_lt BKP.out)); have GQ := aS_ (show w3.heap.size ≤ gq by rw [hg]; exact Nat.le_refl _); have BW := aS_ hb; have BKQ := aS_ hbox; have hcq : w4.cell? ⟨gq, 0, none⟩ = some (.bool false) := bC_ hbox 0 rfl; have hfq := bF_ hbox 0; clear hb hbox hg hcp hcd15 hcd10)
        | ((with_reducible refine gate_dst (N := 33) rfl ?_); refine good_world (fun w' => Aside0 (Below w3.heap.size w3 w') ∧ Aside0 (w'.heap[gq]? = some (.cells #[.bool false] 4 (0, 0)))) ⟨⟨below_set BW.out GQ.out⟩, ⟨blk_put BKQ.out 0 _ rfl⟩⟩ ?_; rintro w5 ⟨hbw, hbq⟩; clear BW BKQ hcq hfq GQ; have BKQ := hbq; have n1_ := aS_ (D.out.below hbw.out); have n2_ := aS_ (blk_below BKP.out hbw.out); clear D BKP hbw hbq; have D := n1_; have BKP := n2_; clear n1_ n2_))
      have n1_ := aS_ (D.out.below (below_drew (Below.refl _ _)))
      have n2_ := aS_ (blk_drew BKP.out)
      have n3_ := aS_ (blk_drew BKQ.out)
      clear D BKP BKQ
      have D := n1_
      have BKP := n2_
      have BKQ := n3_
      clear n1_ n2_ n3_
      refine start_ (n := 30) (S := fun w' => w'.cell? ⟨gq, 0, none⟩ = some (.bool false) ∧ w'.cell? ⟨gp, 0, none⟩ = some (.pointer (some ⟨gd, 0, none⟩)) ∧ w'.cell? ⟨gd, 14, none⟩ = some (.slice Au l.length cu) ∧ w'.cell? ⟨gd, 15, none⟩ = some (.int .i64 typ) ∧ w'.cell? ⟨gd, 16, none⟩ = some (.string host) ∧ w'.cell? ⟨gd, 17, none⟩ = some (.int .u32 gen) ∧ w'.cell? ⟨gd, 18, none⟩ = some (.bool apt) ∧ w'.cell? ⟨gd, 10, none⟩ = some (.int .u64 c.f10)) (ds := []) #[false, false, false, false, false, false, false, false, false, false, false, false, false, false, false, false, false, false, false, false, false, false, false, false, false, false, false, false, false, false] (by kernel_rfl) rfl rfl ⟨bC_ BKQ.out 0 rfl, bC_ BKP.out 0 rfl, bC_ D.out.b 14 rfl, bC_ D.out.b 15 rfl, bC_ D.out.b 16 rfl, bC_ D.out.b 17 rfl, bC_ D.out.b 18 rfl, bC_ D.out.b 10 rfl⟩ (fun hHeld => ?_)
      generalize w5.drew = w6 at D BKP BKQ hHeld ⊢
      refine qtk_ 0 (some 34) (dB 30 1) hHeld ?_
      refine qon_ 1 (some 35) (dB 30 3) ?_
      refine qtk_ 2 (some 36) (dB 30 7) hHeld ?_
      refine qon_ 3 (some 37) (dB 30 15) ?_
      refine qon_ 4 (some 38) (dB 30 31) ?_
      refine qon_ 5 (some 39) (dB 30 63) ?_
      refine qon_ 6 (some 40) (dB 30 127) ?_
      refine qtk_ 7 (some 41) (dB 30 255) hHeld ?_
      refine qon_ 8 (some 42) (dB 30 511) ?_
      refine qon_ 9 (some 43) (dB 30 1023) ?_
      refine qtk_ 10 (some 44) (dB 30 2047) hHeld ?_
      refine qon_ 11 (some 45) (dB 30 4095) ?_
      refine qon_ 12 (some 46) (dB 30 8191) ?_
      refine qtk_ 13 (some 47) (dB 30 16383) hHeld ?_
      refine qtk_ 14 (some 48) (dB 30 32767) hHeld ?_
      refine qon_ 15 (some 49) (dB 30 65535) ?_
      refine qon_ 16 (some 50) (dB 30 131071) ?_
      refine qon_ 17 (some 51) (dB 30 262143) ?_
      refine qon_ 18 (some 52) (dB 30 524287) ?_
      refine qtk_ 19 (some 53) (dB 30 1048575) hHeld ?_
      refine qtk_ 21 (some 55) (dB 30 3145727) hHeld ?_
      refine qon_ 22 (some 56) (dB 30 7340031) ?_
      refine qon_ 23 (some 57) (dB 30 15728639) ?_
      refine qon_ 24 (some 58) (dB 30 32505855) ?_
      refine qtk_ 25 (some 59) (dB 30 66060287) hHeld ?_
      refine one_ (i := 20) (N := some 54) (dB 30 67108863) rfl rfl (by kernel_rfl) (by decide) (fun K hK => ?_)
      refine goes_ Tryd.func24 (by kernel_rfl) rfl #[.agg #[.slice Au l.length cu, .int .i64 typ, .string host, .int .u32 gen, .bool apt], .string host] (by rfl) rfl rfl (by simp only [List.map_toArray, List.map_cons, List.map_nil]; rfl) ?_
      with_reducible refine (resv_Key.calls k Au cu l typ host gen apt host kh _ (Kd.R_reads' D.out.r).2.2 (Kd.R_reads' D.out.r).2.1 HKH.out).mono ?_
      rintro e_ w66 ⟨rfl, hb⟩
      have n1_ := aS_ (D.out.below hb)
      have n2_ := aS_ (blk_below BKP.out hb)
      have n3_ := aS_ (blk_below BKQ.out hb)
      clear D BKP BKQ hb
      have D := n1_
      have BKP := n2_
      have BKQ := n3_
      clear n1_ n2_ n3_
      refine ⟨_, rfl, ?_⟩
      refine hK.out _ _ ⟨bC_ BKQ.out 0 rfl, bC_ BKP.out 0 rfl, bC_ D.out.b 14 rfl, bC_ D.out.b 15 rfl, bC_ D.out.b 16 rfl, bC_ D.out.b 17 rfl, bC_ D.out.b 18 rfl, bC_ D.out.b 10 rfl⟩ (fun hHeld => ?_)
      clear hK K
      refine norm_ (a' := ?_) ?_ ?_
      rotate_left
      ·show Act.put _ (some 54) _ = _
       simp only [Act.put, la_, lb_, lc_, i64_w, i32_w]
       rfl
      refine qon_ 26 (some 60) (dB 30 134217727) ?_
      refine qon_ 27 (some 61) (dB 30 268435455) ?_
      refine qon_ 28 (some 62) (dB 30 536870911) ?_
      refine qon_ 29 (some 5) (dB 30 1073741823) ?_
      refine done_ (by kernel_rfl) ?_
      have hcp : w66.cell? ⟨gp, 0, none⟩ = some (.pointer (some ⟨gd, 0, none⟩)) := bC_ BKP.out 0 rfl; have hcd10 : w66.cell? ⟨gd, 10, none⟩ = some (.int .u64 c.f10) := bC_ D.out.b 10 rfl; have hcd14 : w66.cell? ⟨gd, 14, none⟩ = some (.slice Au l.length cu) := bC_ D.out.b 14 rfl
      go_wp2_with (first
        | (go_at_call 60; refine (contains_struck (struckP c false) gp gq Au cu l _ (Kd.R_reads' D.out.r).2.2 HN.out (fun s ky w1 hb_ => struck_calls gd gp gq c rg _ _ typ host gen apt false s ky w1 (blk_below D.out.b hb_) (blk_below BKP.out hb_) (blk_below BKQ.out hb_))).mono ?_; rw [HI0.out]; rintro e w67 ⟨rfl, hb_⟩; have n1_ := aS_ (D.out.below hb_); have n2_ := aS_ (blk_below BKP.out hb_); have n3_ := aS_ (blk_below BKQ.out hb_); clear D BKP BKQ hb_ hcp hcd10 hcd14; have D := n1_; have BKP := n2_; have BKQ := n3_; clear n1_ n2_ n3_; have hcp : w67.cell? ⟨gp, 0, none⟩ = some (.pointer (some ⟨gd, 0, none⟩)) := bC_ BKP.out 0 rfl))
      go_ret
      exact ⟨rfl, D.out⟩
    · skip
      have hho : host.toList = ([] : List UInt8) := Classical.byContradiction hho
      have d1 : (host.toList == ([] : List UInt8)) = true := beq_iff_eq.mpr hho
      clear htk
      go_enter Tryd.func34, Tryd.ntmps34
      go_wp2_with (first
        | ((with_reducible refine gate_dst (N := 1) rfl ?_); refine bX_ (N := 1) (cs := #[.pointer (some ⟨gd, 0, none⟩)]) (t := 63) ?hr ?_; (case hr => first | (go_simp; done) | (go_simp; rfl)); intro gp hg w0_ hbox hb; have NP_ := aS_ (show gp ≠ gd by rw [hg]; exact Ne.symm (Nat.ne_of_lt (blk_lt D.out.b))); have n1_ := aS_ (D.out.below hb); clear D; have D := n1_; have BKP := aS_ hbox; have hcp : w0_.cell? ⟨gp, 0, none⟩ = some (.pointer (some ⟨gd, 0, none⟩)) := bC_ hbox 0 rfl; have hcd11 : w0_.cell? ⟨gd, 11, none⟩ = some (.int .i64 c.f11) := bC_ D.out.b 11 rfl; clear n1_ hb hbox hg)
        | (go_at_call 45; refine (access_Type.calls c.f11 true _ HT.out).mono ?_; rintro e w1 ⟨rfl, hd⟩; have hb_ := hd.below; have n1_ := aS_ (D.out.below hb_); clear D hd hcd11; have D := n1_; clear n1_; have x1_ := aS_ (blk_below BKP.out hb_); clear BKP hcp; have BKP := x1_; clear x1_; have hcp : w1.cell? ⟨gp, 0, none⟩ = some (.pointer (some ⟨gd, 0, none⟩)) := bC_ BKP.out 0 rfl; clear hb_)
        | (go_at_call 57; refine (asks_calls k w0 gd c rg _ _ l ev typ host gen apt kk _ D.out HK.out).mono ?_; rw [HA.out]; rintro e w2 ⟨rfl, hb_⟩; have n1_ := aS_ (D.out.below hb_); clear D; have D := n1_; clear n1_; have x1_ := aS_ (blk_below BKP.out hb_); clear BKP hcp; have BKP := x1_; clear x1_; have hcp : w2.cell? ⟨gp, 0, none⟩ = some (.pointer (some ⟨gd, 0, none⟩)) := bC_ BKP.out 0 rfl; clear hb_; have hcd15 : w2.cell? ⟨gd, 15, none⟩ = some (.int .i64 typ) := bC_ D.out.b 15 rfl; have hcd10 : w2.cell? ⟨gd, 10, none⟩ = some (.int .u64 c.f10) := bC_ D.out.b 10 rfl)
        | (go_at_call 46; refine (resv_everybody.calls typ false _ HE.out).mono ?_; rintro e w3 ⟨rfl, hd⟩; have hb_ := hd.below; have n1_ := aS_ (D.out.below hb_); clear D hd hcd15 hcd10; have D := n1_; clear n1_; have x1_ := aS_ (blk_below BKP.out hb_); clear BKP hcp; have BKP := x1_; clear x1_; have hcp : w3.cell? ⟨gp, 0, none⟩ = some (.pointer (some ⟨gd, 0, none⟩)) := bC_ BKP.out 0 rfl; clear hb_; have hcd15 : w3.cell? ⟨gd, 15, none⟩ = some (.int .i64 typ) := bC_ D.out.b 15 rfl; have hcd10 : w3.cell? ⟨gd, 10, none⟩ = some (.int .u64 c.f10) := bC_ D.out.b 10 rfl)
        | ((with_reducible refine gate_dst (N := 3) rfl ?_); refine bX_ (N := 3) (cs := #[.bool false]) (t := 4) ?hr ?_; (case hr => first | (go_simp; done) | (go_simp; rfl)); intro gq hg w4 hbox hb; have NQ_ := aS_ (show gq ≠ gd by rw [hg]; exact Ne.symm (Nat.ne_of_lt (blk_lt D.out.b))); have NPQ := aS_ (show gp ≠ gq by rw [hg]; exact Nat.ne_of_lt (blk_lt BKP.out)); have GQ := aS_ (show w3.heap.size ≤ gq by rw [hg]; exact Nat.le_refl _); have BW := aS_ hb; have BKQ := aS_ hbox; have hcq : w4.cell? ⟨gq, 0, none⟩ = some (.bool false) := bC_ hbox 0 rfl; have hfq := bF_ hbox 0; clear hb hbox hg hcp hcd15 hcd10)
        | ((with_reducible refine gate_dst (N := 33) rfl ?_); refine good_world (fun w' => Aside0 (Below w3.heap.size w3 w') ∧ Aside0 (w'.heap[gq]? = some (.cells #[.bool false] 4 (0, 0)))) ⟨⟨below_set BW.out GQ.out⟩, ⟨blk_put BKQ.out 0 _ rfl⟩⟩ ?_; rintro w5 ⟨hbw, hbq⟩; clear BW BKQ hcq hfq GQ; have BKQ := hbq; have n1_ := aS_ (D.out.below hbw.out); have n2_ := aS_ (blk_below BKP.out hbw.out); clear D BKP hbw hbq; have D := n1_; have BKP := n2_; clear n1_ n2_))
      have n1_ := aS_ (D.out.below (below_drew (Below.refl _ _)))
      have n2_ := aS_ (blk_drew BKP.out)
      have n3_ := aS_ (blk_drew BKQ.out)
      clear D BKP BKQ
      have D := n1_
      have BKP := n2_
      have BKQ := n3_
      clear n1_ n2_ n3_
      refine start_ (n := 30) (S := fun w' => w'.cell? ⟨gq, 0, none⟩ = some (.bool false) ∧ w'.cell? ⟨gp, 0, none⟩ = some (.pointer (some ⟨gd, 0, none⟩)) ∧ w'.cell? ⟨gd, 14, none⟩ = some (.slice Au l.length cu) ∧ w'.cell? ⟨gd, 15, none⟩ = some (.int .i64 typ) ∧ w'.cell? ⟨gd, 16, none⟩ = some (.string host) ∧ w'.cell? ⟨gd, 17, none⟩ = some (.int .u32 gen) ∧ w'.cell? ⟨gd, 18, none⟩ = some (.bool apt) ∧ w'.cell? ⟨gd, 10, none⟩ = some (.int .u64 c.f10)) (ds := []) #[false, false, false, false, false, false, false, false, false, false, false, false, false, false, false, false, false, false, false, false, false, false, false, false, false, false, false, false, false, false] (by kernel_rfl) rfl rfl ⟨bC_ BKQ.out 0 rfl, bC_ BKP.out 0 rfl, bC_ D.out.b 14 rfl, bC_ D.out.b 15 rfl, bC_ D.out.b 16 rfl, bC_ D.out.b 17 rfl, bC_ D.out.b 18 rfl, bC_ D.out.b 10 rfl⟩ (fun hHeld => ?_)
      generalize w5.drew = w6 at D BKP BKQ hHeld ⊢
      refine qtk_ 0 (some 34) (dB 30 1) hHeld ?_
      refine qon_ 1 (some 35) (dB 30 3) ?_
      refine qtk_ 2 (some 36) (dB 30 7) hHeld ?_
      refine qon_ 3 (some 37) (dB 30 15) ?_
      refine qon_ 4 (some 38) (dB 30 31) ?_
      refine qon_ 5 (some 39) (dB 30 63) ?_
      refine qon_ 6 (some 40) (dB 30 127) ?_
      refine qtk_ 7 (some 41) (dB 30 255) hHeld ?_
      refine qon_ 8 (some 42) (dB 30 511) ?_
      refine qon_ 9 (some 43) (dB 30 1023) ?_
      refine qof_ 10 (some 44) (dB 30 2047) ?_
      refine qof_ 11 (some 45) (dB 30 4095) ?_
      refine qof_ 12 (some 46) (dB 30 8191) ?_
      refine qof_ 13 (some 47) (dB 30 16383) ?_
      refine qof_ 14 (some 48) (dB 30 32767) ?_
      refine qof_ 15 (some 49) (dB 30 65535) ?_
      refine qof_ 16 (some 50) (dB 30 131071) ?_
      refine qof_ 17 (some 51) (dB 30 262143) ?_
      refine qof_ 18 (some 52) (dB 30 524287) ?_
      refine qof_ 19 (some 53) (dB 30 1048575) ?_
      refine qof_ 20 (some 54) (dB 30 2097151) ?_
      refine qof_ 21 (some 55) (dB 30 4194303) ?_
      refine qof_ 22 (some 56) (dB 30 8388607) ?_
      refine qof_ 23 (some 57) (dB 30 16777215) ?_
      refine qof_ 24 (some 58) (dB 30 33554431) ?_
      refine qof_ 25 (some 59) (dB 30 67108863) ?_
      refine qof_ 26 (some 60) (dB 30 134217727) ?_
      refine qon_ 27 (some 61) (dB 30 268435455) ?_
      refine qon_ 28 (some 62) (dB 30 536870911) ?_
      refine qon_ 29 (some 5) (dB 30 1073741823) ?_
      refine done_ (by kernel_rfl) ?_
      have hcp : w6.cell? ⟨gp, 0, none⟩ = some (.pointer (some ⟨gd, 0, none⟩)) := bC_ BKP.out 0 rfl; have hcd10 : w6.cell? ⟨gd, 10, none⟩ = some (.int .u64 c.f10) := bC_ D.out.b 10 rfl; have hcd14 : w6.cell? ⟨gd, 14, none⟩ = some (.slice Au l.length cu) := bC_ D.out.b 14 rfl
      go_wp2_with (first
        | (go_at_call 60; refine (contains_struck (struckP c false) gp gq Au cu l _ (Kd.R_reads' D.out.r).2.2 HN.out (fun s ky w1 hb_ => struck_calls gd gp gq c rg _ _ typ host gen apt false s ky w1 (blk_below D.out.b hb_) (blk_below BKP.out hb_) (blk_below BKQ.out hb_))).mono ?_; rw [HI0.out]; rintro e w67 ⟨rfl, hb_⟩; have n1_ := aS_ (D.out.below hb_); have n2_ := aS_ (blk_below BKP.out hb_); have n3_ := aS_ (blk_below BKQ.out hb_); clear D BKP BKQ hb_ hcp hcd10 hcd14; have D := n1_; have BKP := n2_; have BKQ := n3_; clear n1_ n2_ n3_; have hcp : w67.cell? ⟨gp, 0, none⟩ = some (.pointer (some ⟨gd, 0, none⟩)) := bC_ BKP.out 0 rfl))
      go_ret
      exact ⟨rfl, D.out⟩
  · skip
    by_cases hho : host.toList ≠ ([] : List UInt8)
    · skip
      have d1 : (host.toList == ([] : List UInt8)) = false := beq_eq_false_iff_ne.mpr hho
      have d2 : (host.toList = ([] : List UInt8)) = False := eq_false hho
      have d3 : (kh == c.f10) = false := beq_eq_false_iff_ne.mpr (fun z => htk ⟨hho, z⟩)
      clear hho htk
      go_enter Tryd.func34, Tryd.ntmps34
      go_wp2_with (first
        | ((with_reducible refine gate_dst (N := 1) rfl ?_); refine bX_ (N := 1) (cs := #[.pointer (some ⟨gd, 0, none⟩)]) (t := 63) ?hr ?_; (case hr => first | (go_simp; done) | (go_simp; rfl)); intro gp hg w0_ hbox hb; have NP_ := aS_ (show gp ≠ gd by rw [hg]; exact Ne.symm (Nat.ne_of_lt (blk_lt D.out.b))); have n1_ := aS_ (D.out.below hb); clear D; have D := n1_; have BKP := aS_ hbox; have hcp : w0_.cell? ⟨gp, 0, none⟩ = some (.pointer (some ⟨gd, 0, none⟩)) := bC_ hbox 0 rfl; have hcd11 : w0_.cell? ⟨gd, 11, none⟩ = some (.int .i64 c.f11) := bC_ D.out.b 11 rfl; clear n1_ hb hbox hg)
        | (go_at_call 45; refine (access_Type.calls c.f11 true _ HT.out).mono ?_; rintro e w1 ⟨rfl, hd⟩; have hb_ := hd.below; have n1_ := aS_ (D.out.below hb_); clear D hd hcd11; have D := n1_; clear n1_; have x1_ := aS_ (blk_below BKP.out hb_); clear BKP hcp; have BKP := x1_; clear x1_; have hcp : w1.cell? ⟨gp, 0, none⟩ = some (.pointer (some ⟨gd, 0, none⟩)) := bC_ BKP.out 0 rfl; clear hb_)
        | (go_at_call 57; refine (asks_calls k w0 gd c rg _ _ l ev typ host gen apt kk _ D.out HK.out).mono ?_; rw [HA.out]; rintro e w2 ⟨rfl, hb_⟩; have n1_ := aS_ (D.out.below hb_); clear D; have D := n1_; clear n1_; have x1_ := aS_ (blk_below BKP.out hb_); clear BKP hcp; have BKP := x1_; clear x1_; have hcp : w2.cell? ⟨gp, 0, none⟩ = some (.pointer (some ⟨gd, 0, none⟩)) := bC_ BKP.out 0 rfl; clear hb_; have hcd15 : w2.cell? ⟨gd, 15, none⟩ = some (.int .i64 typ) := bC_ D.out.b 15 rfl; have hcd10 : w2.cell? ⟨gd, 10, none⟩ = some (.int .u64 c.f10) := bC_ D.out.b 10 rfl)
        | (go_at_call 46; refine (resv_everybody.calls typ true _ HE.out).mono ?_; rintro e w3 ⟨rfl, hd⟩; have hb_ := hd.below; have n1_ := aS_ (D.out.below hb_); clear D hd hcd15 hcd10; have D := n1_; clear n1_; have x1_ := aS_ (blk_below BKP.out hb_); clear BKP hcp; have BKP := x1_; clear x1_; have hcp : w3.cell? ⟨gp, 0, none⟩ = some (.pointer (some ⟨gd, 0, none⟩)) := bC_ BKP.out 0 rfl; clear hb_; have hcd15 : w3.cell? ⟨gd, 15, none⟩ = some (.int .i64 typ) := bC_ D.out.b 15 rfl; have hcd10 : w3.cell? ⟨gd, 10, none⟩ = some (.int .u64 c.f10) := bC_ D.out.b 10 rfl)
        | ((with_reducible refine gate_dst (N := 3) rfl ?_); refine bX_ (N := 3) (cs := #[.bool false]) (t := 4) ?hr ?_; (case hr => first | (go_simp; done) | (go_simp; rfl)); intro gq hg w4 hbox hb; have NQ_ := aS_ (show gq ≠ gd by rw [hg]; exact Ne.symm (Nat.ne_of_lt (blk_lt D.out.b))); have NPQ := aS_ (show gp ≠ gq by rw [hg]; exact Nat.ne_of_lt (blk_lt BKP.out)); have GQ := aS_ (show w3.heap.size ≤ gq by rw [hg]; exact Nat.le_refl _); have BW := aS_ hb; have BKQ := aS_ hbox; have hcq : w4.cell? ⟨gq, 0, none⟩ = some (.bool false) := bC_ hbox 0 rfl; have hfq := bF_ hbox 0; clear hb hbox hg hcp hcd15 hcd10)
        | ((with_reducible refine gate_dst (N := 33) rfl ?_); refine good_world (fun w' => Aside0 (Below w3.heap.size w3 w') ∧ Aside0 (w'.heap[gq]? = some (.cells #[.bool false] 4 (0, 0)))) ⟨⟨below_set BW.out GQ.out⟩, ⟨blk_put BKQ.out 0 _ rfl⟩⟩ ?_; rintro w5 ⟨hbw, hbq⟩; clear BW BKQ hcq hfq GQ; have BKQ := hbq; have n1_ := aS_ (D.out.below hbw.out); have n2_ := aS_ (blk_below BKP.out hbw.out); clear D BKP hbw hbq; have D := n1_; have BKP := n2_; clear n1_ n2_))
      have n1_ := aS_ (D.out.below (below_drew (Below.refl _ _)))
      have n2_ := aS_ (blk_drew BKP.out)
      have n3_ := aS_ (blk_drew BKQ.out)
      clear D BKP BKQ
      have D := n1_
      have BKP := n2_
      have BKQ := n3_
      clear n1_ n2_ n3_
      refine start_ (n := 30) (S := fun w' => w'.cell? ⟨gq, 0, none⟩ = some (.bool false) ∧ w'.cell? ⟨gp, 0, none⟩ = some (.pointer (some ⟨gd, 0, none⟩)) ∧ w'.cell? ⟨gd, 14, none⟩ = some (.slice Au l.length cu) ∧ w'.cell? ⟨gd, 15, none⟩ = some (.int .i64 typ) ∧ w'.cell? ⟨gd, 16, none⟩ = some (.string host) ∧ w'.cell? ⟨gd, 17, none⟩ = some (.int .u32 gen) ∧ w'.cell? ⟨gd, 18, none⟩ = some (.bool apt) ∧ w'.cell? ⟨gd, 10, none⟩ = some (.int .u64 c.f10)) (ds := []) #[false, false, false, false, false, false, false, false, false, false, false, false, false, false, false, false, false, false, false, false, false, false, false, false, false, false, false, false, false, false] (by kernel_rfl) rfl rfl ⟨bC_ BKQ.out 0 rfl, bC_ BKP.out 0 rfl, bC_ D.out.b 14 rfl, bC_ D.out.b 15 rfl, bC_ D.out.b 16 rfl, bC_ D.out.b 17 rfl, bC_ D.out.b 18 rfl, bC_ D.out.b 10 rfl⟩ (fun hHeld => ?_)
      generalize w5.drew = w6 at D BKP BKQ hHeld ⊢
      refine qtk_ 0 (some 34) (dB 30 1) hHeld ?_
      refine qon_ 1 (some 35) (dB 30 3) ?_
      refine qtk_ 2 (some 36) (dB 30 7) hHeld ?_
      refine qon_ 3 (some 37) (dB 30 15) ?_
      refine qon_ 4 (some 38) (dB 30 31) ?_
      refine qon_ 5 (some 39) (dB 30 63) ?_
      refine qon_ 6 (some 40) (dB 30 127) ?_
      refine qtk_ 7 (some 41) (dB 30 255) hHeld ?_
      refine qon_ 8 (some 42) (dB 30 511) ?_
      refine qon_ 9 (some 43) (dB 30 1023) ?_
      refine qtk_ 10 (some 44) (dB 30 2047) hHeld ?_
      refine qon_ 11 (some 45) (dB 30 4095) ?_
      refine qon_ 12 (some 46) (dB 30 8191) ?_
      refine qtk_ 13 (some 47) (dB 30 16383) hHeld ?_
      refine qtk_ 14 (some 48) (dB 30 32767) hHeld ?_
      refine qon_ 15 (some 49) (dB 30 65535) ?_
      refine qon_ 16 (some 50) (dB 30 131071) ?_
      refine qon_ 17 (some 51) (dB 30 262143) ?_
      refine qon_ 18 (some 52) (dB 30 524287) ?_
      refine qtk_ 19 (some 53) (dB 30 1048575) hHeld ?_
      refine qtk_ 21 (some 55) (dB 30 3145727) hHeld ?_
      refine qon_ 22 (some 56) (dB 30 7340031) ?_
      refine qon_ 23 (some 57) (dB 30 15728639) ?_
      refine qon_ 24 (some 58) (dB 30 32505855) ?_
      refine qtk_ 25 (some 59) (dB 30 66060287) hHeld ?_
      refine one_ (i := 20) (N := some 54) (dB 30 67108863) rfl rfl (by kernel_rfl) (by decide) (fun K hK => ?_)
      refine goes_ Tryd.func24 (by kernel_rfl) rfl #[.agg #[.slice Au l.length cu, .int .i64 typ, .string host, .int .u32 gen, .bool apt], .string host] (by rfl) rfl rfl (by simp only [List.map_toArray, List.map_cons, List.map_nil]; rfl) ?_
      with_reducible refine (resv_Key.calls k Au cu l typ host gen apt host kh _ (Kd.R_reads' D.out.r).2.2 (Kd.R_reads' D.out.r).2.1 HKH.out).mono ?_
      rintro e_ w66 ⟨rfl, hb⟩
      have n1_ := aS_ (D.out.below hb)
      have n2_ := aS_ (blk_below BKP.out hb)
      have n3_ := aS_ (blk_below BKQ.out hb)
      clear D BKP BKQ hb
      have D := n1_
      have BKP := n2_
      have BKQ := n3_
      clear n1_ n2_ n3_
      refine ⟨_, rfl, ?_⟩
      refine hK.out _ _ ⟨bC_ BKQ.out 0 rfl, bC_ BKP.out 0 rfl, bC_ D.out.b 14 rfl, bC_ D.out.b 15 rfl, bC_ D.out.b 16 rfl, bC_ D.out.b 17 rfl, bC_ D.out.b 18 rfl, bC_ D.out.b 10 rfl⟩ (fun hHeld => ?_)
      clear hK K
      refine norm_ (a' := ?_) ?_ ?_
      rotate_left
      ·show Act.put _ (some 54) _ = _
       simp only [Act.put, la_, lb_, lc_, i64_w, i32_w]
       rfl
      refine qon_ 26 (some 60) (dB 30 134217727) ?_
      refine qon_ 27 (some 61) (dB 30 268435455) ?_
      refine qon_ 28 (some 62) (dB 30 536870911) ?_
      refine qon_ 29 (some 5) (dB 30 1073741823) ?_
      refine done_ (by kernel_rfl) ?_
      have hcp : w66.cell? ⟨gp, 0, none⟩ = some (.pointer (some ⟨gd, 0, none⟩)) := bC_ BKP.out 0 rfl; have hcd10 : w66.cell? ⟨gd, 10, none⟩ = some (.int .u64 c.f10) := bC_ D.out.b 10 rfl; have hcd14 : w66.cell? ⟨gd, 14, none⟩ = some (.slice Au l.length cu) := bC_ D.out.b 14 rfl
      go_wp2_with (first
        | (go_at_call 60; refine (contains_struck (struckP c false) gp gq Au cu l _ (Kd.R_reads' D.out.r).2.2 HN.out (fun s ky w1 hb_ => struck_calls gd gp gq c rg _ _ typ host gen apt false s ky w1 (blk_below D.out.b hb_) (blk_below BKP.out hb_) (blk_below BKQ.out hb_))).mono ?_; rw [HI0.out]; rintro e w67 ⟨rfl, hb_⟩; have n1_ := aS_ (D.out.below hb_); have n2_ := aS_ (blk_below BKP.out hb_); have n3_ := aS_ (blk_below BKQ.out hb_); clear D BKP BKQ hb_ hcp hcd10 hcd14; have D := n1_; have BKP := n2_; have BKQ := n3_; clear n1_ n2_ n3_; have hcp : w67.cell? ⟨gp, 0, none⟩ = some (.pointer (some ⟨gd, 0, none⟩)) := bC_ BKP.out 0 rfl))
      go_ret
      exact ⟨rfl, D.out⟩
    · skip
      have hho : host.toList = ([] : List UInt8) := Classical.byContradiction hho
      have d1 : (host.toList == ([] : List UInt8)) = true := beq_iff_eq.mpr hho
      clear htk
      go_enter Tryd.func34, Tryd.ntmps34
      go_wp2_with (first
        | ((with_reducible refine gate_dst (N := 1) rfl ?_); refine bX_ (N := 1) (cs := #[.pointer (some ⟨gd, 0, none⟩)]) (t := 63) ?hr ?_; (case hr => first | (go_simp; done) | (go_simp; rfl)); intro gp hg w0_ hbox hb; have NP_ := aS_ (show gp ≠ gd by rw [hg]; exact Ne.symm (Nat.ne_of_lt (blk_lt D.out.b))); have n1_ := aS_ (D.out.below hb); clear D; have D := n1_; have BKP := aS_ hbox; have hcp : w0_.cell? ⟨gp, 0, none⟩ = some (.pointer (some ⟨gd, 0, none⟩)) := bC_ hbox 0 rfl; have hcd11 : w0_.cell? ⟨gd, 11, none⟩ = some (.int .i64 c.f11) := bC_ D.out.b 11 rfl; clear n1_ hb hbox hg)
        | (go_at_call 45; refine (access_Type.calls c.f11 true _ HT.out).mono ?_; rintro e w1 ⟨rfl, hd⟩; have hb_ := hd.below; have n1_ := aS_ (D.out.below hb_); clear D hd hcd11; have D := n1_; clear n1_; have x1_ := aS_ (blk_below BKP.out hb_); clear BKP hcp; have BKP := x1_; clear x1_; have hcp : w1.cell? ⟨gp, 0, none⟩ = some (.pointer (some ⟨gd, 0, none⟩)) := bC_ BKP.out 0 rfl; clear hb_)
        | (go_at_call 57; refine (asks_calls k w0 gd c rg _ _ l ev typ host gen apt kk _ D.out HK.out).mono ?_; rw [HA.out]; rintro e w2 ⟨rfl, hb_⟩; have n1_ := aS_ (D.out.below hb_); clear D; have D := n1_; clear n1_; have x1_ := aS_ (blk_below BKP.out hb_); clear BKP hcp; have BKP := x1_; clear x1_; have hcp : w2.cell? ⟨gp, 0, none⟩ = some (.pointer (some ⟨gd, 0, none⟩)) := bC_ BKP.out 0 rfl; clear hb_; have hcd15 : w2.cell? ⟨gd, 15, none⟩ = some (.int .i64 typ) := bC_ D.out.b 15 rfl; have hcd10 : w2.cell? ⟨gd, 10, none⟩ = some (.int .u64 c.f10) := bC_ D.out.b 10 rfl)
        | (go_at_call 46; refine (resv_everybody.calls typ true _ HE.out).mono ?_; rintro e w3 ⟨rfl, hd⟩; have hb_ := hd.below; have n1_ := aS_ (D.out.below hb_); clear D hd hcd15 hcd10; have D := n1_; clear n1_; have x1_ := aS_ (blk_below BKP.out hb_); clear BKP hcp; have BKP := x1_; clear x1_; have hcp : w3.cell? ⟨gp, 0, none⟩ = some (.pointer (some ⟨gd, 0, none⟩)) := bC_ BKP.out 0 rfl; clear hb_; have hcd15 : w3.cell? ⟨gd, 15, none⟩ = some (.int .i64 typ) := bC_ D.out.b 15 rfl; have hcd10 : w3.cell? ⟨gd, 10, none⟩ = some (.int .u64 c.f10) := bC_ D.out.b 10 rfl)
        | ((with_reducible refine gate_dst (N := 3) rfl ?_); refine bX_ (N := 3) (cs := #[.bool false]) (t := 4) ?hr ?_; (case hr => first | (go_simp; done) | (go_simp; rfl)); intro gq hg w4 hbox hb; have NQ_ := aS_ (show gq ≠ gd by rw [hg]; exact Ne.symm (Nat.ne_of_lt (blk_lt D.out.b))); have NPQ := aS_ (show gp ≠ gq by rw [hg]; exact Nat.ne_of_lt (blk_lt BKP.out)); have GQ := aS_ (show w3.heap.size ≤ gq by rw [hg]; exact Nat.le_refl _); have BW := aS_ hb; have BKQ := aS_ hbox; have hcq : w4.cell? ⟨gq, 0, none⟩ = some (.bool false) := bC_ hbox 0 rfl; have hfq := bF_ hbox 0; clear hb hbox hg hcp hcd15 hcd10)
        | ((with_reducible refine gate_dst (N := 33) rfl ?_); refine good_world (fun w' => Aside0 (Below w3.heap.size w3 w') ∧ Aside0 (w'.heap[gq]? = some (.cells #[.bool false] 4 (0, 0)))) ⟨⟨below_set BW.out GQ.out⟩, ⟨blk_put BKQ.out 0 _ rfl⟩⟩ ?_; rintro w5 ⟨hbw, hbq⟩; clear BW BKQ hcq hfq GQ; have BKQ := hbq; have n1_ := aS_ (D.out.below hbw.out); have n2_ := aS_ (blk_below BKP.out hbw.out); clear D BKP hbw hbq; have D := n1_; have BKP := n2_; clear n1_ n2_))
      have n1_ := aS_ (D.out.below (below_drew (Below.refl _ _)))
      have n2_ := aS_ (blk_drew BKP.out)
      have n3_ := aS_ (blk_drew BKQ.out)
      clear D BKP BKQ
      have D := n1_
      have BKP := n2_
      have BKQ := n3_
      clear n1_ n2_ n3_
      refine start_ (n := 30) (S := fun w' => w'.cell? ⟨gq, 0, none⟩ = some (.bool false) ∧ w'.cell? ⟨gp, 0, none⟩ = some (.pointer (some ⟨gd, 0, none⟩)) ∧ w'.cell? ⟨gd, 14, none⟩ = some (.slice Au l.length cu) ∧ w'.cell? ⟨gd, 15, none⟩ = some (.int .i64 typ) ∧ w'.cell? ⟨gd, 16, none⟩ = some (.string host) ∧ w'.cell? ⟨gd, 17, none⟩ = some (.int .u32 gen) ∧ w'.cell? ⟨gd, 18, none⟩ = some (.bool apt) ∧ w'.cell? ⟨gd, 10, none⟩ = some (.int .u64 c.f10)) (ds := []) #[false, false, false, false, false, false, false, false, false, false, false, false, false, false, false, false, false, false, false, false, false, false, false, false, false, false, false, false, false, false] (by kernel_rfl) rfl rfl ⟨bC_ BKQ.out 0 rfl, bC_ BKP.out 0 rfl, bC_ D.out.b 14 rfl, bC_ D.out.b 15 rfl, bC_ D.out.b 16 rfl, bC_ D.out.b 17 rfl, bC_ D.out.b 18 rfl, bC_ D.out.b 10 rfl⟩ (fun hHeld => ?_)
      generalize w5.drew = w6 at D BKP BKQ hHeld ⊢
      refine qtk_ 0 (some 34) (dB 30 1) hHeld ?_
      refine qon_ 1 (some 35) (dB 30 3) ?_
      refine qtk_ 2 (some 36) (dB 30 7) hHeld ?_
      refine qon_ 3 (some 37) (dB 30 15) ?_
      refine qon_ 4 (some 38) (dB 30 31) ?_
      refine qon_ 5 (some 39) (dB 30 63) ?_
      refine qon_ 6 (some 40) (dB 30 127) ?_
      refine qtk_ 7 (some 41) (dB 30 255) hHeld ?_
      refine qon_ 8 (some 42) (dB 30 511) ?_
      refine qon_ 9 (some 43) (dB 30 1023) ?_
      refine qof_ 10 (some 44) (dB 30 2047) ?_
      refine qof_ 11 (some 45) (dB 30 4095) ?_
      refine qof_ 12 (some 46) (dB 30 8191) ?_
      refine qof_ 13 (some 47) (dB 30 16383) ?_
      refine qof_ 14 (some 48) (dB 30 32767) ?_
      refine qof_ 15 (some 49) (dB 30 65535) ?_
      refine qof_ 16 (some 50) (dB 30 131071) ?_
      refine qof_ 17 (some 51) (dB 30 262143) ?_
      refine qof_ 18 (some 52) (dB 30 524287) ?_
      refine qof_ 19 (some 53) (dB 30 1048575) ?_
      refine qof_ 20 (some 54) (dB 30 2097151) ?_
      refine qof_ 21 (some 55) (dB 30 4194303) ?_
      refine qof_ 22 (some 56) (dB 30 8388607) ?_
      refine qof_ 23 (some 57) (dB 30 16777215) ?_
      refine qof_ 24 (some 58) (dB 30 33554431) ?_
      refine qof_ 25 (some 59) (dB 30 67108863) ?_
      refine qof_ 26 (some 60) (dB 30 134217727) ?_
      refine qon_ 27 (some 61) (dB 30 268435455) ?_
      refine qon_ 28 (some 62) (dB 30 536870911) ?_
      refine qon_ 29 (some 5) (dB 30 1073741823) ?_
      refine done_ (by kernel_rfl) ?_
      have hcp : w6.cell? ⟨gp, 0, none⟩ = some (.pointer (some ⟨gd, 0, none⟩)) := bC_ BKP.out 0 rfl; have hcd10 : w6.cell? ⟨gd, 10, none⟩ = some (.int .u64 c.f10) := bC_ D.out.b 10 rfl; have hcd14 : w6.cell? ⟨gd, 14, none⟩ = some (.slice Au l.length cu) := bC_ D.out.b 14 rfl
      go_wp2_with (first
        | (go_at_call 60; refine (contains_struck (struckP c false) gp gq Au cu l _ (Kd.R_reads' D.out.r).2.2 HN.out (fun s ky w1 hb_ => struck_calls gd gp gq c rg _ _ typ host gen apt false s ky w1 (blk_below D.out.b hb_) (blk_below BKP.out hb_) (blk_below BKQ.out hb_))).mono ?_; rw [HI0.out]; rintro e w67 ⟨rfl, hb_⟩; have n1_ := aS_ (D.out.below hb_); have n2_ := aS_ (blk_below BKP.out hb_); have n3_ := aS_ (blk_below BKQ.out hb_); clear D BKP BKQ hb_ hcp hcd10 hcd14; have D := n1_; have BKP := n2_; have BKQ := n3_; clear n1_ n2_ n3_; have hcp : w67.cell? ⟨gp, 0, none⟩ = some (.pointer (some ⟨gd, 0, none⟩)) := bC_ BKP.out 0 rfl))
      go_ret
      exact ⟨rfl, D.out⟩
theorem preempt_hit (k : Nat) (w0 : World) (gd : Nat) (c : S31) (rg u ue : Value) (l : List S53) (ev : List S46) (typ : Int) (host : ByteArray) (gen : Int) (apt : Bool) (kk : Int) (w : World) (hd : Dd w0 w gd c rg u l typ host gen apt ue ev) (hk : resv_Key.f k l typ host gen apt c.f2 = some kk) (eb : Bool) (ht : access_Type.f c.f11 = some true) (ha : (kk != 0 && kk == c.f8) = true) (he : resv_everybody.f typ = some eb) (kh : Int) (hkh : resv_Key.f k l typ host gen apt host = some kh) (htk : ¬ (host.toList ≠ ([] : List UInt8) ∧ kh = c.f10)) (h0 : c.f10 ≠ 0) (hn : l.length ≤ 1000) (hev : ev.length ≤ 1000) (hi0 : decide (0 ≤ idxP (struckP c false) l) = true) :
    Calls Tryd.prog 34 #[.pointer (some ⟨gd, 0, none⟩)] w fun e w' => e = .returned (.int .i64 1) ∧ ∃ u2 ue2, Dd w0 w' gd c rg u2 (l.filter fun x => !struckP c false x.f0 x.f1) typ host ((gen + 1) % 4294967296) apt ue2 (ev ++ told c (struckP c false) 2 l l.length) := by
  have hu66 := Tryd.underlying66
  have hu31 := Tryd.underlying31
  have hu27 := Tryd.underlying27
  have hu24 := Tryd.underlying24
  have D := aS_ hd
  have HK := aS_ hk
  have HT := aS_ ht
  clear ht
  have HA := aS_ ha
  clear ha
  have hmf : ∀ (fn : Fn) (first cap : Array Value) (w : World), (Instr.makeFunc fn first cap).run Tryd.prog w = .ok (.func fn first cap) w := fun _ _ _ _ => rfl
  have HE := aS_ he
  have HKH := aS_ hkh
  clear he hkh
  have d0 : (c.f10 == 0) = false := beq_eq_false_iff_ne.mpr h0
  clear h0
  have HN := aS_ hn
  clear hn
  have HI0 := aS_ hi0
  clear hi0
  have HEV := aS_ hev
  clear hev
  obtain ⟨Au, cu, eu⟩ := Kd.R_slice hd.r
  subst eu
  clear hd hk
  cases eb
  · skip
    by_cases hho : host.toList ≠ ([] : List UInt8)
    · skip
      have d1 : (host.toList == ([] : List UInt8)) = false := beq_eq_false_iff_ne.mpr hho
      have d2 : (host.toList = ([] : List UInt8)) = False := eq_false hho
      have d3 : (kh == c.f10) = false := beq_eq_false_iff_ne.mpr (fun z => htk ⟨hho, z⟩)
      clear hho htk
      go_enter Tryd.func34, Tryd.ntmps34
      go_wp2_with (first
        | ((with_reducible refine gate_dst (N := 1) rfl ?_); refine bX_ (N := 1) (cs := #[.pointer (some ⟨gd, 0, none⟩)]) (t := 63) ?hr ?_; (case hr => first | (go_simp; done) | (go_simp; rfl)); intro gp hg w0_ hbox hb; have NP_ := aS_ (show gp ≠ gd by rw [hg]; exact Ne.symm (Nat.ne_of_lt (blk_lt D.out.b))); have n1_ := aS_ (D.out.below hb); clear D; have D := n1_; have BKP := aS_ hbox; have hcp : w0_.cell? ⟨gp, 0, none⟩ = some (.pointer (some ⟨gd, 0, none⟩)) := bC_ hbox 0 rfl; have hcd11 : w0_.cell? ⟨gd, 11, none⟩ = some (.int .i64 c.f11) := bC_ D.out.b 11 rfl; clear n1_ hb hbox hg)
        | (go_at_call 45; refine (access_Type.calls c.f11 true _ HT.out).mono ?_; rintro e w1 ⟨rfl, hd⟩; have hb_ := hd.below; have n1_ := aS_ (D.out.below hb_); clear D hd hcd11; have D := n1_; clear n1_; have x1_ := aS_ (blk_below BKP.out hb_); clear BKP hcp; have BKP := x1_; clear x1_; have hcp : w1.cell? ⟨gp, 0, none⟩ = some (.pointer (some ⟨gd, 0, none⟩)) := bC_ BKP.out 0 rfl; clear hb_)
        | (go_at_call 57; refine (asks_calls k w0 gd c rg _ _ l ev typ host gen apt kk _ D.out HK.out).mono ?_; rw [HA.out]; rintro e w2 ⟨rfl, hb_⟩; have n1_ := aS_ (D.out.below hb_); clear D; have D := n1_; clear n1_; have x1_ := aS_ (blk_below BKP.out hb_); clear BKP hcp; have BKP := x1_; clear x1_; have hcp : w2.cell? ⟨gp, 0, none⟩ = some (.pointer (some ⟨gd, 0, none⟩)) := bC_ BKP.out 0 rfl; clear hb_; have hcd15 : w2.cell? ⟨gd, 15, none⟩ = some (.int .i64 typ) := bC_ D.out.b 15 rfl; have hcd10 : w2.cell? ⟨gd, 10, none⟩ = some (.int .u64 c.f10) := bC_ D.out.b 10 rfl)
        | (go_at_call 46; refine (resv_everybody.calls typ false _ HE.out).mono ?_; rintro e w3 ⟨rfl, hd⟩; have hb_ := hd.below; have n1_ := aS_ (D.out.below hb_); clear D hd hcd15 hcd10; have D := n1_; clear n1_; have x1_ := aS_ (blk_below BKP.out hb_); clear BKP hcp; have BKP := x1_; clear x1_; have hcp : w3.cell? ⟨gp, 0, none⟩ = some (.pointer (some ⟨gd, 0, none⟩)) := bC_ BKP.out 0 rfl; clear hb_; have hcd15 : w3.cell? ⟨gd, 15, none⟩ = some (.int .i64 typ) := bC_ D.out.b 15 rfl; have hcd10 : w3.cell? ⟨gd, 10, none⟩ = some (.int .u64 c.f10) := bC_ D.out.b 10 rfl)
        | ((with_reducible refine gate_dst (N := 3) rfl ?_); refine bX_ (N := 3) (cs := #[.bool false]) (t := 4) ?hr ?_; (case hr => first | (go_simp; done) | (go_simp; rfl)); intro gq hg w4 hbox hb; have NQ_ := aS_ (show gq ≠ gd by rw [hg]; exact Ne.symm (Nat.ne_of_lt (blk_lt D.out.b))); have NPQ := aS_ (show gp ≠ gq by rw [hg]; exact Nat.ne_of_lt (blk_lt BKP.out)); have GQ := aS_ (show w3.heap.size ≤ gq by rw [hg]; exact Nat.le_refl _); have BW := aS_ hb; have BKQ := aS_ hbox; have hcq : w4.cell? ⟨gq, 0, none⟩ = some (.bool false) := bC_ hbox 0 rfl; have hfq := bF_ hbox 0; clear hb hbox hg hcp hcd15 hcd10)
        | ((with_reducible refine gate_dst (N := 33) rfl ?_); refine good_world (fun w' => Aside0 (Below w3.heap.size w3 w') ∧ Aside0 (w'.heap[gq]? = some (.cells #[.bool false] 4 (0, 0)))) ⟨⟨below_set BW.out GQ.out⟩, ⟨blk_put BKQ.out 0 _ rfl⟩⟩ ?_; rintro w5 ⟨hbw, hbq⟩; clear BW BKQ hcq hfq GQ; have BKQ := hbq; have n1_ := aS_ (D.out.below hbw.out); have n2_ := aS_ (blk_below BKP.out hbw.out); clear D BKP hbw hbq; have D := n1_; have BKP := n2_; clear n1_ n2_))
      have n1_ := aS_ (D.out.below (below_drew (Below.refl _ _)))
      have n2_ := aS_ (blk_drew BKP.out)
      have n3_ := aS_ (blk_drew BKQ.out)
      clear D BKP BKQ
      have D := n1_
      have BKP := n2_
      have BKQ := n3_
      clear n1_ n2_ n3_
      refine start_ (n := 30) (S := fun w' => w'.cell? ⟨gq, 0, none⟩ = some (.bool false) ∧ w'.cell? ⟨gp, 0, none⟩ = some (.pointer (some ⟨gd, 0, none⟩)) ∧ w'.cell? ⟨gd, 14, none⟩ = some (.slice Au l.length cu) ∧ w'.cell? ⟨gd, 15, none⟩ = some (.int .i64 typ) ∧ w'.cell? ⟨gd, 16, none⟩ = some (.string host) ∧ w'.cell? ⟨gd, 17, none⟩ = some (.int .u32 gen) ∧ w'.cell? ⟨gd, 18, none⟩ = some (.bool apt) ∧ w'.cell? ⟨gd, 10, none⟩ = some (.int .u64 c.f10)) (ds := []) #[false, false, false, false, false, false, false, false, false, false, false, false, false, false, false, false, false, false, false, false, false, false, false, false, false, false, false, false, false, false] (by kernel_rfl) rfl rfl ⟨bC_ BKQ.out 0 rfl, bC_ BKP.out 0 rfl, bC_ D.out.b 14 rfl, bC_ D.out.b 15 rfl, bC_ D.out.b 16 rfl, bC_ D.out.b 17 rfl, bC_ D.out.b 18 rfl, bC_ D.out.b 10 rfl⟩ (fun hHeld => ?_)
      generalize w5.drew = w6 at D BKP BKQ hHeld ⊢
      refine qtk_ 0 (some 34) (dB 30 1) hHeld ?_
      refine qon_ 1 (some 35) (dB 30 3) ?_
      refine qtk_ 2 (some 36) (dB 30 7) hHeld ?_
      refine qon_ 3 (some 37) (dB 30 15) ?_
      refine qon_ 4 (some 38) (dB 30 31) ?_
      refine qon_ 5 (some 39) (dB 30 63) ?_
      refine qon_ 6 (some 40) (dB 30 127) ?_
      refine qtk_ 7 (some 41) (dB 30 255) hHeld ?_
      refine qon_ 8 (some 42) (dB 30 511) ?_
      refine qon_ 9 (some 43) (dB 30 1023) ?_
      refine qtk_ 10 (some 44) (dB 30 2047) hHeld ?_
      refine qon_ 11 (some 45) (dB 30 4095) ?_
      refine qon_ 12 (some 46) (dB 30 8191) ?_
      refine qtk_ 13 (some 47) (dB 30 16383) hHeld ?_
      refine qtk_ 14 (some 48) (dB 30 32767) hHeld ?_
      refine qon_ 15 (some 49) (dB 30 65535) ?_
      refine qon_ 16 (some 50) (dB 30 131071) ?_
      refine qon_ 17 (some 51) (dB 30 262143) ?_
      refine qon_ 18 (some 52) (dB 30 524287) ?_
      refine qtk_ 19 (some 53) (dB 30 1048575) hHeld ?_
      refine qtk_ 21 (some 55) (dB 30 3145727) hHeld ?_
      refine qon_ 22 (some 56) (dB 30 7340031) ?_
      refine qon_ 23 (some 57) (dB 30 15728639) ?_
      refine qon_ 24 (some 58) (dB 30 32505855) ?_
      refine qtk_ 25 (some 59) (dB 30 66060287) hHeld ?_
      refine one_ (i := 20) (N := some 54) (dB 30 67108863) rfl rfl (by kernel_rfl) (by decide) (fun K hK => ?_)
      refine goes_ Tryd.func24 (by kernel_rfl) rfl #[.agg #[.slice Au l.length cu, .int .i64 typ, .string host, .int .u32 gen, .bool apt], .string host] (by rfl) rfl rfl (by simp only [List.map_toArray, List.map_cons, List.map_nil]; rfl) ?_
      with_reducible refine (resv_Key.calls k Au cu l typ host gen apt host kh _ (Kd.R_reads' D.out.r).2.2 (Kd.R_reads' D.out.r).2.1 HKH.out).mono ?_
      rintro e_ w66 ⟨rfl, hb⟩
      have n1_ := aS_ (D.out.below hb)
      have n2_ := aS_ (blk_below BKP.out hb)
      have n3_ := aS_ (blk_below BKQ.out hb)
      clear D BKP BKQ hb
      have D := n1_
      have BKP := n2_
      have BKQ := n3_
      clear n1_ n2_ n3_
      refine ⟨_, rfl, ?_⟩
      refine hK.out _ _ ⟨bC_ BKQ.out 0 rfl, bC_ BKP.out 0 rfl, bC_ D.out.b 14 rfl, bC_ D.out.b 15 rfl, bC_ D.out.b 16 rfl, bC_ D.out.b 17 rfl, bC_ D.out.b 18 rfl, bC_ D.out.b 10 rfl⟩ (fun hHeld => ?_)
      clear hK K
      refine norm_ (a' := ?_) ?_ ?_
      rotate_left
      ·show Act.put _ (some 54) _ = _
       simp only [Act.put, la_, lb_, lc_, i64_w, i32_w]
       rfl
      refine qon_ 26 (some 60) (dB 30 134217727) ?_
      refine qon_ 27 (some 61) (dB 30 268435455) ?_
      refine qon_ 28 (some 62) (dB 30 536870911) ?_
      refine qon_ 29 (some 5) (dB 30 1073741823) ?_
      refine done_ (by kernel_rfl) ?_
      have hcp : w66.cell? ⟨gp, 0, none⟩ = some (.pointer (some ⟨gd, 0, none⟩)) := bC_ BKP.out 0 rfl; have hcd10 : w66.cell? ⟨gd, 10, none⟩ = some (.int .u64 c.f10) := bC_ D.out.b 10 rfl; have hcd14 : w66.cell? ⟨gd, 14, none⟩ = some (.slice Au l.length cu) := bC_ D.out.b 14 rfl
      go_wp2_with (first
        | (go_at_call 60; refine (contains_struck (struckP c false) gp gq Au cu l _ (Kd.R_reads' D.out.r).2.2 HN.out (fun s ky w1 hb_ => struck_calls gd gp gq c rg _ _ typ host gen apt false s ky w1 (blk_below D.out.b hb_) (blk_below BKP.out hb_) (blk_below BKQ.out hb_))).mono ?_; rw [HI0.out]; rintro e w67 ⟨rfl, hb_⟩; have n1_ := aS_ (D.out.below hb_); have n2_ := aS_ (blk_below BKP.out hb_); have n3_ := aS_ (blk_below BKQ.out hb_); clear D BKP BKQ hb_ hcp hcd10 hcd14; have D := n1_; have BKP := n2_; have BKQ := n3_; clear n1_ n2_ n3_; have hcp : w67.cell? ⟨gp, 0, none⟩ = some (.pointer (some ⟨gd, 0, none⟩)) := bC_ BKP.out 0 rfl)
        | (go_at_call 55; refine (tell_struck w0 gd gp gq false c rg _ _ l ev typ host gen apt 2 _ D.out HN.out HEV.out BKP.out NP_.out BKQ.out NQ_.out).mono ?_; rintro e w7 ⟨rfl, hd_, hp_, hq_⟩; obtain ⟨ue2, hd2_⟩ := hd_.out; clear D BKP BKQ hd_ hcp; have D := aS_ hd2_; have BKP := hp_; have BKQ := hq_; clear hd2_; have hcp : w7.cell? ⟨gp, 0, none⟩ = some (.pointer (some ⟨gd, 0, none⟩)) := bC_ BKP.out 0 rfl)
        | (go_at_call 54; refine (drop_struck w0 gp gq gd false c rg _ _ l _ typ host gen apt _ D.out HN.out BKP.out NP_.out BKQ.out NQ_.out).mono ?_; rintro e w8 ⟨rfl, ⟨u2, hd2_⟩, hp_, hq_⟩; clear D BKP BKQ hcp; have D := aS_ hd2_; have BKP := aS_ hp_; have BKQ := aS_ hq_; clear hd2_ hp_ hq_; have hcp : w8.cell? ⟨gp, 0, none⟩ = some (.pointer (some ⟨gd, 0, none⟩)) := bC_ BKP.out 0 rfl; have hcd17 : w8.cell? ⟨gd, 17, none⟩ = some (.int .u32 gen) := bC_ D.out.b 17 rfl; have hfd17 := bF_ D.out.b 17))
      go_ret
      exact ⟨rfl, _, _, D.out.put 17 _ rfl⟩
    · skip
      have hho : host.toList = ([] : List UInt8) := Classical.byContradiction hho
      have d1 : (host.toList == ([] : List UInt8)) = true := beq_iff_eq.mpr hho
      clear htk
      go_enter Tryd.func34, Tryd.ntmps34
      go_wp2_with (first
        | ((with_reducible refine gate_dst (N := 1) rfl ?_); refine bX_ (N := 1) (cs := #[.pointer (some ⟨gd, 0, none⟩)]) (t := 63) ?hr ?_; (case hr => first | (go_simp; done) | (go_simp; rfl)); intro gp hg w0_ hbox hb; have NP_ := aS_ (show gp ≠ gd by rw [hg]; exact Ne.symm (Nat.ne_of_lt (blk_lt D.out.b))); have n1_ := aS_ (D.out.below hb); clear D; have D := n1_; have BKP := aS_ hbox; have hcp : w0_.cell? ⟨gp, 0, none⟩ = some (.pointer (some ⟨gd, 0, none⟩)) := bC_ hbox 0 rfl; have hcd11 : w0_.cell? ⟨gd, 11, none⟩ = some (.int .i64 c.f11) := bC_ D.out.b 11 rfl; clear n1_ hb hbox hg)
        | (go_at_call 45; refine (access_Type.calls c.f11 true _ HT.out).mono ?_; rintro e w1 ⟨rfl, hd⟩; have hb_ := hd.below; have n1_ := aS_ (D.out.below hb_); clear D hd hcd11; have D := n1_; clear n1_; have x1_ := aS_ (blk_below BKP.out hb_); clear BKP hcp; have BKP := x1_; clear x1_; have hcp : w1.cell? ⟨gp, 0, none⟩ = some (.pointer (some ⟨gd, 0, none⟩)) := bC_ BKP.out 0 rfl; clear hb_)
        | (go_at_call 57; refine (asks_calls k w0 gd c rg _ _ l ev typ host gen apt kk _ D.out HK.out).mono ?_; rw [HA.out]; rintro e w2 ⟨rfl, hb_⟩; have n1_ := aS_ (D.out.below hb_); clear D; have D := n1_; clear n1_; have x1_ := aS_ (blk_below BKP.out hb_); clear BKP hcp; have BKP := x1_; clear x1_; have hcp : w2.cell? ⟨gp, 0, none⟩ = some (.pointer (some ⟨gd, 0, none⟩)) := bC_ BKP.out 0 rfl; clear hb_; have hcd15 : w2.cell? ⟨gd, 15, none⟩ = some (.int .i64 typ) := bC_ D.out.b 15 rfl; have hcd10 : w2.cell? ⟨gd, 10, none⟩ = some (.int .u64 c.f10) := bC_ D.out.b 10 rfl)
        | (go_at_call 46; refine (resv_everybody.calls typ false _ HE.out).mono ?_; rintro e w3 ⟨rfl, hd⟩; have hb_ := hd.below; have n1_ := aS_ (D.out.below hb_); clear D hd hcd15 hcd10; have D := n1_; clear n1_; have x1_ := aS_ (blk_below BKP.out hb_); clear BKP hcp; have BKP := x1_; clear x1_; have hcp : w3.cell? ⟨gp, 0, none⟩ = some (.pointer (some ⟨gd, 0, none⟩)) := bC_ BKP.out 0 rfl; clear hb_; have hcd15 : w3.cell? ⟨gd, 15, none⟩ = some (.int .i64 typ) := bC_ D.out.b 15 rfl; have hcd10 : w3.cell? ⟨gd, 10, none⟩ = some (.int .u64 c.f10) := bC_ D.out.b 10 rfl)
        | ((with_reducible refine gate_dst (N := 3) rfl ?_); refine bX_ (N := 3) (cs := #[.bool false]) (t := 4) ?hr ?_; (case hr => first | (go_simp; done) | (go_simp; rfl)); intro gq hg w4 hbox hb; have NQ_ := aS_ (show gq ≠ gd by rw [hg]; exact Ne.symm (Nat.ne_of_lt (blk_lt D.out.b))); have NPQ := aS_ (show gp ≠ gq by rw [hg]; exact Nat.ne_of_lt (blk_lt BKP.out)); have GQ := aS_ (show w3.heap.size ≤ gq by rw [hg]; exact Nat.le_refl _); have BW := aS_ hb; have BKQ := aS_ hbox; have hcq : w4.cell? ⟨gq, 0, none⟩ = some (.bool false) := bC_ hbox 0 rfl; have hfq := bF_ hbox 0; clear hb hbox hg hcp hcd15 hcd10)
        | ((with_reducible refine gate_dst (N := 33) rfl ?_); refine good_world (fun w' => Aside0 (Below w3.heap.size w3 w') ∧ Aside0 (w'.heap[gq]? = some (.cells #[.bool false] 4 (0, 0)))) ⟨⟨below_set BW.out GQ.out⟩, ⟨blk_put BKQ.out 0 _ rfl⟩⟩ ?_; rintro w5 ⟨hbw, hbq⟩; clear BW BKQ hcq hfq GQ; have BKQ := hbq; have n1_ := aS_ (D.out.below hbw.out); have n2_ := aS_ (blk_below BKP.out hbw.out); clear D BKP hbw hbq; have D := n1_; have BKP := n2_; clear n1_ n2_))
      have n1_ := aS_ (D.out.below (below_drew (Below.refl _ _)))
      have n2_ := aS_ (blk_drew BKP.out)
      have n3_ := aS_ (blk_drew BKQ.out)
      clear D BKP BKQ
      have D := n1_
      have BKP := n2_
      have BKQ := n3_
      clear n1_ n2_ n3_
      refine start_ (n := 30) (S := fun w' => w'.cell? ⟨gq, 0, none⟩ = some (.bool false) ∧ w'.cell? ⟨gp, 0, none⟩ = some (.pointer (some ⟨gd, 0, none⟩)) ∧ w'.cell? ⟨gd, 14, none⟩ = some (.slice Au l.length cu) ∧ w'.cell? ⟨gd, 15, none⟩ = some (.int .i64 typ) ∧ w'.cell? ⟨gd, 16, none⟩ = some (.string host) ∧ w'.cell? ⟨gd, 17, none⟩ = some (.int .u32 gen) ∧ w'.cell? ⟨gd, 18, none⟩ = some (.bool apt) ∧ w'.cell? ⟨gd, 10, none⟩ = some (.int .u64 c.f10)) (ds := []) #[false, false, false, false, false, false, false, false, false, false, false, false, false, false, false, false, false, false, false, false, false, false, false, false, false, false, false, false, false, false] (by kernel_rfl) rfl rfl ⟨bC_ BKQ.out 0 rfl, bC_ BKP.out 0 rfl, bC_ D.out.b 14 rfl, bC_ D.out.b 15 rfl, bC_ D.out.b 16 rfl, bC_ D.out.b 17 rfl, bC_ D.out.b 18 rfl, bC_ D.out.b 10 rfl⟩ (fun hHeld => ?_)
      generalize w5.drew = w6 at D BKP BKQ hHeld ⊢
      refine qtk_ 0 (some 34) (dB 30 1) hHeld ?_
      refine qon_ 1 (some 35) (dB 30 3) ?_
      refine qtk_ 2 (some 36) (dB 30 7) hHeld ?_
      refine qon_ 3 (some 37) (dB 30 15) ?_
      refine qon_ 4 (some 38) (dB 30 31) ?_
      refine qon_ 5 (some 39) (dB 30 63) ?_
      refine qon_ 6 (some 40) (dB 30 127) ?_
      refine qtk_ 7 (some 41) (dB 30 255) hHeld ?_
      refine qon_ 8 (some 42) (dB 30 511) ?_
      refine qon_ 9 (some 43) (dB 30 1023) ?_
      refine qof_ 10 (some 44) (dB 30 2047) ?_
      refine qof_ 11 (some 45) (dB 30 4095) ?_
      refine qof_ 12 (some 46) (dB 30 8191) ?_
      refine qof_ 13 (some 47) (dB 30 16383) ?_
      refine qof_ 14 (some 48) (dB 30 32767) ?_
      refine qof_ 15 (some 49) (dB 30 65535) ?_
      refine qof_ 16 (some 50) (dB 30 131071) ?_
      refine qof_ 17 (some 51) (dB 30 262143) ?_
      refine qof_ 18 (some 52) (dB 30 524287) ?_
      refine qof_ 19 (some 53) (dB 30 1048575) ?_
      refine qof_ 20 (some 54) (dB 30 2097151) ?_
      refine qof_ 21 (some 55) (dB 30 4194303) ?_
      refine qof_ 22 (some 56) (dB 30 8388607) ?_
      refine qof_ 23 (some 57) (dB 30 16777215) ?_
      refine qof_ 24 (some 58) (dB 30 33554431) ?_
      refine qof_ 25 (some 59) (dB 30 67108863) ?_
      refine qof_ 26 (some 60) (dB 30 134217727) ?_
      refine qon_ 27 (some 61) (dB 30 268435455) ?_
      refine qon_ 28 (some 62) (dB 30 536870911) ?_
      refine qon_ 29 (some 5) (dB 30 1073741823) ?_
      refine done_ (by kernel_rfl) ?_
      have hcp : w6.cell? ⟨gp, 0, none⟩ = some (.pointer (some ⟨gd, 0, none⟩)) := bC_ BKP.out 0 rfl; have hcd10 : w6.cell? ⟨gd, 10, none⟩ = some (.int .u64 c.f10) := bC_ D.out.b 10 rfl; have hcd14 : w6.cell? ⟨gd, 14, none⟩ = some (.slice Au l.length cu) := bC_ D.out.b 14 rfl
      go_wp2_with (first
        | (go_at_call 60; refine (contains_struck (struckP c false) gp gq Au cu l _ (Kd.R_reads' D.out.r).2.2 HN.out (fun s ky w1 hb_ => struck_calls gd gp gq c rg _ _ typ host gen apt false s ky w1 (blk_below D.out.b hb_) (blk_below BKP.out hb_) (blk_below BKQ.out hb_))).mono ?_; rw [HI0.out]; rintro e w67 ⟨rfl, hb_⟩; have n1_ := aS_ (D.out.below hb_); have n2_ := aS_ (blk_below BKP.out hb_); have n3_ := aS_ (blk_below BKQ.out hb_); clear D BKP BKQ hb_ hcp hcd10 hcd14; have D := n1_; have BKP := n2_; have BKQ := n3_; clear n1_ n2_ n3_; have hcp : w67.cell? ⟨gp, 0, none⟩ = some (.pointer (some ⟨gd, 0, none⟩)) := bC_ BKP.out 0 rfl)
        | (go_at_call 55; refine (tell_struck w0 gd gp gq false c rg _ _ l ev typ host gen apt 2 _ D.out HN.out HEV.out BKP.out NP_.out BKQ.out NQ_.out).mono ?_; rintro e w7 ⟨rfl, hd_, hp_, hq_⟩; obtain ⟨ue2, hd2_⟩ := hd_.out; clear D BKP BKQ hd_ hcp; have D := aS_ hd2_; have BKP := hp_; have BKQ := hq_; clear hd2_; have hcp : w7.cell? ⟨gp, 0, none⟩ = some (.pointer (some ⟨gd, 0, none⟩)) := bC_ BKP.out 0 rfl)
        | (go_at_call 54; refine (drop_struck w0 gp gq gd false c rg _ _ l _ typ host gen apt _ D.out HN.out BKP.out NP_.out BKQ.out NQ_.out).mono ?_; rintro e w8 ⟨rfl, ⟨u2, hd2_⟩, hp_, hq_⟩; clear D BKP BKQ hcp; have D := aS_ hd2_; have BKP := aS_ hp_; have BKQ := aS_ hq_; clear hd2_ hp_ hq_; have hcp : w8.cell? ⟨gp, 0, none⟩ = some (.pointer (some ⟨gd, 0, none⟩)) := bC_ BKP.out 0 rfl; have hcd17 : w8.cell? ⟨gd, 17, none⟩ = some (.int .u32 gen) := bC_ D.out.b 17 rfl; have hfd17 := bF_ D.out.b 17))
      go_ret
      exact ⟨rfl, _, _, D.out.put 17 _ rfl⟩
  · skip
    by_cases hho : host.toList ≠ ([] : List UInt8)
    · skip
      have d1 : (host.toList == ([] : List UInt8)) = false := beq_eq_false_iff_ne.mpr hho
      have d2 : (host.toList = ([] : List UInt8)) = False := eq_false hho
      have d3 : (kh == c.f10) = false := beq_eq_false_iff_ne.mpr (fun z => htk ⟨hho, z⟩)
      clear hho htk
      go_enter Tryd.func34, Tryd.ntmps34
      go_wp2_with (first
        | ((with_reducible refine gate_dst (N := 1) rfl ?_); refine bX_ (N := 1) (cs := #[.pointer (some ⟨gd, 0, none⟩)]) (t := 63) ?hr ?_; (case hr => first | (go_simp; done) | (go_simp; rfl)); intro gp hg w0_ hbox hb; have NP_ := aS_ (show gp ≠ gd by rw [hg]; exact Ne.symm (Nat.ne_of_lt (blk_lt D.out.b))); have n1_ := aS_ (D.out.below hb); clear D; have D := n1_; have BKP := aS_ hbox; have hcp : w0_.cell? ⟨gp, 0, none⟩ = some (.pointer (some ⟨gd, 0, none⟩)) := bC_ hbox 0 rfl; have hcd11 : w0_.cell? ⟨gd, 11, none⟩ = some (.int .i64 c.f11) := bC_ D.out.b 11 rfl; clear n1_ hb hbox hg)
        | (go_at_call 45; refine (access_Type.calls c.f11 true _ HT.out).mono ?_; rintro e w1 ⟨rfl, hd⟩; have hb_ := hd.below; have n1_ := aS_ (D.out.below hb_); clear D hd hcd11; have D := n1_; clear n1_; have x1_ := aS_ (blk_below BKP.out hb_); clear BKP hcp; have BKP := x1_; clear x1_; have hcp : w1.cell? ⟨gp, 0, none⟩ = some (.pointer (some ⟨gd, 0, none⟩)) := bC_ BKP.out 0 rfl; clear hb_)
        | (go_at_call 57; refine (asks_calls k w0 gd c rg _ _ l ev typ host gen apt kk _ D.out HK.out).mono ?_; rw [HA.out]; rintro e w2 ⟨rfl, hb_⟩; have n1_ := aS_ (D.out.below hb_); clear D; have D := n1_; clear n1_; have x1_ := aS_ (blk_below BKP.out hb_); clear BKP hcp; have BKP := x1_; clear x1_; have hcp : w2.cell? ⟨gp, 0, none⟩ = some (.pointer (some ⟨gd, 0, none⟩)) := bC_ BKP.out 0 rfl; clear hb_; have hcd15 : w2.cell? ⟨gd, 15, none⟩ = some (.int .i64 typ) := bC_ D.out.b 15 rfl; have hcd10 : w2.cell? ⟨gd, 10, none⟩ = some (.int .u64 c.f10) := bC_ D.out.b 10 rfl)
        | (go_at_call 46; refine (resv_everybody.calls typ true _ HE.out).mono ?_; rintro e w3 ⟨rfl, hd⟩; have hb_ := hd.below; have n1_ := aS_ (D.out.below hb_); clear D hd hcd15 hcd10; have D := n1_; clear n1_; have x1_ := aS_ (blk_below BKP.out hb_); clear BKP hcp; have BKP := x1_; clear x1_; have hcp : w3.cell? ⟨gp, 0, none⟩ = some (.pointer (some ⟨gd, 0, none⟩)) := bC_ BKP.out 0 rfl; clear hb_; have hcd15 : w3.cell? ⟨gd, 15, none⟩ = some (.int .i64 typ) := bC_ D.out.b 15 rfl; have hcd10 : w3.cell? ⟨gd, 10, none⟩ = some (.int .u64 c.f10) := bC_ D.out.b 10 rfl)
        | ((with_reducible refine gate_dst (N := 3) rfl ?_); refine bX_ (N := 3) (cs := #[.bool false]) (t := 4) ?hr ?_; (case hr => first | (go_simp; done) | (go_simp; rfl)); intro gq hg w4 hbox hb; have NQ_ := aS_ (show gq ≠ gd by rw [hg]; exact Ne.symm (Nat.ne_of_lt (blk_lt D.out.b))); have NPQ := aS_ (show gp ≠ gq by rw [hg]; exact Nat.ne_of_lt (blk_lt BKP.out)); have GQ := aS_ (show w3.heap.size ≤ gq by rw [hg]; exact Nat.le_refl _); have BW := aS_ hb; have BKQ := aS_ hbox; have hcq : w4.cell? ⟨gq, 0, none⟩ = some (.bool false) := bC_ hbox 0 rfl; have hfq := bF_ hbox 0; clear hb hbox hg hcp hcd15 hcd10)
        | ((with_reducible refine gate_dst (N := 33) rfl ?_); refine good_world (fun w' => Aside0 (Below w3.heap.size w3 w') ∧ Aside0 (w'.heap[gq]? = some (.cells #[.bool false] 4 (0, 0)))) ⟨⟨below_set BW.out GQ.out⟩, ⟨blk_put BKQ.out 0 _ rfl⟩⟩ ?_; rintro w5 ⟨hbw, hbq⟩; clear BW BKQ hcq hfq GQ; have BKQ := hbq; have n1_ := aS_ (D.out.below hbw.out); have n2_ := aS_ (blk_below BKP.out hbw.out); clear D BKP hbw hbq; have D := n1_; have BKP := n2_; clear n1_ n2_))
      have n1_ := aS_ (D.out.below (below_drew (Below.refl _ _)))
      have n2_ := aS_ (blk_drew BKP.out)
      have n3_ := aS_ (blk_drew BKQ.out)
      clear D BKP BKQ
      have D := n1_
      have BKP := n2_
      have BKQ := n3_
      clear n1_ n2_ n3_
      refine start_ (n := 30) (S := fun w' => w'.cell? ⟨gq, 0, none⟩ = some (.bool false) ∧ w'.cell? ⟨gp, 0, none⟩ = some (.pointer (some ⟨gd, 0, none⟩)) ∧ w'.cell? ⟨gd, 14, none⟩ = some (.slice Au l.length cu) ∧ w'.cell? ⟨gd, 15, none⟩ = some (.int .i64 typ) ∧ w'.cell? ⟨gd, 16, none⟩ = some (.string host) ∧ w'.cell? ⟨gd, 17, none⟩ = some (.int .u32 gen) ∧ w'.cell? ⟨gd, 18, none⟩ = some (.bool apt) ∧ w'.cell? ⟨gd, 10, none⟩ = some (.int .u64 c.f10)) (ds := []) #[false, false, false, false, false, false, false, false, false, false, false, false, false, false, false, false, false, false, false, false, false, false, false, false, false, false, false, false, false, false] (by kernel_rfl) rfl rfl ⟨bC_ BKQ.out 0 rfl, bC_ BKP.out 0 rfl, bC_ D.out.b 14 rfl, bC_ D.out.b 15 rfl, bC_ D.out.b 16 rfl, bC_ D.out.b 17 rfl, bC_ D.out.b 18 rfl, bC_ D.out.b 10 rfl⟩ (fun hHeld => ?_)
      generalize w5.drew = w6 at D BKP BKQ hHeld ⊢
      refine qtk_ 0 (some 34) (dB 30 1) hHeld ?_
      refine qon_ 1 (some 35) (dB 30 3) ?_
      refine qtk_ 2 (some 36) (dB 30 7) hHeld ?_
      refine qon_ 3 (some 37) (dB 30 15) ?_
      refine qon_ 4 (some 38) (dB 30 31) ?_
      refine qon_ 5 (some 39) (dB 30 63) ?_
      refine qon_ 6 (some 40) (dB 30 127) ?_
      refine qtk_ 7 (some 41) (dB 30 255) hHeld ?_
      refine qon_ 8 (some 42) (dB 30 511) ?_
      refine qon_ 9 (some 43) (dB 30 1023) ?_
      refine qtk_ 10 (some 44) (dB 30 2047) hHeld ?_
      refine qon_ 11 (some 45) (dB 30 4095) ?_
      refine qon_ 12 (some 46) (dB 30 8191) ?_
      refine qtk_ 13 (some 47) (dB 30 16383) hHeld ?_
      refine qtk_ 14 (some 48) (dB 30 32767) hHeld ?_
      refine qon_ 15 (some 49) (dB 30 65535) ?_
      refine qon_ 16 (some 50) (dB 30 131071) ?_
      refine qon_ 17 (some 51) (dB 30 262143) ?_
      refine qon_ 18 (some 52) (dB 30 524287) ?_
      refine qtk_ 19 (some 53) (dB 30 1048575) hHeld ?_
      refine qtk_ 21 (some 55) (dB 30 3145727) hHeld ?_
      refine qon_ 22 (some 56) (dB 30 7340031) ?_
      refine qon_ 23 (some 57) (dB 30 15728639) ?_
      refine qon_ 24 (some 58) (dB 30 32505855) ?_
      refine qtk_ 25 (some 59) (dB 30 66060287) hHeld ?_
      refine one_ (i := 20) (N := some 54) (dB 30 67108863) rfl rfl (by kernel_rfl) (by decide) (fun K hK => ?_)
      refine goes_ Tryd.func24 (by kernel_rfl) rfl #[.agg #[.slice Au l.length cu, .int .i64 typ, .string host, .int .u32 gen, .bool apt], .string host] (by rfl) rfl rfl (by simp only [List.map_toArray, List.map_cons, List.map_nil]; rfl) ?_
      with_reducible refine (resv_Key.calls k Au cu l typ host gen apt host kh _ (Kd.R_reads' D.out.r).2.2 (Kd.R_reads' D.out.r).2.1 HKH.out).mono ?_
      rintro e_ w66 ⟨rfl, hb⟩
      have n1_ := aS_ (D.out.below hb)
      have n2_ := aS_ (blk_below BKP.out hb)
      have n3_ := aS_ (blk_below BKQ.out hb)
      clear D BKP BKQ hb
      have D := n1_
      have BKP := n2_
      have BKQ := n3_
      clear n1_ n2_ n3_
      refine ⟨_, rfl, ?_⟩
      refine hK.out _ _ ⟨bC_ BKQ.out 0 rfl, bC_ BKP.out 0 rfl, bC_ D.out.b 14 rfl, bC_ D.out.b 15 rfl, bC_ D.out.b 16 rfl, bC_ D.out.b 17 rfl, bC_ D.out.b 18 rfl, bC_ D.out.b 10 rfl⟩ (fun hHeld => ?_)
      clear hK K
      refine norm_ (a' := ?_) ?_ ?_
      rotate_left
      ·show Act.put _ (some 54) _ = _
       simp only [Act.put, la_, lb_, lc_, i64_w, i32_w]
       rfl
      refine qon_ 26 (some 60) (dB 30 134217727) ?_
      refine qon_ 27 (some 61) (dB 30 268435455) ?_
      refine qon_ 28 (some 62) (dB 30 536870911) ?_
      refine qon_ 29 (some 5) (dB 30 1073741823) ?_
      refine done_ (by kernel_rfl) ?_
      have hcp : w66.cell? ⟨gp, 0, none⟩ = some (.pointer (some ⟨gd, 0, none⟩)) := bC_ BKP.out 0 rfl; have hcd10 : w66.cell? ⟨gd, 10, none⟩ = some (.int .u64 c.f10) := bC_ D.out.b 10 rfl; have hcd14 : w66.cell? ⟨gd, 14, none⟩ = some (.slice Au l.length cu) := bC_ D.out.b 14 rfl
      go_wp2_with (first
        | (go_at_call 60; refine (contains_struck (struckP c false) gp gq Au cu l _ (Kd.R_reads' D.out.r).2.2 HN.out (fun s ky w1 hb_ => struck_calls gd gp gq c rg _ _ typ host gen apt false s ky w1 (blk_below D.out.b hb_) (blk_below BKP.out hb_) (blk_below BKQ.out hb_))).mono ?_; rw [HI0.out]; rintro e w67 ⟨rfl, hb_⟩; have n1_ := aS_ (D.out.below hb_); have n2_ := aS_ (blk_below BKP.out hb_); have n3_ := aS_ (blk_below BKQ.out hb_); clear D BKP BKQ hb_ hcp hcd10 hcd14; have D := n1_; have BKP := n2_; have BKQ := n3_; clear n1_ n2_ n3_; have hcp : w67.cell? ⟨gp, 0, none⟩ = some (.pointer (some ⟨gd, 0, none⟩)) := bC_ BKP.out 0 rfl)
        | (go_at_call 55; refine (tell_struck w0 gd gp gq false c rg _ _ l ev typ host gen apt 2 _ D.out HN.out HEV.out BKP.out NP_.out BKQ.out NQ_.out).mono ?_; rintro e w7 ⟨rfl, hd_, hp_, hq_⟩; obtain ⟨ue2, hd2_⟩ := hd_.out; clear D BKP BKQ hd_ hcp; have D := aS_ hd2_; have BKP := hp_; have BKQ := hq_; clear hd2_; have hcp : w7.cell? ⟨gp, 0, none⟩ = some (.pointer (some ⟨gd, 0, none⟩)) := bC_ BKP.out 0 rfl)
        | (go_at_call 54; refine (drop_struck w0 gp gq gd false c rg _ _ l _ typ host gen apt _ D.out HN.out BKP.out NP_.out BKQ.out NQ_.out).mono ?_; rintro e w8 ⟨rfl, ⟨u2, hd2_⟩, hp_, hq_⟩; clear D BKP BKQ hcp; have D := aS_ hd2_; have BKP := aS_ hp_; have BKQ := aS_ hq_; clear hd2_ hp_ hq_; have hcp : w8.cell? ⟨gp, 0, none⟩ = some (.pointer (some ⟨gd, 0, none⟩)) := bC_ BKP.out 0 rfl; have hcd17 : w8.cell? ⟨gd, 17, none⟩ = some (.int .u32 gen) := bC_ D.out.b 17 rfl; have hfd17 := bF_ D.out.b 17))
      go_ret
      exact ⟨rfl, _, _, D.out.put 17 _ rfl⟩
    · skip
      have hho : host.toList = ([] : List UInt8) := Classical.byContradiction hho
      have d1 : (host.toList == ([] : List UInt8)) = true := beq_iff_eq.mpr hho
      clear htk
      go_enter Tryd.func34, Tryd.ntmps34
      go_wp2_with (first
        | ((with_reducible refine gate_dst (N := 1) rfl ?_); refine bX_ (N := 1) (cs := #[.pointer (some ⟨gd, 0, none⟩)]) (t := 63) ?hr ?_; (case hr => first | (go_simp; done) | (go_simp; rfl)); intro gp hg w0_ hbox hb; have NP_ := aS_ (show gp ≠ gd by rw [hg]; exact Ne.symm (Nat.ne_of_lt (blk_lt D.out.b))); have n1_ := aS_ (D.out.below hb); clear D; have D := n1_; have BKP := aS_ hbox; have hcp : w0_.cell? ⟨gp, 0, none⟩ = some (.pointer (some ⟨gd, 0, none⟩)) := bC_ hbox 0 rfl; have hcd11 : w0_.cell? ⟨gd, 11, none⟩ = some (.int .i64 c.f11) := bC_ D.out.b 11 rfl; clear n1_ hb hbox hg)
        | (go_at_call 45; refine (access_Type.calls c.f11 true _ HT.out).mono ?_; rintro e w1 ⟨rfl, hd⟩; have hb_ := hd.below; have n1_ := aS_ (D.out.below hb_); clear D hd hcd11; have D := n1_; clear n1_; have x1_ := aS_ (blk_below BKP.out hb_); clear BKP hcp; have BKP := x1_; clear x1_; have hcp : w1.cell? ⟨gp, 0, none⟩ = some (.pointer (some ⟨gd, 0, none⟩)) := bC_ BKP.out 0 rfl; clear hb_)
        | (go_at_call 57; refine (asks_calls k w0 gd c rg _ _ l ev typ host gen apt kk _ D.out HK.out).mono ?_; rw [HA.out]; rintro e w2 ⟨rfl, hb_⟩; have n1_ := aS_ (D.out.below hb_); clear D; have D := n1_; clear n1_; have x1_ := aS_ (blk_below BKP.out hb_); clear BKP hcp; have BKP := x1_; clear x1_; have hcp : w2.cell? ⟨gp, 0, none⟩ = some (.pointer (some ⟨gd, 0, none⟩)) := bC_ BKP.out 0 rfl; clear hb_; have hcd15 : w2.cell? ⟨gd, 15, none⟩ = some (.int .i64 typ) := bC_ D.out.b 15 rfl; have hcd10 : w2.cell? ⟨gd, 10, none⟩ = some (.int .u64 c.f10) := bC_ D.out.b 10 rfl)
        | (go_at_call 46; refine (resv_everybody.calls typ true _ HE.out).mono ?_; rintro e w3 ⟨rfl, hd⟩; have hb_ := hd.below; have n1_ := aS_ (D.out.below hb_); clear D hd hcd15 hcd10; have D := n1_; clear n1_; have x1_ := aS_ (blk_below BKP.out hb_); clear BKP hcp; have BKP := x1_; clear x1_; have hcp : w3.cell? ⟨gp, 0, none⟩ = some (.pointer (some ⟨gd, 0, none⟩)) := bC_ BKP.out 0 rfl; clear hb_; have hcd15 : w3.cell? ⟨gd, 15, none⟩ = some (.int .i64 typ) := bC_ D.out.b 15 rfl; have hcd10 : w3.cell? ⟨gd, 10, none⟩ = some (.int .u64 c.f10) := bC_ D.out.b 10 rfl)
        | ((with_reducible refine gate_dst (N := 3) rfl ?_); refine bX_ (N := 3) (cs := #[.bool false]) (t := 4) ?hr ?_; (case hr => first | (go_simp; done) | (go_simp; rfl)); intro gq hg w4 hbox hb; have NQ_ := aS_ (show gq ≠ gd by rw [hg]; exact Ne.symm (Nat.ne_of_lt (blk_lt D.out.b))); have NPQ := aS_ (show gp ≠ gq by rw [hg]; exact Nat.ne_of_lt (blk_lt BKP.out)); have GQ := aS_ (show w3.heap.size ≤ gq by rw [hg]; exact Nat.le_refl _); have BW := aS_ hb; have BKQ := aS_ hbox; have hcq : w4.cell? ⟨gq, 0, none⟩ = some (.bool false) := bC_ hbox 0 rfl; have hfq := bF_ hbox 0; clear hb hbox hg hcp hcd15 hcd10)
        | ((with_reducible refine gate_dst (N := 33) rfl ?_); refine good_world (fun w' => Aside0 (Below w3.heap.size w3 w') ∧ Aside0 (w'.heap[gq]? = some (.cells #[.bool false] 4 (0, 0)))) ⟨⟨below_set BW.out GQ.out⟩, ⟨blk_put BKQ.out 0 _ rfl⟩⟩ ?_; rintro w5 ⟨hbw, hbq⟩; clear BW BKQ hcq hfq GQ; have BKQ := hbq; have n1_ := aS_ (D.out.below hbw.out); have n2_ := aS_ (blk_below BKP.out hbw.out); clear D BKP hbw hbq; have D := n1_; have BKP := n2_; clear n1_ n2_))
      have n1_ := aS_ (D.out.below (below_drew (Below.refl _ _)))
      have n2_ := aS_ (blk_drew BKP.out)
      have n3_ := aS_ (blk_drew BKQ.out)
      clear D BKP BKQ
      have D := n1_
      have BKP := n2_
      have BKQ := n3_
      clear n1_ n2_ n3_
      refine start_ (n := 30) (S := fun w' => w'.cell? ⟨gq, 0, none⟩ = some (.bool false) ∧ w'.cell? ⟨gp, 0, none⟩ = some (.pointer (some ⟨gd, 0, none⟩)) ∧ w'.cell? ⟨gd, 14, none⟩ = some (.slice Au l.length cu) ∧ w'.cell? ⟨gd, 15, none⟩ = some (.int .i64 typ) ∧ w'.cell? ⟨gd, 16, none⟩ = some (.string host) ∧ w'.cell? ⟨gd, 17, none⟩ = some (.int .u32 gen) ∧ w'.cell? ⟨gd, 18, none⟩ = some (.bool apt) ∧ w'.cell? ⟨gd, 10, none⟩ = some (.int .u64 c.f10)) (ds := []) #[false, false, false, false, false, false, false, false, false, false, false, false, false, false, false, false, false, false, false, false, false, false, false, false, false, false, false, false, false, false] (by kernel_rfl) rfl rfl ⟨bC_ BKQ.out 0 rfl, bC_ BKP.out 0 rfl, bC_ D.out.b 14 rfl, bC_ D.out.b 15 rfl, bC_ D.out.b 16 rfl, bC_ D.out.b 17 rfl, bC_ D.out.b 18 rfl, bC_ D.out.b 10 rfl⟩ (fun hHeld => ?_)
      generalize w5.drew = w6 at D BKP BKQ hHeld ⊢
      refine qtk_ 0 (some 34) (dB 30 1) hHeld ?_
      refine qon_ 1 (some 35) (dB 30 3) ?_
      refine qtk_ 2 (some 36) (dB 30 7) hHeld ?_
      refine qon_ 3 (some 37) (dB 30 15) ?_
      refine qon_ 4 (some 38) (dB 30 31) ?_
      refine qon_ 5 (some 39) (dB 30 63) ?_
      refine qon_ 6 (some 40) (dB 30 127) ?_
      refine qtk_ 7 (some 41) (dB 30 255) hHeld ?_
      refine qon_ 8 (some 42) (dB 30 511) ?_
      refine qon_ 9 (some 43) (dB 30 1023) ?_
      refine qof_ 10 (some 44) (dB 30 2047) ?_
      refine qof_ 11 (some 45) (dB 30 4095) ?_
      refine qof_ 12 (some 46) (dB 30 8191) ?_
      refine qof_ 13 (some 47) (dB 30 16383) ?_
      refine qof_ 14 (some 48) (dB 30 32767) ?_
      refine qof_ 15 (some 49) (dB 30 65535) ?_
      refine qof_ 16 (some 50) (dB 30 131071) ?_
      refine qof_ 17 (some 51) (dB 30 262143) ?_
      refine qof_ 18 (some 52) (dB 30 524287) ?_
      refine qof_ 19 (some 53) (dB 30 1048575) ?_
      refine qof_ 20 (some 54) (dB 30 2097151) ?_
      refine qof_ 21 (some 55) (dB 30 4194303) ?_
      refine qof_ 22 (some 56) (dB 30 8388607) ?_
      refine qof_ 23 (some 57) (dB 30 16777215) ?_
      refine qof_ 24 (some 58) (dB 30 33554431) ?_
      refine qof_ 25 (some 59) (dB 30 67108863) ?_
      refine qof_ 26 (some 60) (dB 30 134217727) ?_
      refine qon_ 27 (some 61) (dB 30 268435455) ?_
      refine qon_ 28 (some 62) (dB 30 536870911) ?_
      refine qon_ 29 (some 5) (dB 30 1073741823) ?_
      refine done_ (by kernel_rfl) ?_
      have hcp : w6.cell? ⟨gp, 0, none⟩ = some (.pointer (some ⟨gd, 0, none⟩)) := bC_ BKP.out 0 rfl; have hcd10 : w6.cell? ⟨gd, 10, none⟩ = some (.int .u64 c.f10) := bC_ D.out.b 10 rfl; have hcd14 : w6.cell? ⟨gd, 14, none⟩ = some (.slice Au l.length cu) := bC_ D.out.b 14 rfl
      go_wp2_with (first
        | (go_at_call 60; refine (contains_struck (struckP c false) gp gq Au cu l _ (Kd.R_reads' D.out.r).2.2 HN.out (fun s ky w1 hb_ => struck_calls gd gp gq c rg _ _ typ host gen apt false s ky w1 (blk_below D.out.b hb_) (blk_below BKP.out hb_) (blk_below BKQ.out hb_))).mono ?_; rw [HI0.out]; rintro e w67 ⟨rfl, hb_⟩; have n1_ := aS_ (D.out.below hb_); have n2_ := aS_ (blk_below BKP.out hb_); have n3_ := aS_ (blk_below BKQ.out hb_); clear D BKP BKQ hb_ hcp hcd10 hcd14; have D := n1_; have BKP := n2_; have BKQ := n3_; clear n1_ n2_ n3_; have hcp : w67.cell? ⟨gp, 0, none⟩ = some (.pointer (some ⟨gd, 0, none⟩)) := bC_ BKP.out 0 rfl)
        | (go_at_call 55; refine (tell_struck w0 gd gp gq false c rg _ _ l ev typ host gen apt 2 _ D.out HN.out HEV.out BKP.out NP_.out BKQ.out NQ_.out).mono ?_; rintro e w7 ⟨rfl, hd_, hp_, hq_⟩; obtain ⟨ue2, hd2_⟩ := hd_.out; clear D BKP BKQ hd_ hcp; have D := aS_ hd2_; have BKP := hp_; have BKQ := hq_; clear hd2_; have hcp : w7.cell? ⟨gp, 0, none⟩ = some (.pointer (some ⟨gd, 0, none⟩)) := bC_ BKP.out 0 rfl)
        | (go_at_call 54; refine (drop_struck w0 gp gq gd false c rg _ _ l _ typ host gen apt _ D.out HN.out BKP.out NP_.out BKQ.out NQ_.out).mono ?_; rintro e w8 ⟨rfl, ⟨u2, hd2_⟩, hp_, hq_⟩; clear D BKP BKQ hcp; have D := aS_ hd2_; have BKP := aS_ hp_; have BKQ := aS_ hq_; clear hd2_ hp_ hq_; have hcp : w8.cell? ⟨gp, 0, none⟩ = some (.pointer (some ⟨gd, 0, none⟩)) := bC_ BKP.out 0 rfl; have hcd17 : w8.cell? ⟨gd, 17, none⟩ = some (.int .u32 gen) := bC_ D.out.b 17 rfl; have hfd17 := bF_ D.out.b 17))
      go_ret
      exact ⟨rfl, _, _, D.out.put 17 _ rfl⟩
end Go.Proofs.YtjogkfcjlljjcaaDoor.P
