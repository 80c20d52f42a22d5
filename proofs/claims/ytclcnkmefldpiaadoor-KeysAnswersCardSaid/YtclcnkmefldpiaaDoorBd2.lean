-- joined by this session's wip/tools/pack.py: words of the kit's print, cut to what the claim names; functions printed by a patched copy of the printer; walks and lemmas of this session; Lean checks it
import Derived.Test.YtclcnkmefldpiaaDoorBd1
import Derived.WalkKit
import Derived.RegionTactic
import Derived.Deep.QuietTactic
import Derived.BigQuiet
import Derived.Maps.Own
import Derived.Maps.OwnOps
import Derived.Maps.Views
import Derived.Carry
import Derived.Lib.SliceRun
namespace Go.Proofs.YtclcnkmefldpiaaDoor.P
open Go.RowKit Go.Proofs.YtclcnkmefldpiaaDoorW.PrintWords Go.Proofs.YtclcnkmefldpiaaDoorW.PrintLast Go.Proofs.YtclcnkmefldpiaaDoorW.PrintMore
attribute [local go_sem] max2_int min2_int max_two min_two max_three min_three max_four min_four   -- for this text's walks alone
set_option linter.unusedVariables false
set_option linter.unusedSimpArgs false
set_option linter.unnecessarySimpa false
def agC (a : S23) : Array Value := #[.bool a.f0, .bool a.f1, .bool a.f2, .bool a.f3, .int .i64 a.f4, .int .i64 a.f5, .string a.f6, .string a.f7]
def RdC (n : Nat) (cap : Array Value) (cells : List (Nat × Obj)) (F : S23 → ByteArray → Option (S23 × ByteArray × Bool)) : Prop :=
  ∀ (w0 : World) (g : Nat) (a : S23) (v : ByteArray) (r : S23 × ByteArray × Bool) (w : World), Glob w0 → Below w0.heap.size w0 w → w0.heap.size ≤ g → (∀ c ∈ cells, w.heap[c.1]? = some c.2) → w.heap[g]? = some (.cells (agC a) 23 (0, 0)) → F a v = some r →
    Calls Tryd.prog n (#[.pointer (some ⟨g, 0, none⟩), .string v] ++ cap) w fun e w' => e = .returned (.tuple #[.string r.2.1, .bool r.2.2]) ∧ w'.heap[g]? = some (.cells (agC r.1) 23 (0, 0)) ∧ w.grownBy w' (some g)
theorem gb_below {w w1 : World} {row : Option Nat} (h : Below w.heap.size w w1) : w.grownBy w1 row := ⟨h.os, h.tape, h.output, h.size, fun k hk _ => h.block k hk⟩
theorem gb_drawn {w w1 : World} {row : Option Nat} (h : Drawn0 w w1) : w.grownBy w1 row := by
  obtain ⟨n, rfl⟩ := h
  exact gb_below (pw_below_drewN (Below.refl _ _) _)
theorem gb_set (w : World) (g j : Nat) (v : Value) : w.grownBy (w.setCell ⟨g, j, none⟩ v) (some g) := ⟨rfl, rfl, rfl, by simp [World.setCell], fun k _ hk => Below.heap_setCell _ _ _ _ (fun e => hk (by simp [e]))⟩
theorem gb_blk {w w1 : World} {g k : Nat} {o : Obj} (h : w.grownBy w1 (some g)) (hb : w.heap[k]? = some o) (hn : k ≠ g) : w1.heap[k]? = some o := by
  have hk : k < w.heap.size := by
    by_cases hx : k < w.heap.size
    · exact hx
    · rw [Array.getElem?_eq_none (Nat.le_of_not_lt hx)] at hb
      cases hb
  rw [h.block k hk (fun e => hn (by injection e))]
  exact hb
theorem gb_blk0 {w w1 : World} {k : Nat} {o : Obj} (h : Below w.heap.size w w1) (hb : w.heap[k]? = some o) : w1.heap[k]? = some o := blk_below hb h
theorem ptr_1 (g : Nat) (w : World) : Calls Tryd.prog 33 #[.pointer (some ⟨g, 0, none⟩)] w fun e w' => e = .returned (.pointer (some ⟨g, 6, none⟩)) ∧ w' = w := by
  go_enter Tryd.func33, Tryd.ntmps33
  go_wp2
  go_ret
  exact ⟨rfl, rfl⟩
theorem ptr_2 (g : Nat) (w : World) : Calls Tryd.prog 34 #[.pointer (some ⟨g, 0, none⟩)] w fun e w' => e = .returned (.pointer (some ⟨g, 7, none⟩)) ∧ w' = w := by
  go_enter Tryd.func34, Tryd.ntmps34
  go_wp2
  go_ret
  exact ⟨rfl, rfl⟩
theorem ptr_5 (g : Nat) (w : World) : Calls Tryd.prog 38 #[.pointer (some ⟨g, 0, none⟩)] w fun e w' => e = .returned (.pointer (some ⟨g, 0, none⟩)) ∧ w' = w := by
  go_enter Tryd.func38, Tryd.ntmps38
  go_wp2
  go_ret
  exact ⟨rfl, rfl⟩
theorem ptr_6 (g : Nat) (w : World) : Calls Tryd.prog 39 #[.pointer (some ⟨g, 0, none⟩)] w fun e w' => e = .returned (.pointer (some ⟨g, 1, none⟩)) ∧ w' = w := by
  go_enter Tryd.func39, Tryd.ntmps39
  go_wp2
  go_ret
  exact ⟨rfl, rfl⟩
set_option maxHeartbeats 8000000 in
set_option maxRecDepth 100000 in
theorem rdc_named1 (gb : Nat) : RdC 60 #[.pointer (some ⟨gb, 0, none⟩)] [(gb, .cells #[.func (.func 33) #[] #[]] 81 (0, 0))] (fun a v => (names_Iqn.f v).bind fun b => some ({ a with f6 := v }, (⟨#[]⟩ : ByteArray), b)) := by
  intro w0 g a v r w hG0 hB0 hge hcs hbk hF
  have hG := Glob.keep hG0 hB0
  obtain ⟨b, hb, hF⟩ := Option.bind_eq_some_iff.mp hF
  obtain rfl := Option.some.inj hF
  clear hF
  have hcap := hcs _ (List.mem_cons_self ..)
  have c0 : w.cell? ⟨gb, 0, none⟩ = some (.func (.func 33) #[] #[]) := (blk_cell hcap 0).trans rfl
  have f0 := blk_frozen hbk 6
  have c1 : w.cell? ⟨g, 6, none⟩ = some (.string a.f6) := (blk_cell hbk 6).trans rfl
  have HB := Aside0.mk hbk
  have HI := Aside0.mk hb
  clear hcap hcs hbk hb
  show Calls Tryd.prog 60 #[.pointer (some ⟨g, 0, none⟩), .string v, .pointer (some ⟨gb, 0, none⟩)] w _
  go_enter Tryd.func60, Tryd.ntmps60
  go_wp2_with (first
    | (go_at_call 33; refine (ptr_1 g _).mono ?_; rintro e w' ⟨rfl, rfl⟩)
    | (go_at_call 61; refine (names_Iqn.calls v b _ HI.out).mono ?_; rintro e w3 ⟨rfl, hb3⟩; have HB3 := Aside0.mk hb3; clear hb3))
  go_ret2
  exact ⟨rfl, gb_blk0 HB3.out (blk_put HB.out 6 _ rfl), (gb_set _ _ _ _).trans (gb_below HB3.out)⟩
set_option maxHeartbeats 8000000 in
set_option maxRecDepth 100000 in
theorem rdc_named2 (gb : Nat) : RdC 60 #[.pointer (some ⟨gb, 0, none⟩)] [(gb, .cells #[.func (.func 34) #[] #[]] 81 (0, 0))] (fun a v => (names_Iqn.f v).bind fun b => some ({ a with f7 := v }, (⟨#[]⟩ : ByteArray), b)) := by
  intro w0 g a v r w hG0 hB0 hge hcs hbk hF
  have hG := Glob.keep hG0 hB0
  obtain ⟨b, hb, hF⟩ := Option.bind_eq_some_iff.mp hF
  obtain rfl := Option.some.inj hF
  clear hF
  have hcap := hcs _ (List.mem_cons_self ..)
  have c0 : w.cell? ⟨gb, 0, none⟩ = some (.func (.func 34) #[] #[]) := (blk_cell hcap 0).trans rfl
  have f0 := blk_frozen hbk 7
  have c1 : w.cell? ⟨g, 7, none⟩ = some (.string a.f7) := (blk_cell hbk 7).trans rfl
  have HB := Aside0.mk hbk
  have HI := Aside0.mk hb
  clear hcap hcs hbk hb
  show Calls Tryd.prog 60 #[.pointer (some ⟨g, 0, none⟩), .string v, .pointer (some ⟨gb, 0, none⟩)] w _
  go_enter Tryd.func60, Tryd.ntmps60
  go_wp2_with (first
    | (go_at_call 34; refine (ptr_2 g _).mono ?_; rintro e w' ⟨rfl, rfl⟩)
    | (go_at_call 61; refine (names_Iqn.calls v b _ HI.out).mono ?_; rintro e w3 ⟨rfl, hb3⟩; have HB3 := Aside0.mk hb3; clear hb3))
  go_ret2
  exact ⟨rfl, gb_blk0 HB3.out (blk_put HB.out 7 _ rfl), (gb_set _ _ _ _).trans (gb_below HB3.out)⟩
theorem chosen_some {L : List ByteArray} {s x : ByteArray} (h : chosen L s = some x) : chosenV L s = .tuple #[.string x, .bool true] := by unfold chosenV; rw [h]
theorem chosen_none {L : List ByteArray} {s : ByteArray} (h : chosen L s = none) : chosenV L s = .tuple #[.string (⟨#[]⟩ : ByteArray), .bool false] := by unfold chosenV; rw [h]
theorem two_cells {w : World} {g : Nat} {x y : ByteArray} (h : w.heap[g]? = some (.cells #[.string x, .string y] 9 (0, 0))) : ∀ j (h : j < [x, y].length), w.cell? ⟨g, j, none⟩ = some (.string [x, y][j]) := by
  intro j hj
  match j, hj with
  | 0, _ => exact (blk_cell h 0).trans rfl
  | 1, _ => exact (blk_cell h 1).trans rfl
  | j + 2, hj => exact absurd hj (by simp)
theorem one_cells {w : World} {g : Nat} {x : ByteArray} (h : w.heap[g]? = some (.cells #[.string x] 9 (0, 0))) : ∀ j (h : j < [x].length), w.cell? ⟨g, j, none⟩ = some (.string [x][j]) := by
  intro j hj
  match j, hj with
  | 0, _ => exact (blk_cell h 0).trans rfl
  | j + 1, hj => exact absurd hj (by simp)
set_option maxHeartbeats 8000000 in
set_option maxRecDepth 100000 in
theorem rdc_digest5 (gb : Nat) : RdC 62 #[.pointer (some ⟨gb, 0, none⟩)] [(gb, .cells #[.func (.func 38) #[] #[]] 84 (0, 0))] (fun a v => if v.size ≤ 1000000 then (match chosen [(⟨#[67, 82, 67, 51, 50, 67]⟩ : ByteArray), (⟨#[78, 111, 110, 101]⟩ : ByteArray)] v with | some x => some ({ a with f0 := x.toList == ([67, 82, 67, 51, 50, 67] : List UInt8) }, x, true) | none => some (a, (⟨#[]⟩ : ByteArray), false)) else none) := by
  intro w0 g a v r w hG0 hB0 hge hcs hbk hF
  have hG := Glob.keep hG0 hB0
  dsimp only at hF
  split at hF
  · next hs =>
    have hcap := hcs _ (List.mem_cons_self ..)
    have HB := Aside0.mk hbk
    have HG := Aside0.mk hG
    have HS := Aside0.mk hs
    have HCP := Aside0.mk hcap
    clear hcap hcs hbk hG hs
    show Calls Tryd.prog 62 #[.pointer (some ⟨g, 0, none⟩), .string v, .pointer (some ⟨gb, 0, none⟩)] w _
    split at hF
    · next x hx =>
      cases hF
      have HC := Aside0.mk (chosen_some hx)
      clear hx
      go_enter Tryd.func62, Tryd.ntmps62
      go_wp2_with (first
        | (go_at_call 48; have hbx : (w.alloc (.cells #[.string (⟨#[67, 82, 67, 51, 50, 67]⟩ : ByteArray), .string (⟨#[78, 111, 110, 101]⟩ : ByteArray)] 9)).heap[w.heap.size]? = some (.cells #[.string (⟨#[67, 82, 67, 51, 50, 67]⟩ : ByteArray), .string (⟨#[78, 111, 110, 101]⟩ : ByteArray)] 9 (0, 0)) := Array.getElem?_push_size; have hbl := below_alloc (Below.refl w.heap.size w) (.cells #[.string (⟨#[67, 82, 67, 51, 50, 67]⟩ : ByteArray), .string (⟨#[78, 111, 110, 101]⟩ : ByteArray)] 9 (0, 0)); refine (choice_calls v w.heap.size 2 [(⟨#[67, 82, 67, 51, 50, 67]⟩ : ByteArray), (⟨#[78, 111, 110, 101]⟩ : ByteArray)] _ (Glob.keep HG.out hbl) HS.out (by decide) (by show w.heap.size < (w.heap.push _).size; simp) (two_cells hbx)).mono ?_; rintro e w2 ⟨rfl, hb2⟩; rw [HC.out]; have HB2 := Aside0.mk (below_step hbl hb2); clear hb2 hbx hbl; have hbk2 := gb_blk0 HB2.out HB.out; have hcap2 := gb_blk0 HB2.out HCP.out; have c0 : w2.cell? ⟨gb, 0, none⟩ = some (.func (.func 38) #[] #[]) := (blk_cell hcap2 0).trans rfl; have f0 := blk_frozen hbk2 0; have c1 : w2.cell? ⟨g, 0, none⟩ = some (.bool a.f0) := (blk_cell hbk2 0).trans rfl; have HB3 := Aside0.mk hbk2; clear hcap2 hbk2)
        | (go_at_call 38; refine (ptr_5 g _).mono ?_; rintro e w' ⟨rfl, rfl⟩))
      go_ret2
      exact ⟨rfl, blk_put HB3.out 0 _ rfl, (gb_below HB2.out).trans (gb_set _ _ _ _)⟩
    · next hx =>
      cases hF
      have HC := Aside0.mk (chosen_none hx)
      clear hx
      go_enter Tryd.func62, Tryd.ntmps62
      go_wp2_with (go_at_call 48; have hbx : (w.alloc (.cells #[.string (⟨#[67, 82, 67, 51, 50, 67]⟩ : ByteArray), .string (⟨#[78, 111, 110, 101]⟩ : ByteArray)] 9)).heap[w.heap.size]? = some (.cells #[.string (⟨#[67, 82, 67, 51, 50, 67]⟩ : ByteArray), .string (⟨#[78, 111, 110, 101]⟩ : ByteArray)] 9 (0, 0)) := Array.getElem?_push_size; have hbl := below_alloc (Below.refl w.heap.size w) (.cells #[.string (⟨#[67, 82, 67, 51, 50, 67]⟩ : ByteArray), .string (⟨#[78, 111, 110, 101]⟩ : ByteArray)] 9 (0, 0)); refine (choice_calls v w.heap.size 2 [(⟨#[67, 82, 67, 51, 50, 67]⟩ : ByteArray), (⟨#[78, 111, 110, 101]⟩ : ByteArray)] _ (Glob.keep HG.out hbl) HS.out (by decide) (by show w.heap.size < (w.heap.push _).size; simp) (two_cells hbx)).mono ?_; rintro e w2 ⟨rfl, hb2⟩; rw [HC.out]; have HB2 := Aside0.mk (below_step hbl hb2); clear hb2 hbx hbl; have hbk2 := gb_blk0 HB2.out HB.out; have hcap2 := gb_blk0 HB2.out HCP.out; have c0 : w2.cell? ⟨gb, 0, none⟩ = some (.func (.func 38) #[] #[]) := (blk_cell hcap2 0).trans rfl; have f0 := blk_frozen hbk2 0; have c1 : w2.cell? ⟨g, 0, none⟩ = some (.bool a.f0) := (blk_cell hbk2 0).trans rfl; have HB3 := Aside0.mk hbk2; clear hcap2 hbk2)
      go_ret2
      exact ⟨rfl, HB3.out, gb_below HB2.out⟩
  · cases hF
set_option maxHeartbeats 8000000 in
set_option maxRecDepth 100000 in
theorem rdc_digest6 (gb : Nat) : RdC 62 #[.pointer (some ⟨gb, 0, none⟩)] [(gb, .cells #[.func (.func 39) #[] #[]] 84 (0, 0))] (fun a v => if v.size ≤ 1000000 then (match chosen [(⟨#[67, 82, 67, 51, 50, 67]⟩ : ByteArray), (⟨#[78, 111, 110, 101]⟩ : ByteArray)] v with | some x => some ({ a with f1 := x.toList == ([67, 82, 67, 51, 50, 67] : List UInt8) }, x, true) | none => some (a, (⟨#[]⟩ : ByteArray), false)) else none) := by
  intro w0 g a v r w hG0 hB0 hge hcs hbk hF
  have hG := Glob.keep hG0 hB0
  dsimp only at hF
  split at hF
  · next hs =>
    have hcap := hcs _ (List.mem_cons_self ..)
    have HB := Aside0.mk hbk
    have HG := Aside0.mk hG
    have HS := Aside0.mk hs
    have HCP := Aside0.mk hcap
    clear hcap hcs hbk hG hs
    show Calls Tryd.prog 62 #[.pointer (some ⟨g, 0, none⟩), .string v, .pointer (some ⟨gb, 0, none⟩)] w _
    split at hF
    · next x hx =>
      cases hF
      have HC := Aside0.mk (chosen_some hx)
      clear hx
      go_enter Tryd.func62, Tryd.ntmps62
      go_wp2_with (first
        | (go_at_call 48; have hbx : (w.alloc (.cells #[.string (⟨#[67, 82, 67, 51, 50, 67]⟩ : ByteArray), .string (⟨#[78, 111, 110, 101]⟩ : ByteArray)] 9)).heap[w.heap.size]? = some (.cells #[.string (⟨#[67, 82, 67, 51, 50, 67]⟩ : ByteArray), .string (⟨#[78, 111, 110, 101]⟩ : ByteArray)] 9 (0, 0)) := Array.getElem?_push_size; have hbl := below_alloc (Below.refl w.heap.size w) (.cells #[.string (⟨#[67, 82, 67, 51, 50, 67]⟩ : ByteArray), .string (⟨#[78, 111, 110, 101]⟩ : ByteArray)] 9 (0, 0)); refine (choice_calls v w.heap.size 2 [(⟨#[67, 82, 67, 51, 50, 67]⟩ : ByteArray), (⟨#[78, 111, 110, 101]⟩ : ByteArray)] _ (Glob.keep HG.out hbl) HS.out (by decide) (by show w.heap.size < (w.heap.push _).size; simp) (two_cells hbx)).mono ?_; rintro e w2 ⟨rfl, hb2⟩; rw [HC.out]; have HB2 := Aside0.mk (below_step hbl hb2); clear hb2 hbx hbl; have hbk2 := gb_blk0 HB2.out HB.out; have hcap2 := gb_blk0 HB2.out HCP.out; have c0 : w2.cell? ⟨gb, 0, none⟩ = some (.func (.func 39) #[] #[]) := (blk_cell hcap2 0).trans rfl; have f0 := blk_frozen hbk2 1; have c1 : w2.cell? ⟨g, 1, none⟩ = some (.bool a.f1) := (blk_cell hbk2 1).trans rfl; have HB3 := Aside0.mk hbk2; clear hcap2 hbk2)
        | (go_at_call 39; refine (ptr_6 g _).mono ?_; rintro e w' ⟨rfl, rfl⟩))
      go_ret2
      exact ⟨rfl, blk_put HB3.out 1 _ rfl, (gb_below HB2.out).trans (gb_set _ _ _ _)⟩
    · next hx =>
      cases hF
      have HC := Aside0.mk (chosen_none hx)
      clear hx
      go_enter Tryd.func62, Tryd.ntmps62
      go_wp2_with (go_at_call 48; have hbx : (w.alloc (.cells #[.string (⟨#[67, 82, 67, 51, 50, 67]⟩ : ByteArray), .string (⟨#[78, 111, 110, 101]⟩ : ByteArray)] 9)).heap[w.heap.size]? = some (.cells #[.string (⟨#[67, 82, 67, 51, 50, 67]⟩ : ByteArray), .string (⟨#[78, 111, 110, 101]⟩ : ByteArray)] 9 (0, 0)) := Array.getElem?_push_size; have hbl := below_alloc (Below.refl w.heap.size w) (.cells #[.string (⟨#[67, 82, 67, 51, 50, 67]⟩ : ByteArray), .string (⟨#[78, 111, 110, 101]⟩ : ByteArray)] 9 (0, 0)); refine (choice_calls v w.heap.size 2 [(⟨#[67, 82, 67, 51, 50, 67]⟩ : ByteArray), (⟨#[78, 111, 110, 101]⟩ : ByteArray)] _ (Glob.keep HG.out hbl) HS.out (by decide) (by show w.heap.size < (w.heap.push _).size; simp) (two_cells hbx)).mono ?_; rintro e w2 ⟨rfl, hb2⟩; rw [HC.out]; have HB2 := Aside0.mk (below_step hbl hb2); clear hb2 hbx hbl; have hbk2 := gb_blk0 HB2.out HB.out; have hcap2 := gb_blk0 HB2.out HCP.out; have c0 : w2.cell? ⟨gb, 0, none⟩ = some (.func (.func 39) #[] #[]) := (blk_cell hcap2 0).trans rfl; have f0 := blk_frozen hbk2 1; have c1 : w2.cell? ⟨g, 1, none⟩ = some (.bool a.f1) := (blk_cell hbk2 1).trans rfl; have HB3 := Aside0.mk hbk2; clear hcap2 hbk2)
      go_ret2
      exact ⟨rfl, HB3.out, gb_below HB2.out⟩
  · cases hF
set_option maxHeartbeats 8000000 in
set_option maxRecDepth 100000 in
theorem yes_walk (v : ByteArray) (w : World) : Calls Tryd.prog 44 #[.string v] w fun e w' => e = .returned (.tuple #[.bool (v.toList == ([89, 101, 115] : List UInt8)), .bool ((v.toList == ([89, 101, 115] : List UInt8)) || (v.toList == ([78, 111] : List UInt8)))]) ∧ Drawn0 w w' := by
  by_cases c2 : v.toList = ([89, 101, 115] : List UInt8)
  · have c2b0 : (v.toList == ([89, 101, 115] : List UInt8)) = true := beq_iff_eq.mpr c2
    rw [c2b0]
    clear c2
    go_enter Tryd.func44, Tryd.ntmps44
    go_wp2
    go_ret2
    exact ⟨rfl, by repeat (first | exact Drawn0.refl _ | apply Drawn0.step)⟩
  · have c2b0 : (v.toList == ([89, 101, 115] : List UInt8)) = false := beq_eq_false_iff_ne.mpr c2
    rw [c2b0]
    clear c2
    go_enter Tryd.func44, Tryd.ntmps44
    go_wp2
    go_ret2
    exact ⟨rfl, by repeat (first | exact Drawn0.refl _ | apply Drawn0.step)⟩
set_option maxHeartbeats 8000000 in
set_option maxRecDepth 100000 in
theorem rdc_normal : RdC 35 #[] [] (fun a v => some (a, (⟨#[]⟩ : ByteArray), v.toList == ([78, 111, 114, 109, 97, 108] : List UInt8))) := by
  intro w0 g a v r w hG0 hB0 hge hcs hbk hF
  have hG := Glob.keep hG0 hB0
  dsimp only at hF
  obtain rfl := Option.some.inj hF
  clear hF
  have HB := Aside0.mk hbk
  have HG := Aside0.mk hG
  have HG0 := Aside0.mk hG0
  have HB0 := Aside0.mk hB0
  have HGE := Aside0.mk hge
  clear hcs hbk hG hG0 hB0 hge
  show Calls Tryd.prog 35 #[.pointer (some ⟨g, 0, none⟩), .string v] w _
  go_enter Tryd.func35, Tryd.ntmps35
  go_wp2
  go_ret2
  exact ⟨rfl, HB.out, gb_below (Below.refl _ _)⟩
set_option maxHeartbeats 8000000 in
set_option maxRecDepth 100000 in
theorem rdc_alias : RdC 36 #[] [] (fun a v => some (a, (⟨#[]⟩ : ByteArray), true)) := by
  intro w0 g a v r w hG0 hB0 hge hcs hbk hF
  have hG := Glob.keep hG0 hB0
  dsimp only at hF
  obtain rfl := Option.some.inj hF
  clear hF
  have HB := Aside0.mk hbk
  have HG := Aside0.mk hG
  have HG0 := Aside0.mk hG0
  have HB0 := Aside0.mk hB0
  have HGE := Aside0.mk hge
  clear hcs hbk hG hG0 hB0 hge
  show Calls Tryd.prog 36 #[.pointer (some ⟨g, 0, none⟩), .string v] w _
  go_enter Tryd.func36, Tryd.ntmps36
  go_wp2
  go_ret2
  exact ⟨rfl, HB.out, gb_below (Below.refl _ _)⟩
set_option maxHeartbeats 8000000 in
set_option maxRecDepth 100000 in
theorem rdc_immediate : RdC 43 #[] [] (fun a v => some ({ a with f2 := v.toList == ([89, 101, 115] : List UInt8) }, v, (v.toList == ([89, 101, 115] : List UInt8)) || (v.toList == ([78, 111] : List UInt8)))) := by
  intro w0 g a v r w hG0 hB0 hge hcs hbk hF
  have hG := Glob.keep hG0 hB0
  dsimp only at hF
  obtain rfl := Option.some.inj hF
  clear hF
  have HB := Aside0.mk hbk
  have HG := Aside0.mk hG
  have HG0 := Aside0.mk hG0
  have HB0 := Aside0.mk hB0
  have HGE := Aside0.mk hge
  clear hcs hbk hG hG0 hB0 hge
  show Calls Tryd.prog 43 #[.pointer (some ⟨g, 0, none⟩), .string v] w _
  go_enter Tryd.func43, Tryd.ntmps43
  go_wp2_with (go_at_call 44; refine (yes_walk v _).mono ?_; rintro e w3 ⟨rfl, hd⟩; have HD := Aside0.mk (gb_drawn hd (row := some g)); have hbk3 := (by (obtain ⟨n, rfl⟩ := hd; exact blk_drewN HB.out n) : w3.heap[g]? = some (.cells (agC a) 23 (0, 0))); have f0 := blk_frozen hbk3 2; have c1 : w3.cell? ⟨g, 2, none⟩ = some (.bool a.f2) := (blk_cell hbk3 2).trans rfl; have HB3 := Aside0.mk hbk3; clear hbk3 hd)
  go_ret2
  exact ⟨rfl, blk_put HB3.out 2 _ rfl, HD.out.trans (gb_set _ _ _ _)⟩
theorem itoa_walk (n : Int) (h0 : -9223372036854775808 ≤ n) (h1 : n ≤ 9223372036854775807) (w : World) (hG : Glob w) : Calls Tryd.prog 42 #[.int .i64 n] w fun e w' => e = .returned (.string ⟨(Go.Lib.itoa n).toArray⟩) ∧ Below w.heap.size w w' := by
  refine (Tryd.strconv_Itoa n h0 h1 w hG.internal_strconv_uint64pow10).mono ?_
  rintro e w' ⟨rfl, k, os, rfl⟩
  exact ⟨rfl, Go.Lib.below_grow _ _ (Nat.le_refl _) k os⟩
theorem numB_bd (v : ByteArray) (least : Int) : 0 ≤ (numB v least).1 ∧ (numB v least).1 ≤ 16777215 := by
  unfold numB
  split
  · exact ⟨by decide, by decide⟩
  · have := pu_lt v.data.toList 0 (by omega)
    dsimp only
    omega
set_option maxHeartbeats 8000000 in
set_option maxRecDepth 100000 in
theorem rdc_receive : RdC 40 #[] [] (fun a v => some ({ a with f4 := min (numB v 512).1 8192 }, ⟨(Go.Lib.itoa 8192).toArray⟩, (numB v 512).2)) := by
  intro w0 g a v r w hG0 hB0 hge hcs hbk hF
  have hG := Glob.keep hG0 hB0
  dsimp only at hF
  have hnb := numB_bd v 512
  obtain ⟨n, ok, hn⟩ : ∃ n ok, numB v 512 = (n, ok) := ⟨_, _, rfl⟩
  rw [hn] at hF hnb
  dsimp only at hF hnb
  obtain ⟨n0, n1⟩ := hnb
  have HN := Aside0.mk hn
  clear hn
  obtain rfl := Option.some.inj hF
  clear hF
  have HN2 := Aside0.mk (show keys_number.f v 512 = some (n, ok) from congrArg some HN.out)
  have HB := Aside0.mk hbk
  have HG := Aside0.mk hG
  have HG0 := Aside0.mk hG0
  have HB0 := Aside0.mk hB0
  have HGE := Aside0.mk hge
  clear hcs hbk hG hG0 hB0 hge
  show Calls Tryd.prog 40 #[.pointer (some ⟨g, 0, none⟩), .string v] w _
  by_cases hm : n ≤ 8192
  · rw [Int.min_eq_left hm]
    have hm1 : n ≤ 8192 := hm
    clear hm
    go_enter Tryd.func40, Tryd.ntmps40
    go_wp2_with (first
      | (go_at_call 41; refine (keys_number.calls v 512 n ok _ HG.out HN2.out).mono ?_; rintro e w3 ⟨rfl, hb3⟩; have HB3 := Aside0.mk hb3; have hbk3 := gb_blk0 hb3 HB.out; have HBK := Aside0.mk hbk3; clear hb3; have f0 := blk_frozen hbk3 4; have c1 : w3.cell? ⟨g, 4, none⟩ = some (.int .i64 a.f4) := (blk_cell hbk3 4).trans rfl; clear hbk3)
      | (go_at_call 42; refine (itoa_walk (8192) (by omega) (by omega) _ (Glob.keep HG0.out (((below_step HB0.out HB3.out).grown (gb_set w3 g 4 (.int .i64 (n))) (below_size (below_step HB0.out HB3.out)) (fun k hk => by cases hk; exact HGE.out))))).mono ?_; rintro e w4 ⟨rfl, hb4⟩; have HB4 := Aside0.mk hb4; clear hb4))
    go_ret2
    exact ⟨rfl, gb_blk0 HB4.out (blk_put HBK.out 4 _ rfl), (gb_below HB3.out).trans ((gb_set w3 g 4 (.int .i64 (n))).trans (gb_below HB4.out))⟩
  · rw [Int.min_eq_right (show 8192 ≤ n by omega)]
    have hm1 : 8192 < n := by omega
    clear hm
    go_enter Tryd.func40, Tryd.ntmps40
    go_wp2_with (first
      | (go_at_call 41; refine (keys_number.calls v 512 n ok _ HG.out HN2.out).mono ?_; rintro e w3 ⟨rfl, hb3⟩; have HB3 := Aside0.mk hb3; have hbk3 := gb_blk0 hb3 HB.out; have HBK := Aside0.mk hbk3; clear hb3; have f0 := blk_frozen hbk3 4; have c1 : w3.cell? ⟨g, 4, none⟩ = some (.int .i64 a.f4) := (blk_cell hbk3 4).trans rfl; clear hbk3)
      | (go_at_call 42; refine (itoa_walk (8192) (by omega) (by omega) _ (Glob.keep HG0.out (((below_step HB0.out HB3.out).grown (gb_set w3 g 4 (.int .i64 (8192))) (below_size (below_step HB0.out HB3.out)) (fun k hk => by cases hk; exact HGE.out))))).mono ?_; rintro e w4 ⟨rfl, hb4⟩; have HB4 := Aside0.mk hb4; clear hb4))
    go_ret2
    exact ⟨rfl, gb_blk0 HB4.out (blk_put HBK.out 4 _ rfl), (gb_below HB3.out).trans ((gb_set w3 g 4 (.int .i64 (8192))).trans (gb_below HB4.out))⟩
set_option maxHeartbeats 8000000 in
set_option maxRecDepth 100000 in
theorem rdc_burst : RdC 45 #[] [] (fun a v => some ({ a with f5 := min (numB v 512).1 4096 }, ⟨(Go.Lib.itoa (min (numB v 512).1 4096)).toArray⟩, (numB v 512).2)) := by
  intro w0 g a v r w hG0 hB0 hge hcs hbk hF
  have hG := Glob.keep hG0 hB0
  dsimp only at hF
  have hnb := numB_bd v 512
  obtain ⟨n, ok, hn⟩ : ∃ n ok, numB v 512 = (n, ok) := ⟨_, _, rfl⟩
  rw [hn] at hF hnb
  dsimp only at hF hnb
  obtain ⟨n0, n1⟩ := hnb
  have HN := Aside0.mk hn
  clear hn
  obtain rfl := Option.some.inj hF
  clear hF
  have HN2 := Aside0.mk (show keys_number.f v 512 = some (n, ok) from congrArg some HN.out)
  have HB := Aside0.mk hbk
  have HG := Aside0.mk hG
  have HG0 := Aside0.mk hG0
  have HB0 := Aside0.mk hB0
  have HGE := Aside0.mk hge
  clear hcs hbk hG hG0 hB0 hge
  show Calls Tryd.prog 45 #[.pointer (some ⟨g, 0, none⟩), .string v] w _
  by_cases hm : n ≤ 4096
  · rw [Int.min_eq_left hm]
    have hm1 : n ≤ 4096 := hm
    clear hm
    go_enter Tryd.func45, Tryd.ntmps45
    go_wp2_with (first
      | (go_at_call 41; refine (keys_number.calls v 512 n ok _ HG.out HN2.out).mono ?_; rintro e w3 ⟨rfl, hb3⟩; have HB3 := Aside0.mk hb3; have hbk3 := gb_blk0 hb3 HB.out; have HBK := Aside0.mk hbk3; clear hb3; have f0 := blk_frozen hbk3 5; have c1 : w3.cell? ⟨g, 5, none⟩ = some (.int .i64 a.f5) := (blk_cell hbk3 5).trans rfl; clear hbk3)
      | (go_at_call 42; refine (itoa_walk (n) (by omega) (by omega) _ (Glob.keep HG0.out (((below_step HB0.out HB3.out).grown (gb_set w3 g 5 (.int .i64 (n))) (below_size (below_step HB0.out HB3.out)) (fun k hk => by cases hk; exact HGE.out))))).mono ?_; rintro e w4 ⟨rfl, hb4⟩; have HB4 := Aside0.mk hb4; clear hb4))
    go_ret2
    exact ⟨rfl, gb_blk0 HB4.out (blk_put HBK.out 5 _ rfl), (gb_below HB3.out).trans ((gb_set w3 g 5 (.int .i64 (n))).trans (gb_below HB4.out))⟩
  · rw [Int.min_eq_right (show 4096 ≤ n by omega)]
    have hm1 : 4096 < n := by omega
    clear hm
    go_enter Tryd.func45, Tryd.ntmps45
    go_wp2_with (first
      | (go_at_call 41; refine (keys_number.calls v 512 n ok _ HG.out HN2.out).mono ?_; rintro e w3 ⟨rfl, hb3⟩; have HB3 := Aside0.mk hb3; have hbk3 := gb_blk0 hb3 HB.out; have HBK := Aside0.mk hbk3; clear hb3; have f0 := blk_frozen hbk3 5; have c1 : w3.cell? ⟨g, 5, none⟩ = some (.int .i64 a.f5) := (blk_cell hbk3 5).trans rfl; clear hbk3)
      | (go_at_call 42; refine (itoa_walk (4096) (by omega) (by omega) _ (Glob.keep HG0.out (((below_step HB0.out HB3.out).grown (gb_set w3 g 5 (.int .i64 (4096))) (below_size (below_step HB0.out HB3.out)) (fun k hk => by cases hk; exact HGE.out))))).mono ?_; rintro e w4 ⟨rfl, hb4⟩; have HB4 := Aside0.mk hb4; clear hb4))
    go_ret2
    exact ⟨rfl, gb_blk0 HB4.out (blk_put HBK.out 5 _ rfl), (gb_below HB3.out).trans ((gb_set w3 g 5 (.int .i64 (4096))).trans (gb_below HB4.out))⟩
set_option maxHeartbeats 8000000 in
set_option maxRecDepth 100000 in
theorem rdc_max : RdC 46 #[] [] (fun a v => some (a, ⟨(Go.Lib.itoa (min (numB v 512).1 32768)).toArray⟩, (numB v 512).2)) := by
  intro w0 g a v r w hG0 hB0 hge hcs hbk hF
  have hG := Glob.keep hG0 hB0
  dsimp only at hF
  have hnb := numB_bd v 512
  obtain ⟨n, ok, hn⟩ : ∃ n ok, numB v 512 = (n, ok) := ⟨_, _, rfl⟩
  rw [hn] at hF hnb
  dsimp only at hF hnb
  obtain ⟨n0, n1⟩ := hnb
  have HN := Aside0.mk hn
  clear hn
  obtain rfl := Option.some.inj hF
  clear hF
  have HN2 := Aside0.mk (show keys_number.f v 512 = some (n, ok) from congrArg some HN.out)
  have HB := Aside0.mk hbk
  have HG := Aside0.mk hG
  have HG0 := Aside0.mk hG0
  have HB0 := Aside0.mk hB0
  have HGE := Aside0.mk hge
  clear hcs hbk hG hG0 hB0 hge
  show Calls Tryd.prog 46 #[.pointer (some ⟨g, 0, none⟩), .string v] w _
  by_cases hm : n ≤ 32768
  · rw [Int.min_eq_left hm]
    have hm1 : n ≤ 32768 := hm
    clear hm
    go_enter Tryd.func46, Tryd.ntmps46
    go_wp2_with (first
      | (go_at_call 41; refine (keys_number.calls v 512 n ok _ HG.out HN2.out).mono ?_; rintro e w3 ⟨rfl, hb3⟩; have HB3 := Aside0.mk hb3; have hbk3 := gb_blk0 hb3 HB.out; have HBK := Aside0.mk hbk3; clear hb3; clear hbk3)
      | (go_at_call 42; refine (itoa_walk (n) (by omega) (by omega) _ (Glob.keep HG0.out (below_step HB0.out HB3.out))).mono ?_; rintro e w4 ⟨rfl, hb4⟩; have HB4 := Aside0.mk hb4; clear hb4))
    go_ret2
    exact ⟨rfl, gb_blk0 HB4.out (HBK.out), (gb_below HB3.out).trans ((gb_below HB4.out))⟩
  · rw [Int.min_eq_right (show 32768 ≤ n by omega)]
    have hm1 : 32768 < n := by omega
    clear hm
    go_enter Tryd.func46, Tryd.ntmps46
    go_wp2_with (first
      | (go_at_call 41; refine (keys_number.calls v 512 n ok _ HG.out HN2.out).mono ?_; rintro e w3 ⟨rfl, hb3⟩; have HB3 := Aside0.mk hb3; have hbk3 := gb_blk0 hb3 HB.out; have HBK := Aside0.mk hbk3; clear hb3; clear hbk3)
      | (go_at_call 42; refine (itoa_walk (32768) (by omega) (by omega) _ (Glob.keep HG0.out (below_step HB0.out HB3.out))).mono ?_; rintro e w4 ⟨rfl, hb4⟩; have HB4 := Aside0.mk hb4; clear hb4))
    go_ret2
    exact ⟨rfl, gb_blk0 HB4.out (HBK.out), (gb_below HB3.out).trans ((gb_below HB4.out))⟩
set_option maxHeartbeats 8000000 in
set_option maxRecDepth 100000 in
theorem rdc_auth : RdC 47 #[] [] (fun a v => if v.size ≤ 1000000 then (match chosen [(⟨#[78, 111, 110, 101]⟩ : ByteArray)] v with | some x => some (a, x, true) | none => some (a, (⟨#[]⟩ : ByteArray), false)) else none) := by
  intro w0 g a v r w hG0 hB0 hge hcs hbk hF
  have hG := Glob.keep hG0 hB0
  dsimp only at hF
  split at hF
  · next hs =>
    have HB := Aside0.mk hbk
    have HG := Aside0.mk hG
    have HS := Aside0.mk hs
    clear hcs hbk hG hs hG0 hB0
    show Calls Tryd.prog 47 #[.pointer (some ⟨g, 0, none⟩), .string v] w _
    split at hF
    all_goals
      next hx =>
      cases hF
      have HC := Aside0.mk (by first | exact chosen_some hx | exact chosen_none hx)
      clear hx
      go_enter Tryd.func47, Tryd.ntmps47
      go_wp2_with (go_at_call 48; have hbx : (w.alloc (.cells #[.string (⟨#[78, 111, 110, 101]⟩ : ByteArray)] 9)).heap[w.heap.size]? = some (.cells #[.string (⟨#[78, 111, 110, 101]⟩ : ByteArray)] 9 (0, 0)) := Array.getElem?_push_size; have hbl := below_alloc (Below.refl w.heap.size w) (.cells #[.string (⟨#[78, 111, 110, 101]⟩ : ByteArray)] 9 (0, 0)); refine (choice_calls v w.heap.size 1 [(⟨#[78, 111, 110, 101]⟩ : ByteArray)] _ (Glob.keep HG.out hbl) HS.out (by decide) (by show w.heap.size < (w.heap.push _).size; simp) (one_cells hbx)).mono ?_; rintro e w2 ⟨rfl, hb2⟩; rw [HC.out]; have HB2 := Aside0.mk (below_step hbl hb2); clear hb2 hbx hbl)
      go_ret2
      exact ⟨rfl, gb_blk0 HB2.out HB.out, gb_below HB2.out⟩
  · cases hF
set_option maxHeartbeats 8000000 in
set_option maxRecDepth 100000 in
theorem rdc_always_yes (gb gc : Nat) (n : Int) : RdC 66 #[.pointer (some ⟨gb, 0, none⟩), .pointer (some ⟨gc, 0, none⟩)] [(gb, .cells #[.string (⟨#[89, 101, 115]⟩ : ByteArray)] 9 (0, 0)), (gc, .cells #[.int .i64 n] 3 (0, 0))] (fun a v => some (a, (⟨#[89, 101, 115]⟩ : ByteArray), (v.toList == ([89, 101, 115] : List UInt8)) || (v.toList == ([78, 111] : List UInt8)))) := by
  intro w0 g a v r w hG0 hB0 hge hcs hbk hF
  have hG := Glob.keep hG0 hB0
  dsimp only at hF
  obtain rfl := Option.some.inj hF
  have hcap := hcs _ (List.mem_cons_self ..)
  have hcap2 := hcs _ (List.mem_cons_of_mem _ (List.mem_cons_self ..))
  have c0 : w.cell? ⟨gb, 0, none⟩ = some (.string (⟨#[89, 101, 115]⟩ : ByteArray)) := (blk_cell hcap 0).trans rfl
  have c1 : w.cell? ⟨gc, 0, none⟩ = some (.int .i64 n) := (blk_cell hcap2 0).trans rfl
  have HB := Aside0.mk hbk
  have HG := Aside0.mk hG
  have HCP := Aside0.mk hcap
  clear hcap hcap2 hcs hbk hG hG0 hB0 hF
  show Calls Tryd.prog 66 #[.pointer (some ⟨g, 0, none⟩), .string v, .pointer (some ⟨gb, 0, none⟩), .pointer (some ⟨gc, 0, none⟩)] w _
  go_enter Tryd.func66, Tryd.ntmps66
  go_wp2_with (go_at_call 44; refine (yes_walk v _).mono ?_; rintro e w3 ⟨rfl, hd⟩; have HD := Aside0.mk (gb_drawn hd (row := some g)); have hbk3 := (by (obtain ⟨n, rfl⟩ := hd; exact blk_drewN HB.out n) : w3.heap[g]? = some (.cells (agC a) 23 (0, 0))); have hcp3 := (by (obtain ⟨n, rfl⟩ := hd; exact blk_drewN HCP.out n) : w3.heap[gb]? = some (.cells #[.string (⟨#[89, 101, 115]⟩ : ByteArray)] 9 (0, 0))); have c2 : w3.cell? ⟨gb, 0, none⟩ = some (.string (⟨#[89, 101, 115]⟩ : ByteArray)) := (blk_cell hcp3 0).trans rfl; have HB3 := Aside0.mk hbk3; clear hbk3 hcp3 hd)
  go_ret2
  exact ⟨rfl, HB3.out, HD.out⟩
set_option maxHeartbeats 8000000 in
set_option maxRecDepth 100000 in
theorem rdc_always_one (gb gc : Nat) (n : Int) : RdC 66 #[.pointer (some ⟨gb, 0, none⟩), .pointer (some ⟨gc, 0, none⟩)] [(gb, .cells #[.string (⟨#[49]⟩ : ByteArray)] 9 (0, 0)), (gc, .cells #[.int .i64 n] 3 (0, 0))] (fun a v => some (a, (⟨#[49]⟩ : ByteArray), (numB v n).2)) := by
  intro w0 g a v r w hG0 hB0 hge hcs hbk hF
  have hG := Glob.keep hG0 hB0
  dsimp only at hF
  obtain rfl := Option.some.inj hF
  have hcap := hcs _ (List.mem_cons_self ..)
  have hcap2 := hcs _ (List.mem_cons_of_mem _ (List.mem_cons_self ..))
  have c0 : w.cell? ⟨gb, 0, none⟩ = some (.string (⟨#[49]⟩ : ByteArray)) := (blk_cell hcap 0).trans rfl
  have c1 : w.cell? ⟨gc, 0, none⟩ = some (.int .i64 n) := (blk_cell hcap2 0).trans rfl
  have HB := Aside0.mk hbk
  have HG := Aside0.mk hG
  have HCP := Aside0.mk hcap
  clear hcap hcap2 hcs hbk hG hG0 hB0 hF
  show Calls Tryd.prog 66 #[.pointer (some ⟨g, 0, none⟩), .string v, .pointer (some ⟨gb, 0, none⟩), .pointer (some ⟨gc, 0, none⟩)] w _
  obtain ⟨m, ok, hn⟩ : ∃ m ok, numB v n = (m, ok) := ⟨_, _, rfl⟩
  rw [hn]
  have HN2 := Aside0.mk (show keys_number.f v n = some (m, ok) from congrArg some hn)
  clear hn
  go_enter Tryd.func66, Tryd.ntmps66
  go_wp2_with (go_at_call 41; refine (keys_number.calls v n m ok _ HG.out HN2.out).mono ?_; rintro e w3 ⟨rfl, hb3⟩; have hcp3 := gb_blk0 hb3 HCP.out; have c2 : w3.cell? ⟨gb, 0, none⟩ = some (.string (⟨#[49]⟩ : ByteArray)) := (blk_cell hcp3 0).trans rfl; have HB3 := Aside0.mk hb3; clear hcp3 hb3)
  go_ret2
  exact ⟨rfl, gb_blk0 HB3.out HB.out, gb_below HB3.out⟩
set_option maxHeartbeats 8000000 in
set_option maxRecDepth 100000 in
theorem rdc_always_nil (gb gc : Nat) (n : Int) : RdC 66 #[.pointer (some ⟨gb, 0, none⟩), .pointer (some ⟨gc, 0, none⟩)] [(gb, .cells #[.string (⟨#[48]⟩ : ByteArray)] 9 (0, 0)), (gc, .cells #[.int .i64 n] 3 (0, 0))] (fun a v => some (a, (⟨#[48]⟩ : ByteArray), (numB v n).2)) := by
  intro w0 g a v r w hG0 hB0 hge hcs hbk hF
  have hG := Glob.keep hG0 hB0
  dsimp only at hF
  obtain rfl := Option.some.inj hF
  have hcap := hcs _ (List.mem_cons_self ..)
  have hcap2 := hcs _ (List.mem_cons_of_mem _ (List.mem_cons_self ..))
  have c0 : w.cell? ⟨gb, 0, none⟩ = some (.string (⟨#[48]⟩ : ByteArray)) := (blk_cell hcap 0).trans rfl
  have c1 : w.cell? ⟨gc, 0, none⟩ = some (.int .i64 n) := (blk_cell hcap2 0).trans rfl
  have HB := Aside0.mk hbk
  have HG := Aside0.mk hG
  have HCP := Aside0.mk hcap
  clear hcap hcap2 hcs hbk hG hG0 hB0 hF
  show Calls Tryd.prog 66 #[.pointer (some ⟨g, 0, none⟩), .string v, .pointer (some ⟨gb, 0, none⟩), .pointer (some ⟨gc, 0, none⟩)] w _
  obtain ⟨m, ok, hn⟩ : ∃ m ok, numB v n = (m, ok) := ⟨_, _, rfl⟩
  rw [hn]
  have HN2 := Aside0.mk (show keys_number.f v n = some (m, ok) from congrArg some hn)
  clear hn
  go_enter Tryd.func66, Tryd.ntmps66
  go_wp2_with (go_at_call 41; refine (keys_number.calls v n m ok _ HG.out HN2.out).mono ?_; rintro e w3 ⟨rfl, hb3⟩; have hcp3 := gb_blk0 hb3 HCP.out; have c2 : w3.cell? ⟨gb, 0, none⟩ = some (.string (⟨#[48]⟩ : ByteArray)) := (blk_cell hcp3 0).trans rfl; have HB3 := Aside0.mk hb3; clear hcp3 hb3)
  go_ret2
  exact ⟨rfl, gb_blk0 HB3.out HB.out, gb_below HB3.out⟩
set_option maxHeartbeats 8000000 in
set_option maxRecDepth 100000 in
theorem mk_named (f : Nat) (w : World) : Calls Tryd.prog 32 #[.func (.func f) #[] #[]] w fun e w' => ∃ gb, e = .returned (.func (.func 60) #[] #[.pointer (some ⟨gb, 0, none⟩)]) ∧ w.heap.size ≤ gb ∧ w'.heap[gb]? = some (.cells #[.func (.func f) #[] #[]] 81 (0, 0)) ∧ Below w.heap.size w w' := by
  have hmf : ∀ (fn : Fn) (first cap : Array Value) (w : World), (Instr.makeFunc fn first cap).run Tryd.prog w = .ok (.func fn first cap) w := fun _ _ _ _ => rfl
  go_enter Tryd.func32, Tryd.ntmps32
  go_wp2_with (with_reducible refine gate_dst (N := 1) rfl ?_; refine box_event ?hg (N := 1) ?hd (cs := #[.func (.func f) #[] #[]]) (t := 81) ?hr ?_; (case hd => rfl); (case hg => rfl); (case hr => first | (go_simp; done) | (go_simp; rfl)); intro g3 hg w3 hbox hb; have X3 := Aside0.mk hbox; have Y3 := Aside0.mk hb; have Z3 := Aside0.mk hg; clear hbox hb hg)
  go_ret
  exact ⟨g3, rfl, Nat.le_of_eq Z3.out.symm, X3.out, Y3.out⟩
set_option maxHeartbeats 8000000 in
set_option maxRecDepth 100000 in
theorem mk_digest (f : Nat) (w : World) : Calls Tryd.prog 37 #[.func (.func f) #[] #[]] w fun e w' => ∃ gb, e = .returned (.func (.func 62) #[] #[.pointer (some ⟨gb, 0, none⟩)]) ∧ w.heap.size ≤ gb ∧ w'.heap[gb]? = some (.cells #[.func (.func f) #[] #[]] 84 (0, 0)) ∧ Below w.heap.size w w' := by
  have hmf : ∀ (fn : Fn) (first cap : Array Value) (w : World), (Instr.makeFunc fn first cap).run Tryd.prog w = .ok (.func fn first cap) w := fun _ _ _ _ => rfl
  go_enter Tryd.func37, Tryd.ntmps37
  go_wp2_with (with_reducible refine gate_dst (N := 1) rfl ?_; refine box_event ?hg (N := 1) ?hd (cs := #[.func (.func f) #[] #[]]) (t := 84) ?hr ?_; (case hd => rfl); (case hg => rfl); (case hr => first | (go_simp; done) | (go_simp; rfl)); intro g3 hg w3 hbox hb; have X3 := Aside0.mk hbox; have Y3 := Aside0.mk hb; have Z3 := Aside0.mk hg; clear hbox hb hg)
  go_ret
  exact ⟨g3, rfl, Nat.le_of_eq Z3.out.symm, X3.out, Y3.out⟩
set_option maxHeartbeats 8000000 in
set_option maxRecDepth 100000 in
theorem mk_always (s : ByteArray) (n : Int) (w : World) : Calls Tryd.prog 49 #[.string s, .int .i64 n] w fun e w' => ∃ gb gc, e = .returned (.func (.func 66) #[] #[.pointer (some ⟨gb, 0, none⟩), .pointer (some ⟨gc, 0, none⟩)]) ∧ w.heap.size ≤ gb ∧ w.heap.size ≤ gc ∧ w'.heap[gb]? = some (.cells #[.string s] 9 (0, 0)) ∧ w'.heap[gc]? = some (.cells #[.int .i64 n] 3 (0, 0)) ∧ Below w.heap.size w w' := by
  have hmf : ∀ (fn : Fn) (first cap : Array Value) (w : World), (Instr.makeFunc fn first cap).run Tryd.prog w = .ok (.func fn first cap) w := fun _ _ _ _ => rfl
  go_enter Tryd.func49, Tryd.ntmps49
  go_wp2_with (first
    | (with_reducible refine gate_dst (N := 2) rfl ?_; refine box_event ?hg (N := 2) ?hd (cs := #[.string s]) (t := 9) ?hr ?_; (case hd => rfl); (case hg => rfl); (case hr => first | (go_simp; done) | (go_simp; rfl)); intro g3 hg w3 hbox hb; have X3 := Aside0.mk hbox; have Y3 := Aside0.mk hb; have Z3 := Aside0.mk hg; clear hbox hb hg)
    | (with_reducible refine gate_dst (N := 3) rfl ?_; refine box_event ?hg (N := 3) ?hd (cs := #[.int .i64 n]) (t := 3) ?hr ?_; (case hd => rfl); (case hg => rfl); (case hr => first | (go_simp; done) | (go_simp; rfl)); intro g4 hg w4 hbox hb; have X4 := Aside0.mk hbox; have Y4 := Aside0.mk hb; have Z4 := Aside0.mk hg; clear hbox hb hg))
  go_ret
  exact ⟨g3, g4, rfl, Nat.le_of_eq Z3.out.symm, by rw [Z4.out]; exact below_size Y3.out, blk_below X3.out Y4.out, X4.out, below_step Y3.out Y4.out⟩
structure Rdr where
  key : List UInt8
  F : S23 → ByteArray → Option (S23 × ByteArray × Bool)
theorem held_in {v u : Value} {ps : List MemPlace} (h : (some ((DataW.held v : DataW Value), ([] : List MemPlace))) = some (.held u, ps)) : v = u := by cases h; rfl
def heldR (v : Value) : Option (DataW Value × List MemPlace) := some (.held v, [])
def tabD (L : List (Rdr × Value)) : DataW Value := L.foldl (fun D e => D.put (.string e.1.key) (.held e.2)) (.map [])
def Ent (n : Nat) : Prop := ∀ args w, (callFunc n args).run Tryd.prog w = .ok (.enter n args) w
def ROk (lo b : Nat) (W : World) (e : Rdr × Value) : Prop := ∃ n cap cells, e.2 = .func (.func n) #[] cap ∧ (Ent n ∧ RdC n cap cells e.1.F) ∧ ∀ c ∈ cells, lo ≤ c.1 ∧ c.1 ≠ b ∧ W.heap[c.1]? = some c.2
structure TabS (w0 W : World) (b : Nat) (L : List (Rdr × Value)) : Prop where
  own : W.ownsMap Tryd.prog 9 heldR b L.length (tabD L)
  lo : w0.heap.size ≤ b
  hb : Below w0.heap.size w0 W
  ok : ∀ e ∈ L, ROk w0.heap.size b W e
theorem tabD_snoc (L : List (Rdr × Value)) (e : Rdr × Value) : tabD (L ++ [e]) = (tabD L).put (.string e.1.key) (.held e.2) := by
  unfold tabD
  rw [List.foldl_append]
  rfl
theorem ROk.later {lo b : Nat} {W W' : World} {e : Rdr × Value} (h : ROk lo b W e) (hg : W.grownBy W' (some b)) : ROk lo b W' e := by
  obtain ⟨n, cap, cells, h1, h2, h3⟩ := h
  exact ⟨n, cap, cells, h1, h2, fun c hc => ⟨(h3 c hc).1, (h3 c hc).2.1, gb_blk hg (h3 c hc).2.2 (h3 c hc).2.1⟩⟩
theorem TabS.next {w0 W W' : World} {b : Nat} {L : List (Rdr × Value)} (h : TabS w0 W b L) (hb : Below W.heap.size W W') : TabS w0 W' b L :=
  ⟨h.own.kept (gb_below hb (row := none)) (by simp), h.lo, below_step h.hb hb, fun e he => (h.ok e he).later (gb_below hb)⟩
theorem TabS.ins {w0 W : World} {b : Nat} {L : List (Rdr × Value)} (h : TabS w0 W b L) (k : ByteArray) (v : Value) (F : S23 → ByteArray → Option (S23 × ByteArray × Bool)) (hk : k.size ≤ 100) (hL : L.length ≤ 100) (hv : ROk w0.heap.size b W (⟨k.data.toList, F⟩, v)) :
    ∃ W', (Instr.mapUpdate 55 (.map (some b)) (.string k) v).run Tryd.prog W = .ok () W' ∧ TabS w0 W' b (L ++ [(⟨k.data.toList, F⟩, v)]) := by
  have K : Maps.Keyed Tryd.prog 9 := Maps.string_keyed Tryd.underlying9
  have hm : maxLen = 9223372036854775807 := rfl
  obtain ⟨W', r, o, t⟩ := h.own.store K Tryd.underlying55 (by omega) (Go.WideMaps.keyOf_string_mk Tryd.underlying9 (by omega : k.size ≤ maxLen)) (show heldR v = some (.held v, []) from rfl)
  refine ⟨W', r, ?_, h.lo, ?_, ?_⟩
  · rw [tabD_snoc, List.length_append]
    exact o
  · exact h.hb.grown t.grown (below_size h.hb) (fun k hk => by cases hk; exact h.lo)
  · intro e he
    rcases List.mem_append.mp he with he | he
    · exact (h.ok e he).later t.grown
    · rw [List.mem_singleton.mp he]
      exact hv.later t.grown
theorem rok_named {lo b gb : Nat} {W : World} {n f T : Nat} {k : List UInt8} {F : S23 → ByteArray → Option (S23 × ByteArray × Bool)} (hE : Ent n) (hF : RdC n #[.pointer (some ⟨gb, 0, none⟩)] [(gb, .cells #[.func (.func f) #[] #[]] T (0, 0))] F) (h1 : lo ≤ gb) (h2 : gb ≠ b) (h3 : W.heap[gb]? = some (.cells #[.func (.func f) #[] #[]] T (0, 0))) : ROk lo b W (⟨k, F⟩, .func (.func n) #[] #[.pointer (some ⟨gb, 0, none⟩)]) :=
  ⟨n, _, _, rfl, ⟨hE, hF⟩, fun c hc => by rw [List.mem_singleton.mp hc]; exact ⟨h1, h2, h3⟩⟩
theorem rok_always {lo b gb gc : Nat} {W : World} {n : Nat} {s : ByteArray} {m : Int} {k : List UInt8} {F : S23 → ByteArray → Option (S23 × ByteArray × Bool)} (hE : Ent n) (hF : RdC n #[.pointer (some ⟨gb, 0, none⟩), .pointer (some ⟨gc, 0, none⟩)] [(gb, .cells #[.string s] 9 (0, 0)), (gc, .cells #[.int .i64 m] 3 (0, 0))] F) (h1 : lo ≤ gb) (h2 : gb ≠ b) (h3 : W.heap[gb]? = some (.cells #[.string s] 9 (0, 0))) (h4 : lo ≤ gc) (h5 : gc ≠ b) (h6 : W.heap[gc]? = some (.cells #[.int .i64 m] 3 (0, 0))) : ROk lo b W (⟨k, F⟩, .func (.func n) #[] #[.pointer (some ⟨gb, 0, none⟩), .pointer (some ⟨gc, 0, none⟩)]) :=
  ⟨n, _, _, rfl, ⟨hE, hF⟩, fun c hc => by
    rcases List.mem_cons.mp hc with rfl | hc
    · exact ⟨h1, h2, h3⟩
    · rw [List.mem_singleton.mp hc]; exact ⟨h4, h5, h6⟩⟩
theorem rok_lit {lo b : Nat} {W : World} {n : Nat} {k : List UInt8} {F : S23 → ByteArray → Option (S23 × ByteArray × Bool)} (hE : Ent n) (hF : RdC n #[] [] F) : ROk lo b W (⟨k, F⟩, .func (.func n) #[] #[]) :=
  ⟨n, _, _, rfl, ⟨hE, hF⟩, fun c hc => by cases hc⟩
theorem ent_named : Ent 60 := fun args w => enters_ Tryd.func60 (by kernel_rfl) (by kernel_rfl) args w
theorem ent_digest : Ent 62 := fun args w => enters_ Tryd.func62 (by kernel_rfl) (by kernel_rfl) args w
theorem ent_always : Ent 66 := fun args w => enters_ Tryd.func66 (by kernel_rfl) (by kernel_rfl) args w
theorem ent_normal : Ent 35 := fun args w => enters_ Tryd.func35 (by kernel_rfl) (by kernel_rfl) args w
theorem ent_alias : Ent 36 := fun args w => enters_ Tryd.func36 (by kernel_rfl) (by kernel_rfl) args w
theorem ent_receive : Ent 40 := fun args w => enters_ Tryd.func40 (by kernel_rfl) (by kernel_rfl) args w
theorem ent_immediate : Ent 43 := fun args w => enters_ Tryd.func43 (by kernel_rfl) (by kernel_rfl) args w
theorem ent_burst : Ent 45 := fun args w => enters_ Tryd.func45 (by kernel_rfl) (by kernel_rfl) args w
theorem ent_max : Ent 46 := fun args w => enters_ Tryd.func46 (by kernel_rfl) (by kernel_rfl) args w
theorem ent_auth : Ent 47 := fun args w => enters_ Tryd.func47 (by kernel_rfl) (by kernel_rfl) args w
def specs : List Rdr := [
  ⟨([73, 110, 105, 116, 105, 97, 116, 111, 114, 78, 97, 109, 101] : List UInt8), fun a v => (names_Iqn.f v).bind fun b => some ({ a with f6 := v }, (⟨#[]⟩ : ByteArray), b)⟩,
  ⟨([84, 97, 114, 103, 101, 116, 78, 97, 109, 101] : List UInt8), fun a v => (names_Iqn.f v).bind fun b => some ({ a with f7 := v }, (⟨#[]⟩ : ByteArray), b)⟩,
  ⟨([83, 101, 115, 115, 105, 111, 110, 84, 121, 112, 101] : List UInt8), fun a v => some (a, (⟨#[]⟩ : ByteArray), v.toList == ([78, 111, 114, 109, 97, 108] : List UInt8))⟩,
  ⟨([73, 110, 105, 116, 105, 97, 116, 111, 114, 65, 108, 105, 97, 115] : List UInt8), fun a v => some (a, (⟨#[]⟩ : ByteArray), true)⟩,
  ⟨([72, 101, 97, 100, 101, 114, 68, 105, 103, 101, 115, 116] : List UInt8), fun a v => if v.size ≤ 1000000 then (match chosen [(⟨#[67, 82, 67, 51, 50, 67]⟩ : ByteArray), (⟨#[78, 111, 110, 101]⟩ : ByteArray)] v with | some x => some ({ a with f0 := x.toList == ([67, 82, 67, 51, 50, 67] : List UInt8) }, x, true) | none => some (a, (⟨#[]⟩ : ByteArray), false)) else none⟩,
  ⟨([68, 97, 116, 97, 68, 105, 103, 101, 115, 116] : List UInt8), fun a v => if v.size ≤ 1000000 then (match chosen [(⟨#[67, 82, 67, 51, 50, 67]⟩ : ByteArray), (⟨#[78, 111, 110, 101]⟩ : ByteArray)] v with | some x => some ({ a with f1 := x.toList == ([67, 82, 67, 51, 50, 67] : List UInt8) }, x, true) | none => some (a, (⟨#[]⟩ : ByteArray), false)) else none⟩,
  ⟨([77, 97, 120, 82, 101, 99, 118, 68, 97, 116, 97, 83, 101, 103, 109, 101, 110, 116, 76, 101, 110, 103, 116, 104] : List UInt8), fun a v => some ({ a with f4 := min (numB v 512).1 8192 }, ⟨(Go.Lib.itoa 8192).toArray⟩, (numB v 512).2)⟩,
  ⟨([73, 109, 109, 101, 100, 105, 97, 116, 101, 68, 97, 116, 97] : List UInt8), fun a v => some ({ a with f2 := v.toList == ([89, 101, 115] : List UInt8) }, v, (v.toList == ([89, 101, 115] : List UInt8)) || (v.toList == ([78, 111] : List UInt8)))⟩,
  ⟨([70, 105, 114, 115, 116, 66, 117, 114, 115, 116, 76, 101, 110, 103, 116, 104] : List UInt8), fun a v => some ({ a with f5 := min (numB v 512).1 4096 }, ⟨(Go.Lib.itoa (min (numB v 512).1 4096)).toArray⟩, (numB v 512).2)⟩,
  ⟨([77, 97, 120, 66, 117, 114, 115, 116, 76, 101, 110, 103, 116, 104] : List UInt8), fun a v => some (a, ⟨(Go.Lib.itoa (min (numB v 512).1 32768)).toArray⟩, (numB v 512).2)⟩,
  ⟨([65, 117, 116, 104, 77, 101, 116, 104, 111, 100] : List UInt8), fun a v => if v.size ≤ 1000000 then (match chosen [(⟨#[78, 111, 110, 101]⟩ : ByteArray)] v with | some x => some (a, x, true) | none => some (a, (⟨#[]⟩ : ByteArray), false)) else none⟩,
  ⟨([73, 110, 105, 116, 105, 97, 108, 82, 50, 84] : List UInt8), fun a v => some (a, (⟨#[89, 101, 115]⟩ : ByteArray), (v.toList == ([89, 101, 115] : List UInt8)) || (v.toList == ([78, 111] : List UInt8)))⟩,
  ⟨([68, 97, 116, 97, 80, 68, 85, 73, 110, 79, 114, 100, 101, 114] : List UInt8), fun a v => some (a, (⟨#[89, 101, 115]⟩ : ByteArray), (v.toList == ([89, 101, 115] : List UInt8)) || (v.toList == ([78, 111] : List UInt8)))⟩,
  ⟨([68, 97, 116, 97, 83, 101, 113, 117, 101, 110, 99, 101, 73, 110, 79, 114, 100, 101, 114] : List UInt8), fun a v => some (a, (⟨#[89, 101, 115]⟩ : ByteArray), (v.toList == ([89, 101, 115] : List UInt8)) || (v.toList == ([78, 111] : List UInt8)))⟩,
  ⟨([77, 97, 120, 67, 111, 110, 110, 101, 99, 116, 105, 111, 110, 115] : List UInt8), fun a v => some (a, (⟨#[49]⟩ : ByteArray), (numB v 1).2)⟩,
  ⟨([77, 97, 120, 79, 117, 116, 115, 116, 97, 110, 100, 105, 110, 103, 82, 50, 84] : List UInt8), fun a v => some (a, (⟨#[49]⟩ : ByteArray), (numB v 1).2)⟩,
  ⟨([68, 101, 102, 97, 117, 108, 116, 84, 105, 109, 101, 50, 87, 97, 105, 116] : List UInt8), fun a v => some (a, (⟨#[48]⟩ : ByteArray), (numB v 0).2)⟩,
  ⟨([68, 101, 102, 97, 117, 108, 116, 84, 105, 109, 101, 50, 82, 101, 116, 97, 105, 110] : List UInt8), fun a v => some (a, (⟨#[48]⟩ : ByteArray), (numB v 0).2)⟩,
  ⟨([69, 114, 114, 111, 114, 82, 101, 99, 111, 118, 101, 114, 121, 76, 101, 118, 101, 108] : List UInt8), fun a v => some (a, (⟨#[48]⟩ : ByteArray), (numB v 0).2)⟩]
def TabK (w0 W : World) (b i : Nat) : Prop := ∃ L, L.map (·.1) = specs.take i ∧ TabS w0 W b L
theorem TabK.next {w0 W W' : World} {b i : Nat} (h : TabK w0 W b i) (hb : Below W.heap.size W W') : TabK w0 W' b i := by
  obtain ⟨L, h1, h2⟩ := h
  exact ⟨L, h1, h2.next hb⟩
theorem TabK.lt {w0 W : World} {b i : Nat} (h : TabK w0 W b i) : b < W.heap.size := by
  obtain ⟨L, h1, h2⟩ := h
  exact h2.own.lt
theorem TabK.size {w0 W : World} {b i : Nat} (h : TabK w0 W b i) : w0.heap.size ≤ W.heap.size := by
  obtain ⟨L, h1, h2⟩ := h
  exact below_size h2.hb
theorem TabK.ins {w0 W : World} {b i : Nat} (h : TabK w0 W b i) (k : ByteArray) (v : Value) {F : S23 → ByteArray → Option (S23 × ByteArray × Bool)} (hv : ROk w0.heap.size b W (⟨k.data.toList, F⟩, v)) (hs : specs[i]? = some ⟨k.data.toList, F⟩) (hk : k.size ≤ 100) (hi : i < 19) :
    ∃ W', (Instr.mapUpdate 55 (.map (some b)) (.string k) v).run Tryd.prog W = .ok () W' ∧ TabK w0 W' b (i + 1) := by
  obtain ⟨L, h1, h2⟩ := h
  have hl : L.length ≤ 100 := by
    have := congrArg List.length h1
    rw [List.length_map, List.length_take] at this
    omega
  obtain ⟨W', r, s⟩ := h2.ins k v F hk hl hv
  refine ⟨W', r, L ++ [(⟨k.data.toList, F⟩, v)], ?_, s⟩
  obtain ⟨hlt, he⟩ := List.getElem?_eq_some_iff.mp hs
  rw [List.map_append, h1, List.take_succ_eq_append_getElem hlt, he]
  rfl
set_option maxHeartbeats 40000000 in
set_option maxRecDepth 100000 in
theorem readers_walk (w : World) : Calls Tryd.prog 23 #[] w fun e w' => ∃ b, e = .returned (.map (some b)) ∧ TabK w w' b 19 := by
  have hmm := @run_makeMap Tryd.prog
  have ts0 : TabK w (w.alloc (.map #[] 0)) w.heap.size 0 := ⟨[], rfl, World.ownsMap_made w Tryd.prog 9 heldR, Nat.le_refl _, below_alloc (Below.refl _ _) _, fun e he => by cases he⟩
  have TS0 := Aside0.mk ts0
  clear ts0
  have tok0 : True := trivial
  go_enter Tryd.func23, Tryd.ntmps23
  go_wp2_with (first
    | (go_at_call 32; have _t := tok0; refine (mk_named 33 _).mono ?_; rintro e u0 ⟨gb0, rfl, hlo0, hc0, hb0⟩; have tn0 := TS0.out.next hb0; obtain ⟨x0, r0, s0⟩ := tn0.ins (⟨#[73, 110, 105, 116, 105, 97, 116, 111, 114, 78, 97, 109, 101]⟩ : ByteArray) (.func (.func 60) #[] #[.pointer (some ⟨gb0, 0, none⟩)]) (rok_named ent_named (rdc_named1 gb0) (Nat.le_trans TS0.out.size hlo0) (Nat.ne_of_gt (Nat.lt_of_lt_of_le TS0.out.lt hlo0)) hc0) rfl (by decide) (by decide); have TS1 := Aside0.mk s0; clear tok0 _t; have tok1 : True := trivial; clear tn0 s0 hlo0 hc0 hb0)
    | (go_at_call 32; have _t := tok1; refine (mk_named 34 _).mono ?_; rintro e u1 ⟨gb1, rfl, hlo1, hc1, hb1⟩; have tn1 := TS1.out.next hb1; obtain ⟨x1, r1, s1⟩ := tn1.ins (⟨#[84, 97, 114, 103, 101, 116, 78, 97, 109, 101]⟩ : ByteArray) (.func (.func 60) #[] #[.pointer (some ⟨gb1, 0, none⟩)]) (rok_named ent_named (rdc_named2 gb1) (Nat.le_trans TS1.out.size hlo1) (Nat.ne_of_gt (Nat.lt_of_lt_of_le TS1.out.lt hlo1)) hc1) rfl (by decide) (by decide); obtain ⟨x2, r2, s2⟩ := s1.ins (⟨#[83, 101, 115, 115, 105, 111, 110, 84, 121, 112, 101]⟩ : ByteArray) (.func (.func 35) #[] #[]) (rok_lit ent_normal rdc_normal) rfl (by decide) (by decide); obtain ⟨x3, r3, s3⟩ := s2.ins (⟨#[73, 110, 105, 116, 105, 97, 116, 111, 114, 65, 108, 105, 97, 115]⟩ : ByteArray) (.func (.func 36) #[] #[]) (rok_lit ent_alias rdc_alias) rfl (by decide) (by decide); have TS4 := Aside0.mk s3; clear tok1 _t; have tok2 : True := trivial; clear tn1 s1 s2 s3 hlo1 hc1 hb1)
    | (go_at_call 37; have _t := tok2; refine (mk_digest 38 _).mono ?_; rintro e u2 ⟨gb2, rfl, hlo2, hc2, hb2⟩; have tn2 := TS4.out.next hb2; obtain ⟨x4, r4, s4⟩ := tn2.ins (⟨#[72, 101, 97, 100, 101, 114, 68, 105, 103, 101, 115, 116]⟩ : ByteArray) (.func (.func 62) #[] #[.pointer (some ⟨gb2, 0, none⟩)]) (rok_named ent_digest (rdc_digest5 gb2) (Nat.le_trans TS4.out.size hlo2) (Nat.ne_of_gt (Nat.lt_of_lt_of_le TS4.out.lt hlo2)) hc2) rfl (by decide) (by decide); have TS5 := Aside0.mk s4; clear tok2 _t; have tok3 : True := trivial; clear tn2 s4 hlo2 hc2 hb2)
    | (go_at_call 37; have _t := tok3; refine (mk_digest 39 _).mono ?_; rintro e u3 ⟨gb3, rfl, hlo3, hc3, hb3⟩; have tn3 := TS5.out.next hb3; obtain ⟨x5, r5, s5⟩ := tn3.ins (⟨#[68, 97, 116, 97, 68, 105, 103, 101, 115, 116]⟩ : ByteArray) (.func (.func 62) #[] #[.pointer (some ⟨gb3, 0, none⟩)]) (rok_named ent_digest (rdc_digest6 gb3) (Nat.le_trans TS5.out.size hlo3) (Nat.ne_of_gt (Nat.lt_of_lt_of_le TS5.out.lt hlo3)) hc3) rfl (by decide) (by decide); obtain ⟨x6, r6, s6⟩ := s5.ins (⟨#[77, 97, 120, 82, 101, 99, 118, 68, 97, 116, 97, 83, 101, 103, 109, 101, 110, 116, 76, 101, 110, 103, 116, 104]⟩ : ByteArray) (.func (.func 40) #[] #[]) (rok_lit ent_receive rdc_receive) rfl (by decide) (by decide); obtain ⟨x7, r7, s7⟩ := s6.ins (⟨#[73, 109, 109, 101, 100, 105, 97, 116, 101, 68, 97, 116, 97]⟩ : ByteArray) (.func (.func 43) #[] #[]) (rok_lit ent_immediate rdc_immediate) rfl (by decide) (by decide); obtain ⟨x8, r8, s8⟩ := s7.ins (⟨#[70, 105, 114, 115, 116, 66, 117, 114, 115, 116, 76, 101, 110, 103, 116, 104]⟩ : ByteArray) (.func (.func 45) #[] #[]) (rok_lit ent_burst rdc_burst) rfl (by decide) (by decide); obtain ⟨x9, r9, s9⟩ := s8.ins (⟨#[77, 97, 120, 66, 117, 114, 115, 116, 76, 101, 110, 103, 116, 104]⟩ : ByteArray) (.func (.func 46) #[] #[]) (rok_lit ent_max rdc_max) rfl (by decide) (by decide); obtain ⟨x10, r10, s10⟩ := s9.ins (⟨#[65, 117, 116, 104, 77, 101, 116, 104, 111, 100]⟩ : ByteArray) (.func (.func 47) #[] #[]) (rok_lit ent_auth rdc_auth) rfl (by decide) (by decide); have TS11 := Aside0.mk s10; clear tok3 _t; have tok4 : True := trivial; clear tn3 s5 s6 s7 s8 s9 s10 hlo3 hc3 hb3)
    | (go_at_call 49; have _t := tok4; refine (mk_always (⟨#[89, 101, 115]⟩ : ByteArray) 0 _).mono ?_; rintro e u4 ⟨gb4, gc4, rfl, hlo4, hlc4, hc4, hd4, hb4⟩; have tn4 := TS11.out.next hb4; obtain ⟨x11, r11, s11⟩ := tn4.ins (⟨#[73, 110, 105, 116, 105, 97, 108, 82, 50, 84]⟩ : ByteArray) (.func (.func 66) #[] #[.pointer (some ⟨gb4, 0, none⟩), .pointer (some ⟨gc4, 0, none⟩)]) (rok_always ent_always (rdc_always_yes gb4 gc4 0) (Nat.le_trans TS11.out.size hlo4) (Nat.ne_of_gt (Nat.lt_of_lt_of_le TS11.out.lt hlo4)) hc4 (Nat.le_trans TS11.out.size hlc4) (Nat.ne_of_gt (Nat.lt_of_lt_of_le TS11.out.lt hlc4)) hd4) rfl (by decide) (by decide); have TS12 := Aside0.mk s11; clear tok4 _t; have tok5 : True := trivial; clear tn4 s11 hlo4 hc4 hb4 hlc4 hd4)
    | (go_at_call 49; have _t := tok5; refine (mk_always (⟨#[89, 101, 115]⟩ : ByteArray) 0 _).mono ?_; rintro e u5 ⟨gb5, gc5, rfl, hlo5, hlc5, hc5, hd5, hb5⟩; have tn5 := TS12.out.next hb5; obtain ⟨x12, r12, s12⟩ := tn5.ins (⟨#[68, 97, 116, 97, 80, 68, 85, 73, 110, 79, 114, 100, 101, 114]⟩ : ByteArray) (.func (.func 66) #[] #[.pointer (some ⟨gb5, 0, none⟩), .pointer (some ⟨gc5, 0, none⟩)]) (rok_always ent_always (rdc_always_yes gb5 gc5 0) (Nat.le_trans TS12.out.size hlo5) (Nat.ne_of_gt (Nat.lt_of_lt_of_le TS12.out.lt hlo5)) hc5 (Nat.le_trans TS12.out.size hlc5) (Nat.ne_of_gt (Nat.lt_of_lt_of_le TS12.out.lt hlc5)) hd5) rfl (by decide) (by decide); have TS13 := Aside0.mk s12; clear tok5 _t; have tok6 : True := trivial; clear tn5 s12 hlo5 hc5 hb5 hlc5 hd5)
    | (go_at_call 49; have _t := tok6; refine (mk_always (⟨#[89, 101, 115]⟩ : ByteArray) 0 _).mono ?_; rintro e u6 ⟨gb6, gc6, rfl, hlo6, hlc6, hc6, hd6, hb6⟩; have tn6 := TS13.out.next hb6; obtain ⟨x13, r13, s13⟩ := tn6.ins (⟨#[68, 97, 116, 97, 83, 101, 113, 117, 101, 110, 99, 101, 73, 110, 79, 114, 100, 101, 114]⟩ : ByteArray) (.func (.func 66) #[] #[.pointer (some ⟨gb6, 0, none⟩), .pointer (some ⟨gc6, 0, none⟩)]) (rok_always ent_always (rdc_always_yes gb6 gc6 0) (Nat.le_trans TS13.out.size hlo6) (Nat.ne_of_gt (Nat.lt_of_lt_of_le TS13.out.lt hlo6)) hc6 (Nat.le_trans TS13.out.size hlc6) (Nat.ne_of_gt (Nat.lt_of_lt_of_le TS13.out.lt hlc6)) hd6) rfl (by decide) (by decide); have TS14 := Aside0.mk s13; clear tok6 _t; have tok7 : True := trivial; clear tn6 s13 hlo6 hc6 hb6 hlc6 hd6)
    | (go_at_call 49; have _t := tok7; refine (mk_always (⟨#[49]⟩ : ByteArray) 1 _).mono ?_; rintro e u7 ⟨gb7, gc7, rfl, hlo7, hlc7, hc7, hd7, hb7⟩; have tn7 := TS14.out.next hb7; obtain ⟨x14, r14, s14⟩ := tn7.ins (⟨#[77, 97, 120, 67, 111, 110, 110, 101, 99, 116, 105, 111, 110, 115]⟩ : ByteArray) (.func (.func 66) #[] #[.pointer (some ⟨gb7, 0, none⟩), .pointer (some ⟨gc7, 0, none⟩)]) (rok_always ent_always (rdc_always_one gb7 gc7 1) (Nat.le_trans TS14.out.size hlo7) (Nat.ne_of_gt (Nat.lt_of_lt_of_le TS14.out.lt hlo7)) hc7 (Nat.le_trans TS14.out.size hlc7) (Nat.ne_of_gt (Nat.lt_of_lt_of_le TS14.out.lt hlc7)) hd7) rfl (by decide) (by decide); have TS15 := Aside0.mk s14; clear tok7 _t; have tok8 : True := trivial; clear tn7 s14 hlo7 hc7 hb7 hlc7 hd7)
    | (go_at_call 49; have _t := tok8; refine (mk_always (⟨#[49]⟩ : ByteArray) 1 _).mono ?_; rintro e u8 ⟨gb8, gc8, rfl, hlo8, hlc8, hc8, hd8, hb8⟩; have tn8 := TS15.out.next hb8; obtain ⟨x15, r15, s15⟩ := tn8.ins (⟨#[77, 97, 120, 79, 117, 116, 115, 116, 97, 110, 100, 105, 110, 103, 82, 50, 84]⟩ : ByteArray) (.func (.func 66) #[] #[.pointer (some ⟨gb8, 0, none⟩), .pointer (some ⟨gc8, 0, none⟩)]) (rok_always ent_always (rdc_always_one gb8 gc8 1) (Nat.le_trans TS15.out.size hlo8) (Nat.ne_of_gt (Nat.lt_of_lt_of_le TS15.out.lt hlo8)) hc8 (Nat.le_trans TS15.out.size hlc8) (Nat.ne_of_gt (Nat.lt_of_lt_of_le TS15.out.lt hlc8)) hd8) rfl (by decide) (by decide); have TS16 := Aside0.mk s15; clear tok8 _t; have tok9 : True := trivial; clear tn8 s15 hlo8 hc8 hb8 hlc8 hd8)
    | (go_at_call 49; have _t := tok9; refine (mk_always (⟨#[48]⟩ : ByteArray) 0 _).mono ?_; rintro e u9 ⟨gb9, gc9, rfl, hlo9, hlc9, hc9, hd9, hb9⟩; have tn9 := TS16.out.next hb9; obtain ⟨x16, r16, s16⟩ := tn9.ins (⟨#[68, 101, 102, 97, 117, 108, 116, 84, 105, 109, 101, 50, 87, 97, 105, 116]⟩ : ByteArray) (.func (.func 66) #[] #[.pointer (some ⟨gb9, 0, none⟩), .pointer (some ⟨gc9, 0, none⟩)]) (rok_always ent_always (rdc_always_nil gb9 gc9 0) (Nat.le_trans TS16.out.size hlo9) (Nat.ne_of_gt (Nat.lt_of_lt_of_le TS16.out.lt hlo9)) hc9 (Nat.le_trans TS16.out.size hlc9) (Nat.ne_of_gt (Nat.lt_of_lt_of_le TS16.out.lt hlc9)) hd9) rfl (by decide) (by decide); have TS17 := Aside0.mk s16; clear tok9 _t; have tok10 : True := trivial; clear tn9 s16 hlo9 hc9 hb9 hlc9 hd9)
    | (go_at_call 49; have _t := tok10; refine (mk_always (⟨#[48]⟩ : ByteArray) 0 _).mono ?_; rintro e u10 ⟨gb10, gc10, rfl, hlo10, hlc10, hc10, hd10, hb10⟩; have tn10 := TS17.out.next hb10; obtain ⟨x17, r17, s17⟩ := tn10.ins (⟨#[68, 101, 102, 97, 117, 108, 116, 84, 105, 109, 101, 50, 82, 101, 116, 97, 105, 110]⟩ : ByteArray) (.func (.func 66) #[] #[.pointer (some ⟨gb10, 0, none⟩), .pointer (some ⟨gc10, 0, none⟩)]) (rok_always ent_always (rdc_always_nil gb10 gc10 0) (Nat.le_trans TS17.out.size hlo10) (Nat.ne_of_gt (Nat.lt_of_lt_of_le TS17.out.lt hlo10)) hc10 (Nat.le_trans TS17.out.size hlc10) (Nat.ne_of_gt (Nat.lt_of_lt_of_le TS17.out.lt hlc10)) hd10) rfl (by decide) (by decide); have TS18 := Aside0.mk s17; clear tok10 _t; have tok11 : True := trivial; clear tn10 s17 hlo10 hc10 hb10 hlc10 hd10)
    | (go_at_call 49; have _t := tok11; refine (mk_always (⟨#[48]⟩ : ByteArray) 0 _).mono ?_; rintro e u11 ⟨gb11, gc11, rfl, hlo11, hlc11, hc11, hd11, hb11⟩; have tn11 := TS18.out.next hb11; obtain ⟨x18, r18, s18⟩ := tn11.ins (⟨#[69, 114, 114, 111, 114, 82, 101, 99, 111, 118, 101, 114, 121, 76, 101, 118, 101, 108]⟩ : ByteArray) (.func (.func 66) #[] #[.pointer (some ⟨gb11, 0, none⟩), .pointer (some ⟨gc11, 0, none⟩)]) (rok_always ent_always (rdc_always_nil gb11 gc11 0) (Nat.le_trans TS18.out.size hlo11) (Nat.ne_of_gt (Nat.lt_of_lt_of_le TS18.out.lt hlo11)) hc11 (Nat.le_trans TS18.out.size hlc11) (Nat.ne_of_gt (Nat.lt_of_lt_of_le TS18.out.lt hlc11)) hd11) rfl (by decide) (by decide); have TS19 := Aside0.mk s18; clear tok11 _t; have tok12 : True := trivial; clear tn11 s18 hlo11 hc11 hb11 hlc11 hd11))
  go_ret
  exact ⟨w.heap.size, rfl, TS19.out⟩
def findR (s : ByteArray) : Option Rdr := specs.find? fun r => r.key == s.data.toList
theorem tab_fold (k : List UInt8) (z : DataW Value) : ∀ (L : List (Rdr × Value)) (D : DataW Value), (∀ e ∈ L, e.1.key ≠ k) → (L.foldl (fun D e => D.put (.string e.1.key) (.held e.2)) D).atKey (.string k) z = D.atKey (.string k) z ∧ Maps.has (L.foldl (fun D e => D.put (.string e.1.key) (.held e.2)) D) (.string k) = Maps.has D (.string k)
  | [], _, _ => ⟨rfl, rfl⟩
  | e :: L, D, h => by
    have hn : (Lit.string k) ≠ .string e.1.key := fun x => h e (List.mem_cons_self ..) (by injection x with x; exact x.symm)
    obtain ⟨h1, h2⟩ := tab_fold k z L (D.put (.string e.1.key) (.held e.2)) (fun e he => h e (List.mem_cons_of_mem _ he))
    exact ⟨h1.trans (Maps.atKey_put_other hn _ _), h2.trans (Maps.has_put_other hn _)⟩
theorem tab_map : ∀ (L : List (Rdr × Value)) (D : DataW Value), Maps.IsMap D → Maps.IsMap (L.foldl (fun D e => D.put (.string e.1.key) (.held e.2)) D)
  | [], _, h => h
  | _ :: L, _, h => tab_map L _ (h.put _ _)
theorem specs_nodup : (specs.map (·.key)).Nodup := by decide
theorem tab_none {L : List (Rdr × Value)} (hL : L.map (·.1) = specs) {s : ByteArray} (h : findR s = none) : Maps.has (tabD L) (.string s.data.toList) = false := by
  refine (tab_fold s.data.toList (.held .nilFunc) L _ fun e he x => ?_).2
  have hm : e.1 ∈ specs := hL ▸ List.mem_map_of_mem he
  have := List.find?_eq_none.mp h e.1 hm
  exact this (beq_iff_eq.mpr x)
theorem tab_some {L : List (Rdr × Value)} (hL : L.map (·.1) = specs) {s : ByteArray} {r : Rdr} (h : findR s = some r) : ∃ e ∈ L, e.1 = r ∧ Maps.has (tabD L) (.string s.data.toList) = true ∧ (tabD L).atKey (.string s.data.toList) (.held .nilFunc) = .held e.2 := by
  have hk : r.key = s.data.toList := beq_iff_eq.mp (List.find?_some (p := fun r : Rdr => r.key == s.data.toList) h)
  have hm : r ∈ L.map (·.1) := hL ▸ List.mem_of_find?_eq_some h
  obtain ⟨e, he, rfl⟩ := List.mem_map.mp hm
  refine ⟨e, he, rfl, ?_⟩
  obtain ⟨A, B, rfl⟩ := List.append_of_mem he
  have hnd : ((A ++ e :: B).map (fun e => e.1.key)).Nodup := by
    have := specs_nodup
    rw [← hL, List.map_map] at this
    exact this
  have hB : ∀ e' ∈ B, e'.1.key ≠ s.data.toList := fun e' he' x => by
    rw [List.map_append, List.map_cons] at hnd
    have h1 := (List.nodup_append.mp hnd).2.1
    exact (List.nodup_cons.mp h1).1 (by rw [hk, ← x]; exact List.mem_map_of_mem (f := fun e : Rdr × Value => e.1.key) he')
  have hf : tabD (A ++ e :: B) = B.foldl (fun D e => D.put (.string e.1.key) (.held e.2)) ((tabD A).put (.string e.1.key) (.held e.2)) := by
    unfold tabD
    rw [List.foldl_append]
    rfl
  have hA : Maps.IsMap (tabD A) := tab_map A _ ⟨_, rfl⟩
  obtain ⟨h1, h2⟩ := tab_fold s.data.toList (.held .nilFunc) B ((tabD A).put (.string e.1.key) (.held e.2)) hB
  rw [hf, h1, h2, hk]
  exact ⟨Maps.has_put_same hA (key_lit s) _, Maps.atKey_put_same hA (key_lit s) _ _⟩
def ansL (a : S23) (out : List S45) : List S45 → Option (Option (S23 × List S45))
  | [] => some (some (a, out))
  | p :: l => match findR p.f0 with
    | none => ansL a (out ++ [⟨p.f0, (⟨#[78, 111, 116, 85, 110, 100, 101, 114, 115, 116, 111, 111, 100]⟩ : ByteArray)⟩]) l
    | some r => (r.F a p.f1).bind fun x => if x.2.2 = true then (if x.2.1.toList.isEmpty = true then ansL x.1 out l else ansL x.1 (out ++ [⟨p.f0, x.2.1⟩]) l) else some none
structure AnS (w w2 wr : World) (g2 g4 b : Nat) (a : S23) (v8 : Value) (out : List S45) : Prop where
  tab : ∃ w1, TabK w1 w2 b 19 ∧ w.heap.size ≤ g2 ∧ w.heap.size ≤ g4 ∧ g2 < w1.heap.size ∧ g4 < w1.heap.size ∧ g2 ≠ g4
  gr : w2.grownBy wr (some g2)
  k2 : wr.heap[g2]? = some (.cells (agC a) 23 (0, 0))
  k4 : wr.heap[g4]? = some (.cells (#[.bool false, .bool false, .bool false, .bool false, .int .i64 0, .int .i64 0, .string (⟨#[]⟩ : ByteArray), .string (⟨#[]⟩ : ByteArray)] : Array Value) 23 (0, 0))
  own : Kd.R k45 45 wr w.heap.size (fun k => w2.heap.size ≤ k) v8 out
  hb : Below w.heap.size w wr
theorem AnS.lt {w w2 wr : World} {g2 g4 b : Nat} {a : S23} {v8 : Value} {out : List S45} (h : AnS w w2 wr g2 g4 b a v8 out) : g2 < w2.heap.size ∧ g4 < w2.heap.size := by
  obtain ⟨w1, h1, _, _, h2, h3, _⟩ := h.tab
  have := h1.size
  omega
theorem AnS.next {w w2 wr w' : World} {g2 g4 b : Nat} {a : S23} {v8 : Value} {out : List S45} (h : AnS w w2 wr g2 g4 b a v8 out) (hb : Below wr.heap.size wr w') : AnS w w2 w' g2 g4 b a v8 out :=
  ⟨h.tab, h.gr.trans (gb_below hb), blk_below h.k2 hb, blk_below h.k4 hb, Kd.R_below h.own hb, below_step h.hb hb⟩
theorem AnS.call {w w2 wr w' : World} {g2 g4 b : Nat} {a a' : S23} {v8 : Value} {out : List S45} (h : AnS w w2 wr g2 g4 b a v8 out) (hg : wr.grownBy w' (some g2)) (hk : w'.heap[g2]? = some (.cells (agC a') 23 (0, 0))) : AnS w w2 w' g2 g4 b a' v8 out := by
  have hlt := h.lt
  obtain ⟨w1, h1, h2, h3, h4, h5, h6⟩ := h.tab
  exact ⟨h.tab, h.gr.trans hg, hk, gb_blk hg h.k4 (Ne.symm h6), Kd.R_grown h.own hg (fun k hk e => by injection e with e; omega), h.hb.grown hg (below_size h.hb) (fun k hk => by cases hk; exact h2)⟩
theorem AnS.app {w w2 wr w' : World} {g2 g4 b : Nat} {a : S23} {v8 v9 : Value} {out out' : List S45} (h : AnS w w2 wr g2 g4 b a v8 out) (hr : Kd.R k45 45 w' w.heap.size (fun k => w2.heap.size ≤ k) v9 out') (hb : Below w.heap.size w w') (hg : wr.grownBy w' v8.ownBlock) : AnS w w2 w' g2 g4 b a v9 out' := by
  have hlt := h.lt
  have hne : ∀ k, k < w2.heap.size → some k ≠ v8.ownBlock := fun k hk e => by have := h.own.1 k e.symm; omega
  refine ⟨h.tab, ⟨hg.os.trans h.gr.os, hg.tape.trans h.gr.tape, hg.output.trans h.gr.output, Nat.le_trans h.gr.size hg.size, fun k hk hn => (hg.block k (Nat.lt_of_lt_of_le hk h.gr.size) (hne k hk)).trans (h.gr.block k hk hn)⟩, ?_, ?_, hr, hb⟩
  · rw [hg.block g2 (Nat.lt_of_lt_of_le hlt.1 h.gr.size) (hne g2 hlt.1)]
    exact h.k2
  · rw [hg.block g4 (Nat.lt_of_lt_of_le hlt.2 h.gr.size) (hne g4 hlt.2)]
    exact h.k4
theorem AnS.look {w w2 wr : World} {g2 g4 b : Nat} {a : S23} {v8 : Value} {out : List S45} (h : AnS w w2 wr g2 g4 b a v8 out) (s : ByteArray) (hs : s.size ≤ 1000000) :
    (findR s = none → ∃ v, (Instr.lookup 55 (.map (some b)) (.string s) true).run Tryd.prog wr = .ok (.tuple #[v, .bool false]) wr) ∧
    (∀ r, findR s = some r → ∃ n cap cells, (Instr.lookup 55 (.map (some b)) (.string s) true).run Tryd.prog wr = .ok (.tuple #[.func (.func n) #[] cap, .bool true]) wr ∧ Ent n ∧ RdC n cap cells r.F ∧ ∀ c ∈ cells, wr.heap[c.1]? = some c.2) := by
  obtain ⟨w1, ⟨L, hL, T⟩, h2, h3, h4, h5, h6⟩ := h.tab
  have K : Maps.Keyed Tryd.prog 9 := Maps.string_keyed Tryd.underlying9
  have hm : maxLen = 9223372036854775807 := rfl
  have hbne : some b ≠ some g2 := fun e => by injection e with e; have := T.lo; omega
  have own : wr.ownsMap Tryd.prog 9 heldR b L.length (tabD L) := T.own.kept h.gr hbne
  have hz : (zeroValue 58).run Tryd.prog wr = .ok .nilFunc wr := by kernel_rfl
  obtain ⟨v, ps, hl, hv⟩ := own.look_ok K Tryd.underlying55 hz (show heldR .nilFunc = some (.held .nilFunc, []) from rfl) (Go.WideMaps.keyOf_string_mk Tryd.underlying9 (by omega : s.size ≤ maxLen))
  have hL : L.map (·.1) = specs := hL
  refine ⟨fun hn => ?_, fun r hr => ?_⟩
  · rw [tab_none hL hn] at hl
    exact ⟨v, hl⟩
  · obtain ⟨e, he, rfl, h7, h8⟩ := tab_some hL hr
    rw [h7] at hl
    rw [h8] at hv
    have hve : v = e.2 := held_in hv
    obtain ⟨n, cap, cells, h9, ⟨h10, h11⟩, h12⟩ := T.ok e he
    rw [hve, h9] at hl
    refine ⟨n, cap, cells, hl, h10, h11, fun c hc => ?_⟩
    obtain ⟨h13, h14, h15⟩ := h12 c hc
    exact gb_blk h.gr h15 (by omega)
def put8 (w : World) (g : Nat) (a b c d e f i j : Value) : World := ((((((((w.setCell ⟨g, 0, none⟩ a).setCell ⟨g, 1, none⟩ b).setCell ⟨g, 2, none⟩ c).setCell ⟨g, 3, none⟩ d).setCell ⟨g, 4, none⟩ e).setCell ⟨g, 5, none⟩ f).setCell ⟨g, 6, none⟩ i).setCell ⟨g, 7, none⟩ j)
theorem put8_blk {w : World} {g t : Nat} {a b c d e f i j xa xb xc xd xe xf xi xj : Value} (h : w.heap[g]? = some (.cells #[xa, xb, xc, xd, xe, xf, xi, xj] t (0, 0))) : (put8 w g a b c d e f i j).heap[g]? = some (.cells #[a, b, c, d, e, f, i, j] t (0, 0)) := by
  unfold put8
  refine blk_put (cs := #[a, b, c, d, e, f, i, xj]) ?_ 7 _ rfl
  refine blk_put (cs := #[a, b, c, d, e, f, xi, xj]) ?_ 6 _ rfl
  refine blk_put (cs := #[a, b, c, d, e, xf, xi, xj]) ?_ 5 _ rfl
  refine blk_put (cs := #[a, b, c, d, xe, xf, xi, xj]) ?_ 4 _ rfl
  refine blk_put (cs := #[a, b, c, xd, xe, xf, xi, xj]) ?_ 3 _ rfl
  refine blk_put (cs := #[a, b, xc, xd, xe, xf, xi, xj]) ?_ 2 _ rfl
  refine blk_put (cs := #[a, xb, xc, xd, xe, xf, xi, xj]) ?_ 1 _ rfl
  refine blk_put (cs := #[xa, xb, xc, xd, xe, xf, xi, xj]) ?_ 0 _ rfl
  exact h
theorem put8_below {w0 w : World} {g : Nat} {a b c d e f i j : Value} (h : Below w0.heap.size w0 w) (hg : w0.heap.size ≤ g) : Below w0.heap.size w0 (put8 w g a b c d e f i j) := (below_set (below_set (below_set (below_set (below_set (below_set (below_set (below_set h hg) hg) hg) hg) hg) hg) hg) hg)
theorem put8_gb {w : World} {g : Nat} {a b c d e f i j : Value} : w.grownBy (put8 w g a b c d e f i j) (some g) := ((((((((gb_set _ _ _ _).trans (gb_set _ _ _ _)).trans (gb_set _ _ _ _)).trans (gb_set _ _ _ _)).trans (gb_set _ _ _ _)).trans (gb_set _ _ _ _)).trans (gb_set _ _ _ _)).trans (gb_set _ _ _ _))
theorem cells8 {w : World} {g t : Nat} {a b c d e f i j : Value} (h : w.heap[g]? = some (.cells #[a, b, c, d, e, f, i, j] t (0, 0))) : w.cell? ⟨g, 0, none⟩ = some a ∧ w.cell? ⟨g, 1, none⟩ = some b ∧ w.cell? ⟨g, 2, none⟩ = some c ∧ w.cell? ⟨g, 3, none⟩ = some d ∧ w.cell? ⟨g, 4, none⟩ = some e ∧ w.cell? ⟨g, 5, none⟩ = some f ∧ w.cell? ⟨g, 6, none⟩ = some i ∧ w.cell? ⟨g, 7, none⟩ = some j := ⟨(blk_cell h 0).trans rfl, (blk_cell h 1).trans rfl, (blk_cell h 2).trans rfl, (blk_cell h 3).trans rfl, (blk_cell h 4).trans rfl, (blk_cell h 5).trans rfl, (blk_cell h 6).trans rfl, (blk_cell h 7).trans rfl⟩
theorem results_ans {P : Program} {fn : Func} {p t u : Tmp} {ty : TypeId} (h : fn.results = #[.cell p ty, .tmp t, .tmp u]) (tmps : Array Value) (w : World) (g : Nat) (tb : TypeId) (cs : Array Value) (fr : Nat × Nat) (d : TypeDesc)
    (hp : tmps.getD p undef = .pointer (some ⟨g, 0, none⟩)) (hg : w.heap[g]? = some (.cells cs tb fr)) (hu : P.underlying ty = some d) (hd : (match d with | .struct _ | .array _ _ => true | _ => false) = true) (hi : (P.info? ty).map (·.size) = some cs.size) :
    (results fn tmps).run P w = .ok (.tuple #[.agg cs, tmps.getD t undef, tmps.getD u undef]) w := by
  have hp' : tmps[p]?.getD undef = .pointer (some ⟨g, 0, none⟩) := by simpa using hp
  simp [results, h, hp', asAddr, run_loadVar_row w g tb ty cs fr d hg hu hd hi]
def zA : S23 := ⟨false, false, false, false, 0, 0, (⟨#[]⟩ : ByteArray), (⟨#[]⟩ : ByteArray)⟩
def ansV (V : Option (S23 × List S45)) : S23 × List S45 × Int := match V with | some x => (x.1, x.2, 0) | none => (zA, [], 210)
set_option maxHeartbeats 8000000 in
set_option maxRecDepth 100000 in
theorem ans_bad (a : S23) (A0 : Option Addr) (c0 : Nat) (l : List S45) (w : World) (hr : Kd.C k45 w A0 l.length l) (hc0 : l.length ≤ c0) (hsm : smallB l = true) (hg : goodB l = false) :
    Calls Tryd.prog 11 #[.agg (agC a), .slice A0 l.length c0] w fun e w' => ∃ v8, e = .returned (.tuple #[.agg (agC zA), v8, .int .i64 210]) ∧ Kd.R k45 45 w' w.heap.size (fun _ => True) v8 [] ∧ Below w.heap.size w w' := by
  have hu := Tryd.underlying23
  have HR := Aside0.mk hr
  have HGD := Aside0.mk (show keys_good.f l = some false by unfold keys_good.f; rw [if_pos hsm, hg])
  clear hr hsm hg
  go_enter Tryd.func11, Tryd.ntmps11
  go_wp2_with (first
    | ((with_reducible refine gate_dst (N := 2) rfl ?_); refine box_event ?hg (N := 2) ?hd (cs := agC a) (t := 23) ?hr ?_; (case hd => rfl); (case hg => rfl); (case hr => first | (go_simp; done) | (go_simp; rfl)); intro g2 hgg2 w3 hxg2 hyg2; have X2 := Aside0.mk hxg2; have Y2 := Aside0.mk hyg2; have Z2 := Aside0.mk hgg2; clear hxg2 hyg2 hgg2)
    | ((with_reducible refine gate_dst (N := 4) rfl ?_); refine box_event ?hg (N := 4) ?hd (cs := (#[.bool false, .bool false, .bool false, .bool false, .int .i64 0, .int .i64 0, .string (⟨#[]⟩ : ByteArray), .string (⟨#[]⟩ : ByteArray)] : Array Value)) (t := 23) ?hr ?_; (case hd => rfl); (case hg => rfl); (case hr => first | (go_simp; done) | (go_simp; rfl)); intro g4 hgg4 w4 hxg4 hyg4; have X4 := Aside0.mk hxg4; have Y4 := Aside0.mk hyg4; have Z4 := Aside0.mk (show g4 = w3.heap.size from hgg4); clear hxg4 hyg4 hgg4)
    | (go_at_call 22; refine (keys_good.calls A0 c0 l false _ (Kd.C_below HR.out (below_step Y2.out Y4.out)) hc0 HGD.out).mono ?_; rintro e w5 ⟨rfl, hb5⟩; have HB5 := Aside0.mk (below_step (below_step Y2.out Y4.out) hb5); have X5 := Aside0.mk (blk_below X4.out hb5); have hk := X5.out; obtain ⟨k0, k1, k2, k3, k4, k5, k6, k7⟩ := cells8 hk; have q0 := blk_frozen hk 0; have q1 := blk_frozen hk 1; have q2 := blk_frozen hk 2; have q3 := blk_frozen hk 3; have q4 := blk_frozen hk 4; have q5 := blk_frozen hk 5; have q6 := blk_frozen hk 6; have q7 := blk_frozen hk 7; clear hb5 hk))
  (try simp only [Exit.inBlock, Exit.then])
  refine bodyPost_ret (results_ans rfl _ _ g4 _ _ (0, 0) _ rfl (put8_blk X5.out) hu rfl (by kernel_rfl)) rfl ?_
  exact ⟨_, rfl, Kd.R_nil _ _ _ _ _, put8_below HB5.out (by rw [Z4.out]; exact below_size Y2.out)⟩
theorem wl_world {P : Program} {ops : Array Oper} {Q : Exit → Act → World → Prop} {l : List Oper} {a : Act} {w : World} (S : World → Prop) (hS : S w) (h : ∀ w', S w' → wpList P ops Q l a w') : wpList P ops Q l a w := h w hS
set_option maxHeartbeats 40000000 in
set_option maxRecDepth 100000 in
theorem ans_good (a : S23) (A0 : Option Addr) (c0 : Nat) (l : List S45) (V : Option (S23 × List S45)) (w : World) (hG : Glob w) (hr : Kd.C k45 w A0 l.length l) (hc0 : l.length ≤ c0) (hsm : smallB l = true) (hg : goodB l = true) (hV : ansL a [] l = some V) :
    Calls Tryd.prog 11 #[.agg (agC a), .slice A0 l.length c0] w fun e w' => ∃ v8, e = .returned (.tuple #[.agg (agC (ansV V).1), v8, .int .i64 (ansV V).2.2]) ∧ Kd.R k45 45 w' w.heap.size (fun _ => True) v8 (ansV V).2.1 ∧ Below w.heap.size w w' := by
  have hu := Tryd.underlying23
  have hl16 : l.length ≤ 16 := by unfold goodB at hg; simp only [Bool.and_eq_true, decide_eq_true_eq] at hg; exact hg.1
  have i16 : (l.length : Int) ≤ 16 := by omega
  have HR := Aside0.mk hr
  have HSM := Aside0.mk hsm
  have HGG := Aside0.mk hG
  have HGD := Aside0.mk (show keys_good.f l = some true by unfold keys_good.f; rw [if_pos hsm, hg])
  have HV := Aside0.mk hV
  clear hr hsm hg hV hG
  go_enter Tryd.func11, Tryd.ntmps11
  go_wp2_with (first
    | ((with_reducible refine gate_dst (N := 2) rfl ?_); refine box_event ?hg (N := 2) ?hd (cs := agC a) (t := 23) ?hr ?_; (case hd => rfl); (case hg => rfl); (case hr => first | (go_simp; done) | (go_simp; rfl)); intro g2 hgg2 w3 hxg2 hyg2; have X2 := Aside0.mk hxg2; have Y2 := Aside0.mk hyg2; have Z2 := Aside0.mk hgg2; clear hxg2 hyg2 hgg2)
    | ((with_reducible refine gate_dst (N := 4) rfl ?_); refine box_event ?hg (N := 4) ?hd (cs := (#[.bool false, .bool false, .bool false, .bool false, .int .i64 0, .int .i64 0, .string (⟨#[]⟩ : ByteArray), .string (⟨#[]⟩ : ByteArray)] : Array Value)) (t := 23) ?hr ?_; (case hd => rfl); (case hg => rfl); (case hr => first | (go_simp; done) | (go_simp; rfl)); intro g4 hgg4 w4 hxg4 hyg4; have X4 := Aside0.mk hxg4; have Y4 := Aside0.mk hyg4; have Z4 := Aside0.mk (show g4 = w3.heap.size from hgg4); clear hxg4 hyg4 hgg4)
    | (go_at_call 22; refine (keys_good.calls A0 c0 l true _ (Kd.C_below HR.out (below_step Y2.out Y4.out)) hc0 HGD.out).mono ?_; rintro e w5 ⟨rfl, hb5⟩; have HB5 := Aside0.mk hb5; clear hb5)
    | (go_at_call 23; refine (readers_walk _).mono ?_; rintro e w2 ⟨b, rfl, ht⟩; have HT := Aside0.mk ht; clear ht))
  have hw52 : Below w5.heap.size w5 w2 := by obtain ⟨L, _, T⟩ := HT.out; exact T.hb
  have g24 : g2 < g4 := by rw [Z4.out]; exact blk_lt X2.out
  have an0 : AnS w w2 w2 g2 g4 b a (.slice none 0 0) [] := by
    have hx2 := blk_below (blk_below X2.out Y4.out) HB5.out
    have hx4 := blk_below X4.out HB5.out
    refine ⟨⟨w5, HT.out, by have := Z2.out; omega, by have := Z4.out; have := below_size Y2.out; omega, blk_lt hx2, blk_lt hx4, Nat.ne_of_lt g24⟩, gb_below (Below.refl _ _), blk_below hx2 hw52, blk_below hx4 hw52, Kd.R_nil _ _ _ _ _, below_step (below_step (below_step Y2.out Y4.out) HB5.out) hw52⟩
  have AN0 := Aside0.mk an0
  clear an0 hw52 g24 X2 Y2 Z2 X4 Y4 Z4 HB5 HT
  go_loopw [8, 21] (fun v8 vi wr => ∃ (i : Nat) (a' : S23) (out : List S45), vi = .int .i64 i ∧ i ≤ l.length ∧ out.length ≤ i ∧ Aside0 (AnS w w2 wr g2 g4 b a' v8 out) ∧ Aside0 (ansL a' out (l.drop i) = some V)) (fun _ vi _ => l.length - (intOf vi).toNat)
  case atStart => exact ⟨0, a, [], rfl, by omega, Nat.le_refl _, AN0, HV⟩
  case round =>
    obtain ⟨i, a', out, rfl, hi, ho, AN, hL⟩ := hrel
    obtain ⟨A8, c8, e8⟩ := Kd.R_slice AN.out.own
    subst e8
    have HOL := Aside0.mk ho
    clear ho
    by_cases hlt : i < l.length
    · obtain ⟨ad, hA, hc1, hc2⟩ := at_T45 (Kd.C_below HR.out AN.out.hb) i (by omega) (by omega)
      subst hA
      obtain ⟨p, hp⟩ : ∃ p, l[i] = p := ⟨_, rfl⟩
      have hpr : rd_T45 l i = p := by rw [← hp]; exact rd_pair l i hlt
      rw [hpr] at hc1 hc2
      simp only [Int.toNat_natCast] at hc1 hc2
      have hps := small_at HSM.out i hlt
      rw [hp] at hps
      have hdrop : l.drop i = p :: l.drop (i + 1) := by rw [List.drop_eq_getElem_cons hlt, hp]
      have hst := hL.out
      rw [hdrop, ansL] at hst
      have tokL : True := trivial
      have hgw : g2 < wr.heap.size := Nat.lt_of_lt_of_le AN.out.lt.1 AN.out.gr.size
      have HPS := Aside0.mk hps
      clear hpr hdrop hL hps hp
      cases hf : findR p.f0 with
      | none =>
        rw [hf] at hst
        have HF := Aside0.mk hf
        have HST := Aside0.mk hst
        clear hst hf
        go_wp2_with (first
          | (at_lookup; have _t := tokL; refine wl_world (fun w' => AnS w w2 w' g2 g4 b a' (.slice A8 out.length c8) out ∧ w'.heap[wr.heap.size]? = some (.cells #[.string p.f0, .string p.f1] 45 (0, 0))) ⟨AN.out.next (below_alloc (Below.refl _ _) _), Array.getElem?_push_size⟩ ?_; rintro w10 ⟨an10, hx10⟩; clear tokL _t; have AN10 := Aside0.mk an10; have X10 := Aside0.mk hx10; have h10 : w10.cell? ⟨wr.heap.size, 0, none⟩ = some (.string p.f0) := (blk_cell hx10 0).trans rfl; have h11 : w10.cell? ⟨wr.heap.size, 1, none⟩ = some (.string p.f1) := (blk_cell hx10 1).trans rfl; clear AN an10 hx10; have AN := AN10; clear AN10; obtain ⟨vl, hlk⟩ := (AN.out.look p.f0 HPS.out.1).1 HF.out)
          | ((with_reducible refine gate_builtin (b := .append) (xs := #[.tmp 34, .tmp 38]) rfl ?_); at_builtin; refine Kd.R_append k45 (w0 := w) w.heap.size rfl (.tmp 34) (.tmp 38) 24 45 (.agg #[(.string ⟨#[]⟩), (.string ⟨#[]⟩)]) 32 rfl Tryd.underlying24 info45 rfl (by decide) (by omega) (.slice A8 out.length c8) out (⟨p.f0, (⟨#[78, 111, 116, 85, 110, 100, 101, 114, 115, 116, 111, 111, 100]⟩ : ByteArray)⟩ : S45) [.string p.f0, .string (⟨#[78, 111, 116, 85, 110, 100, 101, 114, 115, 116, 111, 111, 100]⟩ : ByteArray)] (fun k => w2.heap.size ≤ k) (fun _ => False) rfl rfl ?aP (fun _ hk => hk.elim) ?aF ?aO ?aB ?aS ?aL ?_; (case aP => exact k45_mkM _ _ _ (⟨p.f0, (⟨#[78, 111, 116, 85, 110, 100, 101, 114, 115, 116, 111, 111, 100]⟩ : ByteArray)⟩ : S45)); (case aB => exact AN.out.hb); (case aF => exact fun k hk => Nat.le_trans AN.out.gr.size hk); (case aO => exact AN.out.own); (case aS => exact below_size AN.out.hb); (case aL => have := HOL.out; omega); intro v9 w9 ho hb hg hat; have AN9 := Aside0.mk (AN.out.app ho hb hg); clear ho hb hg hat))
        go_roundw
        case rel => exact ⟨i + 1, a', out ++ [⟨p.f0, (⟨#[78, 111, 116, 85, 110, 100, 101, 114, 115, 116, 111, 111, 100]⟩ : ByteArray)⟩], by go_num, by omega, by rw [List.length_append]; have := HOL.out; simp; omega, AN9, HST⟩
        case measure => simp [intOf]; omega
      | some r =>
        rw [hf] at hst
        obtain ⟨x, hx, hst⟩ := Option.bind_eq_some_iff.mp hst
        have HX := Aside0.mk hx
        have HST := Aside0.mk hst
        have HF := Aside0.mk hf
        clear hst hf hx
        obtain ⟨a2, ans, okb⟩ := x
        go_wp2_with (at_lookup; have _t := tokL; refine wl_world (fun w' => AnS w w2 w' g2 g4 b a' (.slice A8 out.length c8) out ∧ w'.heap[wr.heap.size]? = some (.cells #[.string p.f0, .string p.f1] 45 (0, 0))) ⟨AN.out.next (below_alloc (Below.refl _ _) _), Array.getElem?_push_size⟩ ?_; rintro w10 ⟨an10, hx10⟩; clear tokL _t; have AN10 := Aside0.mk an10; have X10 := Aside0.mk hx10; have h10 : w10.cell? ⟨wr.heap.size, 0, none⟩ = some (.string p.f0) := (blk_cell hx10 0).trans rfl; have h11 : w10.cell? ⟨wr.heap.size, 1, none⟩ = some (.string p.f1) := (blk_cell hx10 1).trans rfl; clear AN an10 hx10; have AN := AN10; clear AN10; obtain ⟨n, cap, cells, hlk, hent, hrd, hcl⟩ := (AN.out.look p.f0 HPS.out.1).2 r HF.out; have HRD := Aside0.mk hrd; have HCL := Aside0.mk hcl; unfold Ent at hent; clear hrd hcl)
        have hge : w.heap.size ≤ g2 := by obtain ⟨w1, _, h, _⟩ := AN.out.tab; exact h
        have hcr := HRD.out w g2 a' p.f1 (a2, ans, okb) _ HGG.out AN.out.hb hge HCL.out AN.out.k2 HX.out
        have HCR := Aside0.mk hcr
        clear hcr
        cases okb with
        | false =>
          refine HCR.out.mono ?_
          rintro e w6 ⟨rfl, hk6, hg6⟩
          have AN6 := Aside0.mk (AN.out.call hg6 hk6)
          clear hk6 hg6
          have hk := AN6.out.k4
          obtain ⟨k0, k1, k2, k3, k4, k5, k6, k7⟩ := cells8 hk
          have q0 := blk_frozen hk 0
          have q1 := blk_frozen hk 1
          have q2 := blk_frozen hk 2
          have q3 := blk_frozen hk 3
          have q4 := blk_frozen hk 4
          have q5 := blk_frozen hk 5
          have q6 := blk_frozen hk 6
          have q7 := blk_frozen hk 7
          have K4 := Aside0.mk hk
          clear hk
          have hv : V = none := by have h := HST.out; rw [if_neg (by decide)] at h; exact (Option.some.inj h).symm
          have HVN := Aside0.mk hv
          clear hv
          go_wp2
          (try simp only [Exit.inBlock, Exit.then])
          rw [HVN.out]
          refine bodyPost_ret (results_ans rfl _ _ g4 _ _ (0, 0) _ rfl (put8_blk K4.out) hu rfl (by kernel_rfl)) rfl ?_
          have hge4 : w.heap.size ≤ g4 := by obtain ⟨w1, _, _, h, _⟩ := AN6.out.tab; exact h
          exact ⟨_, rfl, Kd.R_nil _ _ _ _ _, put8_below AN6.out.hb hge4⟩
        | true =>
          have hst := HST.out
          rw [if_pos rfl] at hst
          by_cases hem : ans.toList.isEmpty = true
          · rw [if_pos hem] at hst
            have HST2 := Aside0.mk hst
            have HEM := Aside0.mk hem
            clear hst HST
            refine HCR.out.mono ?_
            rintro e w6 ⟨rfl, hk6, hg6⟩
            have AN6 := Aside0.mk (AN.out.call hg6 hk6)
            clear hk6 hg6
            go_wp2
            go_roundw
            case rel => exact ⟨i + 1, a2, out, by go_num, by omega, by have := HOL.out; omega, AN6, HST2⟩
            case measure => simp [intOf]; omega
          · have hem : ans.toList.isEmpty = false := by simpa using hem
            rw [hem, if_neg (by decide)] at hst
            have HST2 := Aside0.mk hst
            clear hst HST
            refine HCR.out.mono ?_
            rintro e w6 ⟨rfl, hk6, hg6⟩
            have AN6 := Aside0.mk (AN.out.call hg6 hk6)
            have hpb : w6.heap[wr.heap.size]? = some (.cells #[.string p.f0, .string p.f1] 45 (0, 0)) := gb_blk hg6 X10.out (Nat.ne_of_gt hgw)
            have hp0 : w6.cell? ⟨wr.heap.size, 0, none⟩ = some (.string p.f0) := (blk_cell hpb 0).trans rfl
            clear hk6 hg6 hpb AN
            have AN := AN6
            clear AN6
            go_wp2_with ((with_reducible refine gate_builtin (b := .append) (xs := #[.tmp 52, .tmp 57]) rfl ?_); at_builtin; refine Kd.R_append k45 (w0 := w) w.heap.size rfl (.tmp 52) (.tmp 57) 24 45 (.agg #[(.string ⟨#[]⟩), (.string ⟨#[]⟩)]) 32 rfl Tryd.underlying24 info45 rfl (by decide) (by omega) (.slice A8 out.length c8) out (⟨p.f0, ans⟩ : S45) [.string p.f0, .string ans] (fun k => w2.heap.size ≤ k) (fun _ => False) rfl rfl ?aP (fun _ hk => hk.elim) ?aF ?aO ?aB ?aS ?aL ?_; (case aP => exact k45_mkM _ _ _ (⟨p.f0, ans⟩ : S45)); (case aB => exact AN.out.hb); (case aF => exact fun k hk => Nat.le_trans AN.out.gr.size hk); (case aO => exact AN.out.own); (case aS => exact below_size AN.out.hb); (case aL => have := HOL.out; omega); intro v9 w9 ho hb hg hat; have AN9 := Aside0.mk (AN.out.app ho hb hg); clear ho hb hg hat)
            go_roundw
            case rel => exact ⟨i + 1, a2, out ++ [⟨p.f0, ans⟩], by go_num, by omega, by rw [List.length_append]; have := HOL.out; simp; omega, AN9, HST2⟩
            case measure => simp [intOf]; omega
    · have hil : i = l.length := by omega
      have hst := hL.out
      rw [hil, List.drop_eq_nil_of_le (Nat.le_refl _), ansL] at hst
      have HVN := Aside0.mk (Option.some.inj hst).symm
      clear hst hL
      have hk := AN.out.k4
      obtain ⟨k0, k1, k2, k3, k4, k5, k6, k7⟩ := cells8 hk
      have q0 := blk_frozen hk 0
      have q1 := blk_frozen hk 1
      have q2 := blk_frozen hk 2
      have q3 := blk_frozen hk 3
      have q4 := blk_frozen hk 4
      have q5 := blk_frozen hk 5
      have q6 := blk_frozen hk 6
      have q7 := blk_frozen hk 7
      have K4 := Aside0.mk hk
      have hk2 := AN.out.k2
      obtain ⟨m0, m1, m2, m3, m4, m5, m6, m7⟩ := cells8 hk2
      clear hk hk2
      go_wp2
      (try simp only [Exit.inBlock, Exit.then])
      rw [HVN.out]
      refine bodyPost_ret (results_ans rfl _ _ g4 _ _ (0, 0) _ rfl (put8_blk K4.out) hu rfl (by kernel_rfl)) rfl ?_
      have hge4 : w.heap.size ≤ g4 := by obtain ⟨w1, _, _, h, _⟩ := AN.out.tab; exact h
      have hne4 : w2.heap.size > g4 := AN.out.lt.2
      exact ⟨_, rfl, Kd.R_mono (Kd.R_grown AN.out.own put8_gb (fun k hk e => by injection e with e; omega)) (fun _ _ => trivial), put8_below AN.out.hb hge4⟩
def keys_Answer.f (a0_0 : Bool) (a0_1 : Bool) (a0_2 : Bool) (a0_3 : Bool) (a0_4 : Int) (a0_5 : Int) (a0_6 : ByteArray) (a0_7 : ByteArray) (l1 : List S45) : Option (Bool × Bool × Bool × Bool × Int × Int × ByteArray × ByteArray × List S45 × Int) :=
  if smallB l1 = true then (if goodB l1 = true then (ansL ⟨a0_0, a0_1, a0_2, a0_3, a0_4, a0_5, a0_6, a0_7⟩ [] l1).map (fun V => ((ansV V).1.f0, (ansV V).1.f1, (ansV V).1.f2, (ansV V).1.f3, (ansV V).1.f4, (ansV V).1.f5, (ansV V).1.f6, (ansV V).1.f7, (ansV V).2.1, (ansV V).2.2)) else some (false, false, false, false, 0, 0, (⟨#[]⟩ : ByteArray), (⟨#[]⟩ : ByteArray), [], 210)) else none
theorem keys_Answer.calls (a0_0 : Bool) (a0_1 : Bool) (a0_2 : Bool) (a0_3 : Bool) (a0_4 : Int) (a0_5 : Int) (a0_6 : ByteArray) (a0_7 : ByteArray) (A1 : Option Addr) (c1 : Nat) (l1 : List S45) (r1 : Bool) (r2 : Bool) (r3 : Bool) (r4 : Bool) (r5 : Int) (r6 : Int) (r7 : ByteArray) (r8 : ByteArray) (r9 : List S45) (r10 : Int) (w : World) (hr1 : Kd.C k45 w A1 l1.length l1) (hc1 : l1.length ≤ c1) (hG : Glob w) (h : keys_Answer.f a0_0 a0_1 a0_2 a0_3 a0_4 a0_5 a0_6 a0_7 l1 = some (r1, r2, r3, r4, r5, r6, r7, r8, r9, r10)) :
    Calls Tryd.prog 11 #[.agg #[.bool a0_0, .bool a0_1, .bool a0_2, .bool a0_3, .int .i64 a0_4, .int .i64 a0_5, .string a0_6, .string a0_7], .slice A1 l1.length c1] w fun e w' => ∃ v8_ : Value, e = .returned (.tuple #[.agg #[.bool r1, .bool r2, .bool r3, .bool r4, .int .i64 r5, .int .i64 r6, .string r7, .string r8], v8_, .int .i64 r10]) ∧ Kd.R k45 45 w' w.heap.size (fun _ => True) v8_ r9 ∧ Below w.heap.size w w' := by
  unfold keys_Answer.f at h
  split at h
  · next hsm =>
    split at h
    · next hg =>
      obtain ⟨V, hV, h⟩ := Option.map_eq_some_iff.mp h
      cases h
      exact ans_good ⟨a0_0, a0_1, a0_2, a0_3, a0_4, a0_5, a0_6, a0_7⟩ A1 c1 l1 V w hG hr1 hc1 hsm hg hV
    · next hg =>
      cases h
      exact ans_bad ⟨a0_0, a0_1, a0_2, a0_3, a0_4, a0_5, a0_6, a0_7⟩ A1 c1 l1 w hr1 hc1 hsm (Bool.eq_false_iff.mpr hg)
  · cases h
end Go.Proofs.YtclcnkmefldpiaaDoor.P
