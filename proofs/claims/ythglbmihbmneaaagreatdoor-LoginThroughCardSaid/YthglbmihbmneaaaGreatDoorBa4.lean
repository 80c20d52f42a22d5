-- joined by this session's wip/tools/pack.py: words of the kit's print, cut to what the claim names; functions printed by a patched copy of the printer; walks and lemmas of this session; Lean checks it
import Derived.Test.YthglbmihbmneaaaGreatDoorBa3
import Derived.Maps.Own
import Derived.Maps.OwnOps
import Derived.Maps.Views
import Derived.Carry
import Derived.Lib.SliceRun
namespace Go.Proofs.YthglbmihbmneaaaGreatDoor.P
open Go.RowKit Go.Proofs.YthglbmihbmneaaaGreatDoorW.PrintWords Go.Proofs.YthglbmihbmneaaaGreatDoorW.PrintLast Go.Proofs.YthglbmihbmneaaaGreatDoorW.PrintMore
attribute [local go_sem] max2_int min2_int max_two min_two max_three min_three max_four min_four   -- for this text's walks alone
set_option linter.unusedVariables false
set_option linter.unusedSimpArgs false
set_option linter.unnecessarySimpa false
theorem bld_info : ∃ j, Tryz.prog.info? 149 = some j ∧ j.size = 2 := by
  have h : (Tryz.prog.info? 149).map (·.size) = some 2 := by kernel_rfl
  obtain ⟨j, h1, h2⟩ := Option.map_eq_some_iff.1 h
  exact ⟨j, h1, h2⟩
set_option maxHeartbeats 4000000 in
set_option maxRecDepth 100000 in
theorem bld_check_used (b : Nat) (w : World) (h0 : w.cell? ⟨b, 0, none⟩ = some (.pointer (some ⟨b, 0, none⟩))) :
    Calls Tryz.prog 100 #[.pointer (some ⟨b, 0, none⟩)] w fun e w' => e = .returned (.tuple #[]) ∧ w' = w := by
  obtain ⟨j, hj, _⟩ := bld_info
  go_enter Tryz.func100, Tryz.ntmps100
  go_wp2
  rw [Go.Lib.run_neq_ptr_same w _ Tryz.underlying147 hj]
  go_wp2
  go_end0
  exact ⟨rfl, rfl⟩
set_option maxHeartbeats 4000000 in
set_option maxRecDepth 100000 in
theorem bld_check_fresh (b : Nat) (w : World) (h0 : w.cell? ⟨b, 0, none⟩ = some (.pointer none)) (hsh : w.shape? b = some (149, 2)) (hfz : w.frozen? ⟨b, 0, none⟩ = false) :
    Calls Tryz.prog 100 #[.pointer (some ⟨b, 0, none⟩)] w fun e w' => e = .returned (.tuple #[]) ∧ w' = w.setCell ⟨b, 0, none⟩ (.pointer (some ⟨b, 0, none⟩)) := by
  obtain ⟨j, hj, hjs⟩ := bld_info
  go_enter Tryz.func100, Tryz.ntmps100
  go_wp2
  rw [Go.Lib.run_to_unsafe w ⟨b, 0, none⟩ Tryz.underlying147 Tryz.underlying86 hj (by rw [hjs]; decide) hsh (Nat.zero_lt_succ 1)]
  simp only [Result.andThen]
  rw [Oper.upon_value]
  go_wp2
  rw [run_callFunc_extern Tryz.func111 (by kernel_rfl) (by kernel_rfl) (by kernel_rfl) (e := Extern.AbiNoEscape.same) (by kernel_rfl)]
  rw [Go.Lib.run_noEscape]
  simp only [Result.andThen]
  rw [Oper.upon_value]
  go_wp2
  rw [Go.Lib.run_from_unsafe w ⟨b, 0, none⟩ Tryz.underlying86 Tryz.underlying147 hj hsh (by kernel_rfl)]
  simp only [Result.andThen]
  rw [Oper.upon_value]
  go_wp2
  go_end0
  exact ⟨rfl, rfl⟩
theorem bld_check (B b : Nat) (bs : List Value) (w : World) (h : Go.Lib.IsBuilder 149 5 B b bs w) :
    Calls Tryz.prog 100 #[.pointer (some ⟨b, 0, none⟩)] w fun e w' => e = .returned (.tuple #[]) ∧ Go.Lib.BuilderAt 149 5 B b (.pointer (some ⟨b, 0, none⟩)) bs w' ∧ Below B w w' := by
  rcases h with h | h
  · refine (bld_check_fresh b w h.cell0 h.shape h.frozen0).mono ?_
    rintro e w' ⟨rfl, rfl⟩
    exact ⟨rfl, h.used _, (Below.refl B w).setCell (p := ⟨b, 0, none⟩) h.1 _⟩
  · refine (bld_check_used b w h.cell0).mono ?_
    rintro e w' ⟨rfl, rfl⟩
    exact ⟨rfl, h, Below.refl B _⟩
set_option maxHeartbeats 4000000 in
set_option maxRecDepth 100000 in
theorem bld_write (B b : Nat) (bs : List Value) (s : ByteArray) (w : World) (h : Go.Lib.IsBuilder 149 5 B b bs w) (hlen : bs.length + s.size ≤ 1000000) (hBw : B ≤ w.heap.size) :
    Calls Tryz.prog 68 #[.pointer (some ⟨b, 0, none⟩), .string s] w fun e w' => e = .returned (.tuple #[.int .i64 s.size, .nilIface]) ∧ Go.Lib.BuilderAt 149 5 B b (.pointer (some ⟨b, 0, none⟩)) (bs ++ Go.Lib.strCells s) w' ∧ Below B w w' := by
  obtain ⟨i0, hi, hz0, hz1, hz2⟩ := info_parts info5
  have HL := Aside0.mk hlen
  have HBW := Aside0.mk hBw
  clear hlen hBw
  go_enter Tryz.func68, Tryz.ntmps68
  go_wp2_with (go_at_call 100; refine (bld_check B b bs _ h).mono ?_)
  rintro e w1 ⟨rfl, h1, hb1⟩
  obtain ⟨hB, v, hbk, hown, hne⟩ := h1
  have c0 : w1.cell? ⟨b, 0, none⟩ = some (.pointer (some ⟨b, 0, none⟩)) := (blk_cell hbk 0).trans rfl
  have c1 : w1.cell? ⟨b, 1, none⟩ = some v := (blk_cell hbk 1).trans rfl
  go_wp2_with (at_builtin; refine Go.Lib.wpList_append_own_string _ rfl _ _ 78 9 rfl B 5 i0 Tryz.underlying78 Tryz.underlying9 hi hz0 hz1 hz2 _ _ _ rfl hown s rfl ?c3 ?c4 ?c5 ?_)
  case c3 => have := HL.out; (have : maxLen = 9223372036854775807 := rfl); omega
  case c4 => have := HL.out; omega
  case c5 => have := hb1.size; have := HBW.out; omega
  intro v' w2 hown' hgrow _
  have hlt : b < w1.heap.size := blk_lt hbk
  have hb2 : w2.heap[b]? = some (.cells #[.pointer (some ⟨b, 0, none⟩), v] 149 (0, 0)) := by
    rw [hgrow.block b hlt (fun e => hne e.symm)]
    exact hbk
  have d0 : w2.cell? ⟨b, 0, none⟩ = some (.pointer (some ⟨b, 0, none⟩)) := (blk_cell hb2 0).trans rfl
  have d1 : w2.cell? ⟨b, 1, none⟩ = some v := (blk_cell hb2 1).trans rfl
  have f1 : w2.frozen? ⟨b, 1, none⟩ = false := blk_frozen hb2 1
  obtain ⟨ao, n', cap, rfl⟩ : ∃ ao n' cap, v' = .slice ao n' cap := by
    rcases hown'.2 with ⟨hv, _⟩ | ⟨g, cap, cur, hv, _⟩
    · exact ⟨_, _, _, hv⟩
    · exact ⟨_, _, _, hv⟩
  go_wp2
  go_ret2
  refine ⟨rfl, ?_, ?_⟩
  · exact Go.Lib.BuilderAt.put (T := 149) (e := 5) hB hb2 (bs' := bs ++ Go.Lib.strCells s) (by simpa [Go.Lib.strCells_length] using hown') (by decide)
  · exact (hb1.grown hgrow (by have := hb1.size; have := HBW.out; omega) (fun k hk => (hown.lt k hk).1)).setCell (p := ⟨b, 1, none⟩) hB _
theorem bld_alloc {T e : TypeId} {B b : Nat} {bs : List Value} {w : World} (h : Go.Lib.IsBuilder T e B b bs w) (o : Obj) : Go.Lib.IsBuilder T e B b bs (w.alloc o) :=
  h.imp (fun ⟨hB, v, hb, ho, hn⟩ => ⟨hB, v, blk_alloc hb o, ho.alloc o, hn⟩) (fun ⟨hB, v, hb, ho, hn⟩ => ⟨hB, v, blk_alloc hb o, ho.alloc o, hn⟩)
def textL (l : List S117) : List UInt8 := l.flatMap fun p => p.f0.data.toList ++ [61] ++ p.f1.data.toList ++ [0]
def keys_Text.f (l0 : List S117) : Option (ByteArray × Int) := if smallB l0 = true then (if goodB l0 = true then some ((⟨(textL l0).toArray⟩ : ByteArray), 0) else some ((⟨#[]⟩ : ByteArray), 210)) else none
theorem textL_snoc (l : List S117) (p : S117) : textL (l ++ [p]) = textL l ++ (p.f0.data.toList ++ [61] ++ p.f1.data.toList ++ [0]) := by
  unfold textL
  rw [List.flatMap_append]
  simp
theorem textL_size {l : List S117} (h : ∀ p ∈ l, p.f0.size ≤ 63 ∧ p.f1.size ≤ 255) : (textL l).length ≤ l.length * 320 := by
  induction l with
  | nil => simp [textL]
  | cons p l ih =>
    have h1 := ih (fun q hq => h q (List.mem_cons_of_mem _ hq))
    obtain ⟨h2, h3⟩ := h p (List.mem_cons_self ..)
    have e : textL (p :: l) = (p.f0.data.toList ++ [61] ++ p.f1.data.toList ++ [0]) ++ textL l := rfl
    have e0 : p.f0.data.toList.length = p.f0.size := rfl
    have e1 : p.f1.data.toList.length = p.f1.size := rfl
    rw [e]
    simp only [List.length_append, List.length_cons, List.length_nil, e0, e1]
    omega
theorem good_sizes : ∀ (r l : List S117), goodL l r = true → ∀ p ∈ r, p.f0.size ≤ 63 ∧ p.f1.size ≤ 255
  | [], _, _, p, hp => by cases hp
  | q :: r, l, h, p, hp => by
    rw [goodL_snoc] at h
    simp only [Bool.and_eq_true] at h
    rcases List.mem_cons.mp hp with rfl | hp
    · have h1 := h.1.2
      unfold pairB keyB at h1
      simp only [Bool.and_eq_true, decide_eq_true_eq] at h1
      exact ⟨h1.1.1.1.2, h1.1.2⟩
    · exact good_sizes r _ h.2 p hp
theorem strCells_pair (p : S117) : Go.Lib.strCells (((p.f0 ++ (⟨#[61]⟩ : ByteArray)) ++ p.f1) ++ (⟨#[0]⟩ : ByteArray)) = Go.Lib.byteCells (p.f0.data.toList ++ [61] ++ p.f1.data.toList ++ [0]) := by
  unfold Go.Lib.strCells Go.Lib.byteCells
  simp
set_option maxHeartbeats 8000000 in
set_option maxRecDepth 100000 in
theorem text_walk (A0 : Option Addr) (c0 : Nat) (l : List S117) (w : World) (hr : Kd.C k117 w A0 l.length l) (hc0 : l.length ≤ c0) (hsm : smallB l = true) (hg : goodB l = true) :
    Calls Tryz.prog 50 #[.slice A0 l.length c0] w fun e w' => e = .returned (.tuple #[.string (⟨(textL l).toArray⟩ : ByteArray), .int .i64 0]) ∧ Below w.heap.size w w' := by
  have hg1 := hg
  unfold goodB at hg1
  simp only [Bool.and_eq_true, decide_eq_true_eq] at hg1
  obtain ⟨h16, hgl⟩ := hg1
  have HSZ := Aside0.mk (good_sizes l [] hgl)
  have i16 : (l.length : Int) ≤ 16 := by omega
  have HR := Aside0.mk hr
  have HGD := Aside0.mk (show keys_good.f l = some true by unfold keys_good.f; rw [if_pos hsm, hg])
  clear hr hsm hg hgl
  go_enter Tryz.func50, Tryz.ntmps50
  go_wp2_with (go_at_call 66; refine (keys_good.calls A0 c0 l true _ HR.out hc0 HGD.out).mono ?_; rintro e w1 ⟨rfl, hb⟩; have HB1 := Aside0.mk hb; clear hb)
  go_loopw [12] (fun vi wr => ∃ i : Nat, vi = .int .i64 i ∧ i ≤ l.length ∧ Aside0 (Go.Lib.IsBuilder 149 5 w1.heap.size w1.heap.size (Go.Lib.byteCells (textL (l.take i))) wr) ∧ Aside0 (Below w1.heap.size w1 wr)) (fun vi _ => l.length - (intOf vi).toNat)
  case atStart => exact ⟨0, rfl, by omega, ⟨Go.Lib.fresh_isBuilder 149 5 w1⟩, ⟨(Below.refl _ _).alloc (Nat.le_refl _) _⟩⟩
  case round =>
    obtain ⟨i, rfl, hi, hI, hB⟩ := hrel
    by_cases hlt : i < l.length
    · obtain ⟨ad, hA, hc1, hc2⟩ := at_T117 (Kd.C_below HR.out (below_step HB1.out hB.out)) i (by omega) (by omega)
      subst hA
      obtain ⟨p, hp⟩ : ∃ p, l[i] = p := ⟨_, rfl⟩
      have hpr : rd_T117 l i = p := by rw [← hp]; exact rd_pair l i hlt
      rw [hpr] at hc1 hc2
      simp only [Int.toNat_natCast] at hc1 hc2
      have htake : l.take (i + 1) = l.take i ++ [p] := by rw [List.take_succ_eq_append_getElem hlt, hp]
      have HTK := Aside0.mk htake
      have hps := HSZ.out p (by rw [← hp]; exact List.getElem_mem hlt)
      have hts : (textL (l.take i)).length ≤ i * 320 := by
        have h1 := textL_size (l := l.take i) (fun q hq => HSZ.out q (List.mem_of_mem_take hq))
        rwa [List.length_take, Nat.min_eq_left (by omega)] at h1
      have HSS := Aside0.mk (show (Go.Lib.byteCells (textL (l.take i))).length + (((p.f0 ++ (⟨#[61]⟩ : ByteArray)) ++ p.f1) ++ (⟨#[0]⟩ : ByteArray)).size ≤ 1000000 by
        have e : (Go.Lib.byteCells (textL (l.take i))).length = (textL (l.take i)).length := by simp [Go.Lib.byteCells]
        have e2 : (((p.f0 ++ (⟨#[61]⟩ : ByteArray)) ++ p.f1) ++ (⟨#[0]⟩ : ByteArray)).size = p.f0.size + 1 + p.f1.size + 1 := by simp [ByteArray.size_append]; rfl
        rw [e, e2]
        omega)
      have m1 : ¬ 9223372036854775807 < p.f0.size + 1 := by omega
      have m2 : ¬ 9223372036854775807 < p.f0.size + 1 + p.f1.size := by omega
      have m3 : ¬ 9223372036854775807 < p.f0.size + 1 + p.f1.size + 1 := by omega
      clear hpr htake hps hts hp
      go_wp2_with (go_at_call 68; refine (bld_write w1.heap.size w1.heap.size (Go.Lib.byteCells (textL (l.take i))) (((p.f0 ++ (⟨#[61]⟩ : ByteArray)) ++ p.f1) ++ (⟨#[0]⟩ : ByteArray)) _ (by first | exact hI.out | exact bld_alloc hI.out _) HSS.out (below_size (by first | exact hB.out | exact below_alloc hB.out _))).mono ?_; rintro e w2 ⟨rfl, h2, hb2⟩; have HI2 := Aside0.mk h2; have HB2 := Aside0.mk hb2; clear h2 hb2)
      go_roundw
      case rel => exact ⟨i + 1, by go_num, by omega, ⟨Or.inr (by rw [HTK.out, textL_snoc, Go.Lib.byteCells_append, ← strCells_pair]; exact HI2.out)⟩, ⟨(below_alloc hB.out _).trans HB2.out⟩⟩
      case measure => simp [intOf]; omega
    · have hil : i = l.length := by omega
      subst hil
      have hI2 := hI.out
      rw [List.take_length] at hI2
      have HI2 := Aside0.mk hI2
      clear hI2
      go_wp2_with (go_at_call 69; refine (Tryz.Builder_String_any w1.heap.size w1.heap.size (textL l) _ HI2.out (below_size hB.out)).mono ?_; rintro e w2 ⟨rfl, hb2⟩; have HB2 := Aside0.mk hb2; clear hb2)
      go_ret2
      exact ⟨rfl, below_step HB1.out (hB.out.trans HB2.out)⟩
theorem keys_Text.calls (A0 : Option Addr) (c0 : Nat) (l0 : List S117) (r1 : ByteArray) (r2 : Int) (w : World) (hr0 : Kd.C k117 w A0 l0.length l0) (hc0 : l0.length ≤ c0) (h : keys_Text.f l0 = some (r1, r2)) :
    Calls Tryz.prog 50 #[.slice A0 l0.length c0] w fun e w' => e = .returned (.tuple #[.string r1, .int .i64 r2]) ∧ Below w.heap.size w w' := by
  unfold keys_Text.f at h
  split at h
  · next hsm =>
    split at h
    · next hg =>
      cases h
      exact text_walk A0 c0 l0 w hr0 hc0 hsm hg
    · next hg =>
      cases h
      have HG := Aside0.mk (show keys_good.f l0 = some false by unfold keys_good.f; rw [if_pos hsm, Bool.eq_false_iff.mpr hg])
      have HR := Aside0.mk hr0
      clear hr0 hsm hg
      go_enter Tryz.func50, Tryz.ntmps50
      go_wp2_with (go_at_call 66; refine (keys_good.calls A0 c0 l0 false _ HR.out hc0 HG.out).mono ?_; rintro e w1 ⟨rfl, hb⟩; have HB1 := Aside0.mk hb; clear hb)
      go_ret2
      exact ⟨rfl, HB1.out⟩
  · cases h
abbrev Stp := (Int × Int) ⊕ (S27 × (Bool × Int × Int × Int) × ByteArray)
def stE : Stp → Ending
  | .inl x => .panicked [refV x.1 x.2]
  | .inr x => .returned (.tuple #[.agg #[.int .i64 x.1.f0, .bool x.1.f1, .bool x.1.f2.f0, .bool x.1.f2.f1, .bool x.1.f2.f2, .bool x.1.f2.f3, .int .i64 x.1.f2.f4, .int .i64 x.1.f2.f5, .string x.1.f2.f6, .string x.1.f2.f7, .int .u32 x.1.f3, .int .u32 x.1.f4], .agg #[.bool x.2.1.1, .int .i64 x.2.1.2.1, .int .i64 x.2.1.2.2.1, .int .u32 x.2.1.2.2.2], .string x.2.2])
def login_stepped.s11 (t : S27) (a : S24) (on : Bool) (st nx first : Int) (s : ByteArray) : Stp := .inr (⟨if on = true then nx else st, true, a, first, t.f4⟩, (on, st, nx, first), s)
def login_stepped.s10 (t : S27) (g : ByteArray) (a : S24) (on : Bool) (st nx first : Int) (s : ByteArray) : Stp :=
  if on = true ∧ nx = 3 then (if a.f6.toList = [] then .inl (2, 7) else if a.f7.toList = [] ∨ a.f7.toList ≠ g.toList then .inl (2, 3) else login_stepped.s11 t a on st nx first s) else login_stepped.s11 t a on st nx first s
def login_stepped.s4 (k : Nat) (t : S27) (g d : ByteArray) (on : Bool) (st nx first : Int) : Option Stp :=
  (keys_Parse.f k d).bind fun l => if l.2 = 0 then (keys_Answer.f t.f2.f0 t.f2.f1 t.f2.f2 t.f2.f3 t.f2.f4 t.f2.f5 t.f2.f6 t.f2.f7 l.1).bind fun a => if a.2.2.2.2.2.2.2.2.2 = 0 then (keys_Text.f a.2.2.2.2.2.2.2.2.1).bind fun s => if s.2 = 0 then some (login_stepped.s10 t g ⟨a.1, a.2.1, a.2.2.1, a.2.2.2.1, a.2.2.2.2.1, a.2.2.2.2.2.1, a.2.2.2.2.2.2.1, a.2.2.2.2.2.2.2.1⟩ on st nx first s.1) else some (.inl (2, 0)) else some (.inl (2, 0)) else some (.inl (2, 0))
def login_stepped.s3 (k : Nat) (t : S27) (g d : ByteArray) (on : Bool) (st nx first : Int) : Option Stp := if t.f1 = true ∧ first ≠ t.f3 then some (.inl (2, 1)) else login_stepped.s4 k t g d on st nx first
def login_stepped.s2 (k : Nat) (t : S27) (g d : ByteArray) (on : Bool) (st nx first : Int) : Option Stp := if t.f1 = true ∧ st ≠ t.f0 then some (.inl (2, 0)) else login_stepped.s3 k t g d on st nx first
def login_stepped.f (k : Nat) (t : S27) (g h d : ByteArray) : Option Stp :=
  (ipdu_Kind.f h d).bind fun u => if rd1 h d u.1 u.2 = true then (ipdu_Num.f k h d 24).bind fun first => if rd2 h && rd3 h then login_stepped.s2 k t g d (rdOn (bt h 1)) (rdStage (bt h 1)) (rdNext (bt h 1)) first else some (.inl (2, 0)) else some (.inl (2, 0))
structure SD (w0 w : World) (g3 g5 g6 g7 : Nat) (c3 c5 c6 c7 : Array Value) : Prop where
  o3 : w0.heap.size ≤ g3
  o5 : g3 < g5
  o6 : g5 < g6
  o7 : g6 < g7
  b3 : w.heap[g3]? = some (.cells c3 27 (0, 0))
  b5 : w.heap[g5]? = some (.cells c5 35 (0, 0))
  b6 : w.heap[g6]? = some (.cells c6 27 (0, 0))
  b7 : w.heap[g7]? = some (.cells c7 61 (0, 0))
  hb : Below w0.heap.size w0 w
theorem SD.below {w0 w w1 : World} {g3 g5 g6 g7 : Nat} {c3 c5 c6 c7 : Array Value} (h : SD w0 w g3 g5 g6 g7 c3 c5 c6 c7) (hb : Below w.heap.size w w1) : SD w0 w1 g3 g5 g6 g7 c3 c5 c6 c7 :=
  ⟨h.o3, h.o5, h.o6, h.o7, blk_below h.b3 hb, blk_below h.b5 hb, blk_below h.b6 hb, blk_below h.b7 hb, below_step h.hb hb⟩
structure SX (w0 w : World) (g3 g5 g6 g7 g9 : Nat) (c3 c5 c6 c7 c9 : Array Value) : Prop where
  d : SD w0 w g3 g5 g6 g7 c3 c5 c6 c7
  o9 : g7 < g9
  b9 : w.heap[g9]? = some (.cells c9 61 (0, 0))
theorem SX.below {w0 w w1 : World} {g3 g5 g6 g7 g9 : Nat} {c3 c5 c6 c7 c9 : Array Value} (h : SX w0 w g3 g5 g6 g7 g9 c3 c5 c6 c7 c9) (hb : Below w.heap.size w w1) : SX w0 w1 g3 g5 g6 g7 g9 c3 c5 c6 c7 c9 := ⟨h.d.below hb, h.o9, blk_below h.b9 hb⟩
structure SA (w0 w : World) (g3 g5 g6 g7 g9 ga : Nat) (c3 c5 c6 c7 c9 ca : Array Value) : Prop where
  x : SX w0 w g3 g5 g6 g7 g9 c3 c5 c6 c7 c9
  oa : g9 < ga
  ba : w.heap[ga]? = some (.cells ca 24 (0, 0))
theorem SA.below {w0 w w1 : World} {g3 g5 g6 g7 g9 ga : Nat} {c3 c5 c6 c7 c9 ca : Array Value} (h : SA w0 w g3 g5 g6 g7 g9 ga c3 c5 c6 c7 c9 ca) (hb : Below w.heap.size w w1) : SA w0 w1 g3 g5 g6 g7 g9 ga c3 c5 c6 c7 c9 ca := ⟨h.x.below hb, h.oa, blk_below h.ba hb⟩
theorem SX.made {w0 w : World} {g3 g5 g6 g7 g9 : Nat} {c3 c5 c6 c7 c9 : Array Value} (h : SX w0 w g3 g5 g6 g7 g9 c3 c5 c6 c7 c9) (ca : Array Value) : SA w0 (w.alloc (.cells ca 24)) g3 g5 g6 g7 g9 w.heap.size c3 c5 c6 c7 c9 ca :=
  ⟨h.below (below_alloc (Below.refl _ _) _), blk_lt h.b9, heap_alloc_new w _⟩
theorem SA.put3 {w0 w : World} {g3 g5 g6 g7 g9 ga j : Nat} {v : Value} {c3 c5 c6 c7 c9 ca c' : Array Value} (h : SA w0 w g3 g5 g6 g7 g9 ga c3 c5 c6 c7 c9 ca) (e : c3.setIfInBounds j v = c') : SA w0 (w.setCell ⟨g3, j, none⟩ v) g3 g5 g6 g7 g9 ga c' c5 c6 c7 c9 ca := by
  have := h.x.d.o3; have := h.x.d.o5; have := h.x.d.o6; have := h.x.d.o7; have := h.x.o9; have := h.oa
  exact ⟨⟨⟨h.x.d.o3, h.x.d.o5, h.x.d.o6, h.x.d.o7, blk_put h.x.d.b3 j v e, blk_far h.x.d.b5 (p := ⟨g3, j, none⟩) (show g5 ≠ g3 by omega) v, blk_far h.x.d.b6 (p := ⟨g3, j, none⟩) (show g6 ≠ g3 by omega) v, blk_far h.x.d.b7 (p := ⟨g3, j, none⟩) (show g7 ≠ g3 by omega) v, below_set h.x.d.hb (by omega)⟩, h.x.o9, blk_far h.x.b9 (p := ⟨g3, j, none⟩) (show g9 ≠ g3 by omega) v⟩, h.oa, blk_far h.ba (p := ⟨g3, j, none⟩) (show ga ≠ g3 by omega) v⟩
theorem SA.put6 {w0 w : World} {g3 g5 g6 g7 g9 ga j : Nat} {v : Value} {c3 c5 c6 c7 c9 ca c' : Array Value} (h : SA w0 w g3 g5 g6 g7 g9 ga c3 c5 c6 c7 c9 ca) (e : c6.setIfInBounds j v = c') : SA w0 (w.setCell ⟨g6, j, none⟩ v) g3 g5 g6 g7 g9 ga c3 c5 c' c7 c9 ca := by
  have := h.x.d.o3; have := h.x.d.o5; have := h.x.d.o6; have := h.x.d.o7; have := h.x.o9; have := h.oa
  exact ⟨⟨⟨h.x.d.o3, h.x.d.o5, h.x.d.o6, h.x.d.o7, blk_far h.x.d.b3 (p := ⟨g6, j, none⟩) (show g3 ≠ g6 by omega) v, blk_far h.x.d.b5 (p := ⟨g6, j, none⟩) (show g5 ≠ g6 by omega) v, blk_put h.x.d.b6 j v e, blk_far h.x.d.b7 (p := ⟨g6, j, none⟩) (show g7 ≠ g6 by omega) v, below_set h.x.d.hb (by omega)⟩, h.x.o9, blk_far h.x.b9 (p := ⟨g6, j, none⟩) (show g9 ≠ g6 by omega) v⟩, h.oa, blk_far h.ba (p := ⟨g6, j, none⟩) (show ga ≠ g6 by omega) v⟩
theorem SA.put7 {w0 w : World} {g3 g5 g6 g7 g9 ga j : Nat} {v : Value} {c3 c5 c6 c7 c9 ca c' : Array Value} (h : SA w0 w g3 g5 g6 g7 g9 ga c3 c5 c6 c7 c9 ca) (e : c7.setIfInBounds j v = c') : SA w0 (w.setCell ⟨g7, j, none⟩ v) g3 g5 g6 g7 g9 ga c3 c5 c6 c' c9 ca := by
  have := h.x.d.o3; have := h.x.d.o5; have := h.x.d.o6; have := h.x.d.o7; have := h.x.o9; have := h.oa
  exact ⟨⟨⟨h.x.d.o3, h.x.d.o5, h.x.d.o6, h.x.d.o7, blk_far h.x.d.b3 (p := ⟨g7, j, none⟩) (show g3 ≠ g7 by omega) v, blk_far h.x.d.b5 (p := ⟨g7, j, none⟩) (show g5 ≠ g7 by omega) v, blk_far h.x.d.b6 (p := ⟨g7, j, none⟩) (show g6 ≠ g7 by omega) v, blk_put h.x.d.b7 j v e, below_set h.x.d.hb (by omega)⟩, h.x.o9, blk_far h.x.b9 (p := ⟨g7, j, none⟩) (show g9 ≠ g7 by omega) v⟩, h.oa, blk_far h.ba (p := ⟨g7, j, none⟩) (show ga ≠ g7 by omega) v⟩
def login_stepped.T13 : Bool × List (List Nat × List Nat) := (true, [([], []), ([], []), ([1], [1]), ([], []), ([3], [3]), ([], []), ([5], [5]), ([0, 5, 6], []), ([7, 0, 6, 0, 5, 6], [0, 7]), ([0, 1, 2, 5, 6, 7, 8], []), ([9, 2, 8, 0, 1, 2, 5, 6, 7, 8], [2, 9]), ([0, 1, 2, 3, 4, 5, 6, 7, 8, 9, 10], []), ([11, 4, 10, 0, 1, 2, 3, 4, 5, 6, 7, 8, 9, 10], [4, 11])])
def login_stepped.B13 : List Nat := [0, 0, 2, 0, 8, 0, 32, 97, 225, 487, 999, 2047, 4095]
theorem login_stepped.tab13 : rtab .any (opsOf Tryz.f24 13) = login_stepped.T13 := by kernel_rfl
theorem login_stepped.bits13 : waitsOk login_stepped.T13.2 login_stepped.B13 = true := by kernel_rfl
def login_stepped.T16 : Bool × List (List Nat × List Nat) := (true, [([], []), ([], []), ([], []), ([0, 0], [0]), ([1, 3, 0, 1, 3], [1]), ([2, 4, 0, 1, 2, 3, 4], [2])])
def login_stepped.B16 : List Nat := [0, 0, 0, 1, 11, 31]
theorem login_stepped.tab16 : rtab .any (opsOf Tryz.f24 16) = login_stepped.T16 := by kernel_rfl
theorem login_stepped.bits16 : waitsOk login_stepped.T16.2 login_stepped.B16 = true := by kernel_rfl
def H13 (ga g9 : Nat) (a0 a1 a2 a3 : Bool) (a4 a5 : Int) (a6 a7 : ByteArray) (st first : Int) (w : World) : Prop := w.cell? ⟨ga, 0, none⟩ = some (.bool a0) ∧ w.cell? ⟨ga, 1, none⟩ = some (.bool a1) ∧ w.cell? ⟨ga, 2, none⟩ = some (.bool a2) ∧ w.cell? ⟨ga, 3, none⟩ = some (.bool a3) ∧ w.cell? ⟨ga, 4, none⟩ = some (.int .i64 a4) ∧ w.cell? ⟨ga, 5, none⟩ = some (.int .i64 a5) ∧ w.cell? ⟨ga, 6, none⟩ = some (.string a6) ∧ w.cell? ⟨ga, 7, none⟩ = some (.string a7) ∧ w.cell? ⟨g9, 1, none⟩ = some (.int .i64 st) ∧ w.cell? ⟨g9, 3, none⟩ = some (.int .u32 first)
theorem H13.far {ga g9 : Nat} {a0 a1 a2 a3 : Bool} {a4 a5 : Int} {a6 a7 : ByteArray} {st first : Int} {w : World} {gz j : Nat} (h : H13 ga g9 a0 a1 a2 a3 a4 a5 a6 a7 st first w) (n0 : ga ≠ gz) (n1 : g9 ≠ gz) (v : Value) : H13 ga g9 a0 a1 a2 a3 a4 a5 a6 a7 st first (w.setCell ⟨gz, j, none⟩ v) := by
  obtain ⟨h0, h1, h2, h3, h4, h5, h6, h7, h8, h9⟩ := h
  exact ⟨(cell_far (p := ⟨gz, j, none⟩) n0 v).trans h0, (cell_far (p := ⟨gz, j, none⟩) n0 v).trans h1, (cell_far (p := ⟨gz, j, none⟩) n0 v).trans h2, (cell_far (p := ⟨gz, j, none⟩) n0 v).trans h3, (cell_far (p := ⟨gz, j, none⟩) n0 v).trans h4, (cell_far (p := ⟨gz, j, none⟩) n0 v).trans h5, (cell_far (p := ⟨gz, j, none⟩) n0 v).trans h6, (cell_far (p := ⟨gz, j, none⟩) n0 v).trans h7, (cell_far (p := ⟨gz, j, none⟩) n1 v).trans h8, (cell_far (p := ⟨gz, j, none⟩) n1 v).trans h9⟩
def H16 (g3 g9 : Nat) (s0 s4 : Int) (a0 a1 a2 a3 : Bool) (a4 a5 : Int) (a6 a7 : ByteArray) (on : Bool) (st nx first : Int) (w : World) : Prop := w.cell? ⟨g3, 0, none⟩ = some (.int .i64 s0) ∧ w.cell? ⟨g3, 1, none⟩ = some (.bool true) ∧ w.cell? ⟨g3, 2, none⟩ = some (.bool a0) ∧ w.cell? ⟨g3, 3, none⟩ = some (.bool a1) ∧ w.cell? ⟨g3, 4, none⟩ = some (.bool a2) ∧ w.cell? ⟨g3, 5, none⟩ = some (.bool a3) ∧ w.cell? ⟨g3, 6, none⟩ = some (.int .i64 a4) ∧ w.cell? ⟨g3, 7, none⟩ = some (.int .i64 a5) ∧ w.cell? ⟨g3, 8, none⟩ = some (.string a6) ∧ w.cell? ⟨g3, 9, none⟩ = some (.string a7) ∧ w.cell? ⟨g3, 10, none⟩ = some (.int .u32 first) ∧ w.cell? ⟨g3, 11, none⟩ = some (.int .u32 s4) ∧ w.cell? ⟨g9, 0, none⟩ = some (.bool on) ∧ w.cell? ⟨g9, 1, none⟩ = some (.int .i64 st) ∧ w.cell? ⟨g9, 2, none⟩ = some (.int .i64 nx) ∧ w.cell? ⟨g9, 3, none⟩ = some (.int .u32 first)
theorem H16.far {g3 g9 : Nat} {s0 s4 : Int} {a0 a1 a2 a3 : Bool} {a4 a5 : Int} {a6 a7 : ByteArray} {on : Bool} {st nx first : Int} {w : World} {gz j : Nat} (h : H16 g3 g9 s0 s4 a0 a1 a2 a3 a4 a5 a6 a7 on st nx first w) (n0 : g3 ≠ gz) (n1 : g9 ≠ gz) (v : Value) : H16 g3 g9 s0 s4 a0 a1 a2 a3 a4 a5 a6 a7 on st nx first (w.setCell ⟨gz, j, none⟩ v) := by
  obtain ⟨h0, h1, h2, h3, h4, h5, h6, h7, h8, h9, h10, h11, h12, h13, h14, h15⟩ := h
  exact ⟨(cell_far (p := ⟨gz, j, none⟩) n0 v).trans h0, (cell_far (p := ⟨gz, j, none⟩) n0 v).trans h1, (cell_far (p := ⟨gz, j, none⟩) n0 v).trans h2, (cell_far (p := ⟨gz, j, none⟩) n0 v).trans h3, (cell_far (p := ⟨gz, j, none⟩) n0 v).trans h4, (cell_far (p := ⟨gz, j, none⟩) n0 v).trans h5, (cell_far (p := ⟨gz, j, none⟩) n0 v).trans h6, (cell_far (p := ⟨gz, j, none⟩) n0 v).trans h7, (cell_far (p := ⟨gz, j, none⟩) n0 v).trans h8, (cell_far (p := ⟨gz, j, none⟩) n0 v).trans h9, (cell_far (p := ⟨gz, j, none⟩) n0 v).trans h10, (cell_far (p := ⟨gz, j, none⟩) n0 v).trans h11, (cell_far (p := ⟨gz, j, none⟩) n1 v).trans h12, (cell_far (p := ⟨gz, j, none⟩) n1 v).trans h13, (cell_far (p := ⟨gz, j, none⟩) n1 v).trans h14, (cell_far (p := ⟨gz, j, none⟩) n1 v).trans h15⟩
theorem results_cct {P : Program} {fn : Func} {p q u : Tmp} {ty tz : TypeId} (h : fn.results = #[.cell p ty, .cell q tz, .tmp u]) (tmps : Array Value) (w : World) (g g' : Nat) (tb tb' : TypeId) (cs cs' : Array Value) (fr fr' : Nat × Nat) (d d' : TypeDesc)
    (hp : tmps.getD p undef = .pointer (some ⟨g, 0, none⟩)) (hg : w.heap[g]? = some (.cells cs tb fr)) (hu : P.underlying ty = some d) (hd : (match d with | .struct _ | .array _ _ => true | _ => false) = true) (hi : (P.info? ty).map (·.size) = some cs.size)
    (hq : tmps.getD q undef = .pointer (some ⟨g', 0, none⟩)) (hg' : w.heap[g']? = some (.cells cs' tb' fr')) (hu' : P.underlying tz = some d') (hd' : (match d' with | .struct _ | .array _ _ => true | _ => false) = true) (hi' : (P.info? tz).map (·.size) = some cs'.size) :
    (results fn tmps).run P w = .ok (.tuple #[.agg cs, .agg cs', tmps.getD u undef]) w := by
  have hp' : tmps[p]?.getD undef = .pointer (some ⟨g, 0, none⟩) := by simpa using hp
  have hq' : tmps[q]?.getD undef = .pointer (some ⟨g', 0, none⟩) := by simpa using hq
  simp [results, h, hp', hq', asAddr, run_loadVar_row w g tb ty cs fr d hg hu hd hi, run_loadVar_row w g' tb' tz cs' fr' d' hg' hu' hd' hi']
set_option maxHeartbeats 4000000 in
set_option maxRecDepth 100000 in
theorem login_stepped.w13 (k : Nat) (t : S27) (g h d : ByteArray) (r : Stp) (on : Bool) (st nx first : Int) (a0 a1 a2 a3 : Bool) (a4 a5 : Int) (a6 a7 s : ByteArray) (s0 : Int) (c10 c11 c13 c15 c16 c17 c18 c19 c20 c21 c22 c23 c24 c25 c26 c27 c28 c29 c30 c31 c32 c33 c34 c35 c36 c37 c38 c39 c40 c41 c42 c43 c44 c45 c46 c47 c48 c49 c50 c51 c52 c53 c54 c55 c56 c57 c58 c59 c60 c61 c62 c63 c64 c65 c66 c67 c68 c69 c70 c71 c72 c73 c74 c75 c76 c77 c78 c79 c80 c81 c82 c83 c84 c85 c86 c87 c88 c89 c90 c91 c92 c93 c94 c95 c96 c97 c98 c99 c100 c101 : Value) (g3 g5 g6 g7 g9 ga : Nat) (w0 w : World) (HG : Aside0 (Glob w0)) (D : SA w0 w g3 g5 g6 g7 g9 ga #[.int .i64 s0, .bool true, .bool a0, .bool a1, .bool a2, .bool a3, .int .i64 a4, .int .i64 a5, .string a6, .string a7, .int .u32 first, .int .u32 t.f4] #[.string h, .string d] #[.int .i64 0, .bool false, .bool false, .bool false, .bool false, .bool false, .int .i64 0, .int .i64 0, .string (⟨#[]⟩ : ByteArray), .string (⟨#[]⟩ : ByteArray), .int .u32 0, .int .u32 0] #[.bool false, .int .i64 0, .int .i64 0, .int .u32 0] #[.bool on, .int .i64 st, .int .i64 nx, .int .u32 first] #[.bool a0, .bool a1, .bool a2, .bool a3, .int .i64 a4, .int .i64 a5, .string a6, .string a7]) (hf : (.inr (⟨s0, true, ⟨a0, a1, a2, a3, a4, a5, a6, a7⟩, first, t.f4⟩, (on, st, nx, first), s) : Stp) = r) :
    Code.wp Tryz.prog (Hand.dropSeq 13 ((Tryz.f24.body).getD .skip)) (bodyPost Tryz.prog Tryz.f24 fun e_ w' => e_ = stE r ∧ Below w0.heap.size w0 w') ⟨#[.agg #[.int .i64 t.f0, .bool t.f1, .bool t.f2.f0, .bool t.f2.f1, .bool t.f2.f2, .bool t.f2.f3, .int .i64 t.f2.f4, .int .i64 t.f2.f5, .string t.f2.f6, .string t.f2.f7, .int .u32 t.f3, .int .u32 t.f4], .string g, .agg #[.string h, .string d], .pointer (some ⟨g3, 0, none⟩), undef, .pointer (some ⟨g5, 0, none⟩), .pointer (some ⟨g6, 0, none⟩), .pointer (some ⟨g7, 0, none⟩), .string (⟨#[]⟩ : ByteArray), .pointer (some ⟨g9, 0, none⟩), c10, c11, .pointer (some ⟨ga, 0, none⟩), c13, .string s, c15, c16, c17, c18, c19, c20, c21, c22, c23, c24, c25, c26, c27, c28, c29, c30, c31, c32, c33, c34, c35, c36, c37, c38, c39, c40, c41, c42, c43, c44, c45, c46, c47, c48, c49, c50, c51, c52, c53, c54, c55, c56, c57, c58, c59, c60, c61, c62, c63, c64, c65, c66, c67, c68, c69, c70, c71, c72, c73, c74, c75, c76, c77, c78, c79, c80, c81, c82, c83, c84, c85, c86, c87, c88, c89, c90, c91, c92, c93, c94, c95, c96, c97, c98, c99, c100, c101, undef, undef, undef], []⟩ w := by
  have hu1 := Tryz.underlying35
  have hu2 := Tryz.underlying61
  have hu3 := Tryz.underlying27
  have hu4 := Tryz.underlying24
  have n1 : g3 < ga ∧ g3 < g9 ∧ g6 < g9 ∧ g7 < g9 ∧ g3 < g6 ∧ g3 < g7 ∧ g6 < g7 := by have := D.x.d.o5; have := D.x.d.o6; have := D.x.d.o7; have := D.x.o9; have := D.oa; omega
  have m1 : g3 ≠ g6 := Nat.ne_of_lt n1.2.2.2.2.1
  have m2 : g9 ≠ g6 := Ne.symm (Nat.ne_of_lt n1.2.2.1)
  have m3 : g3 ≠ g7 := Nat.ne_of_lt n1.2.2.2.2.2.1
  have m4 : g9 ≠ g7 := Ne.symm (Nat.ne_of_lt n1.2.2.2.1)
  clear n1
  subst hf
  refine Hand.wp_part 13 (by kernel_rfl) (fun K hK => ?_)
  conv => arg 2; whnf
  have n0_ := D.below (below_drew1 (Below.refl _ _))
  clear D
  have D := n0_
  clear n0_
  refine start_ (n := 6) (S := fun w' => H16 g3 g9 s0 t.f4 a0 a1 a2 a3 a4 a5 a6 a7 on st nx first w') (ds := []) #[false, false, false, false, false, false] (by kernel_rfl) rfl rfl (⟨(blk_cell D.x.d.b3 0).trans rfl, (blk_cell D.x.d.b3 1).trans rfl, (blk_cell D.x.d.b3 2).trans rfl, (blk_cell D.x.d.b3 3).trans rfl, (blk_cell D.x.d.b3 4).trans rfl, (blk_cell D.x.d.b3 5).trans rfl, (blk_cell D.x.d.b3 6).trans rfl, (blk_cell D.x.d.b3 7).trans rfl, (blk_cell D.x.d.b3 8).trans rfl, (blk_cell D.x.d.b3 9).trans rfl, (blk_cell D.x.d.b3 10).trans rfl, (blk_cell D.x.d.b3 11).trans rfl, (blk_cell D.x.b9 0).trans rfl, (blk_cell D.x.b9 1).trans rfl, (blk_cell D.x.b9 2).trans rfl, (blk_cell D.x.b9 3).trans rfl⟩) (fun hHeld => ?_)
  generalize w.drew = w1 at D hHeld ⊢
  refine with_tabW login_stepped.tab16 login_stepped.bits16 (fun HT_ HW_ => ?_)
  refine pon_ 2 (some 104) (dB 6 4) HT_.out ?_
  refine ptk_ 0 (some 102) (dB 6 5) HT_.out HW_.out hHeld ?_
  refine ptk_ 1 (some 103) (dB 6 7) HT_.out HW_.out hHeld ?_
  have hg60 : w1.cell? ⟨g6, 0, none⟩ = some (.int .i64 0) := (blk_cell D.x.d.b6 0).trans rfl
  have hg61 : w1.cell? ⟨g6, 1, none⟩ = some (.bool false) := (blk_cell D.x.d.b6 1).trans rfl
  have hg62 : w1.cell? ⟨g6, 2, none⟩ = some (.bool false) := (blk_cell D.x.d.b6 2).trans rfl
  have hg63 : w1.cell? ⟨g6, 3, none⟩ = some (.bool false) := (blk_cell D.x.d.b6 3).trans rfl
  have hg64 : w1.cell? ⟨g6, 4, none⟩ = some (.bool false) := (blk_cell D.x.d.b6 4).trans rfl
  have hg65 : w1.cell? ⟨g6, 5, none⟩ = some (.bool false) := (blk_cell D.x.d.b6 5).trans rfl
  have hg66 : w1.cell? ⟨g6, 6, none⟩ = some (.int .i64 0) := (blk_cell D.x.d.b6 6).trans rfl
  have hg67 : w1.cell? ⟨g6, 7, none⟩ = some (.int .i64 0) := (blk_cell D.x.d.b6 7).trans rfl
  have hg68 : w1.cell? ⟨g6, 8, none⟩ = some (.string (⟨#[]⟩ : ByteArray)) := (blk_cell D.x.d.b6 8).trans rfl
  have hg69 : w1.cell? ⟨g6, 9, none⟩ = some (.string (⟨#[]⟩ : ByteArray)) := (blk_cell D.x.d.b6 9).trans rfl
  have hg610 : w1.cell? ⟨g6, 10, none⟩ = some (.int .u32 0) := (blk_cell D.x.d.b6 10).trans rfl
  have hg611 : w1.cell? ⟨g6, 11, none⟩ = some (.int .u32 0) := (blk_cell D.x.d.b6 11).trans rfl
  have fg60 := blk_frozen D.x.d.b6 0
  have fg61 := blk_frozen D.x.d.b6 1
  have fg62 := blk_frozen D.x.d.b6 2
  have fg63 := blk_frozen D.x.d.b6 3
  have fg64 := blk_frozen D.x.d.b6 4
  have fg65 := blk_frozen D.x.d.b6 5
  have fg66 := blk_frozen D.x.d.b6 6
  have fg67 := blk_frozen D.x.d.b6 7
  have fg68 := blk_frozen D.x.d.b6 8
  have fg69 := blk_frozen D.x.d.b6 9
  have fg610 := blk_frozen D.x.d.b6 10
  have fg611 := blk_frozen D.x.d.b6 11
  refine one_ (i := 3) (N := none) (dB 6 15) rfl rfl (one_of HT_.out (by kernel_rfl)) (by decide) (fun K hK => ?_)
  refine skip_ (w1 := ?_) (by rfl) rfl ?_ ?_
  rotate_left
  ·go_simp
   rfl
  refine hK.out _ _ (((((((((((((hHeld.far m1 m2 _).far m1 m2 _).far m1 m2 _).far m1 m2 _).far m1 m2 _).far m1 m2 _).far m1 m2 _).far m1 m2 _).far m1 m2 _).far m1 m2 _).far m1 m2 _).far m1 m2 _)) (fun hHeld => ?_)
  clear hK K
  clear hg60 fg60 hg61 fg61 hg62 fg62 hg63 fg63 hg64 fg64 hg65 fg65 hg66 fg66 hg67 fg67 hg68 fg68 hg69 fg69 hg610 fg610 hg611 fg611
  have D2_ : SA w0 ((((((((((((w1.setCell ⟨g6, 0, none⟩ (.int .i64 s0)).setCell ⟨g6, 1, none⟩ (.bool true)).setCell ⟨g6, 2, none⟩ (.bool a0)).setCell ⟨g6, 3, none⟩ (.bool a1)).setCell ⟨g6, 4, none⟩ (.bool a2)).setCell ⟨g6, 5, none⟩ (.bool a3)).setCell ⟨g6, 6, none⟩ (.int .i64 a4)).setCell ⟨g6, 7, none⟩ (.int .i64 a5)).setCell ⟨g6, 8, none⟩ (.string a6)).setCell ⟨g6, 9, none⟩ (.string a7)).setCell ⟨g6, 10, none⟩ (.int .u32 first)).setCell ⟨g6, 11, none⟩ (.int .u32 t.f4)) g3 g5 g6 g7 g9 ga #[.int .i64 s0, .bool true, .bool a0, .bool a1, .bool a2, .bool a3, .int .i64 a4, .int .i64 a5, .string a6, .string a7, .int .u32 first, .int .u32 t.f4] #[.string h, .string d] #[.int .i64 s0, .bool true, .bool a0, .bool a1, .bool a2, .bool a3, .int .i64 a4, .int .i64 a5, .string a6, .string a7, .int .u32 first, .int .u32 t.f4] #[.bool false, .int .i64 0, .int .i64 0, .int .u32 0] #[.bool on, .int .i64 st, .int .i64 nx, .int .u32 first] #[.bool a0, .bool a1, .bool a2, .bool a3, .int .i64 a4, .int .i64 a5, .string a6, .string a7] := by
    refine SA.put6 (c6 := #[.int .i64 s0, .bool true, .bool a0, .bool a1, .bool a2, .bool a3, .int .i64 a4, .int .i64 a5, .string a6, .string a7, .int .u32 first, .int .u32 0]) ?_ rfl
    refine SA.put6 (c6 := #[.int .i64 s0, .bool true, .bool a0, .bool a1, .bool a2, .bool a3, .int .i64 a4, .int .i64 a5, .string a6, .string a7, .int .u32 0, .int .u32 0]) ?_ rfl
    refine SA.put6 (c6 := #[.int .i64 s0, .bool true, .bool a0, .bool a1, .bool a2, .bool a3, .int .i64 a4, .int .i64 a5, .string a6, .string (⟨#[]⟩ : ByteArray), .int .u32 0, .int .u32 0]) ?_ rfl
    refine SA.put6 (c6 := #[.int .i64 s0, .bool true, .bool a0, .bool a1, .bool a2, .bool a3, .int .i64 a4, .int .i64 a5, .string (⟨#[]⟩ : ByteArray), .string (⟨#[]⟩ : ByteArray), .int .u32 0, .int .u32 0]) ?_ rfl
    refine SA.put6 (c6 := #[.int .i64 s0, .bool true, .bool a0, .bool a1, .bool a2, .bool a3, .int .i64 a4, .int .i64 0, .string (⟨#[]⟩ : ByteArray), .string (⟨#[]⟩ : ByteArray), .int .u32 0, .int .u32 0]) ?_ rfl
    refine SA.put6 (c6 := #[.int .i64 s0, .bool true, .bool a0, .bool a1, .bool a2, .bool a3, .int .i64 0, .int .i64 0, .string (⟨#[]⟩ : ByteArray), .string (⟨#[]⟩ : ByteArray), .int .u32 0, .int .u32 0]) ?_ rfl
    refine SA.put6 (c6 := #[.int .i64 s0, .bool true, .bool a0, .bool a1, .bool a2, .bool false, .int .i64 0, .int .i64 0, .string (⟨#[]⟩ : ByteArray), .string (⟨#[]⟩ : ByteArray), .int .u32 0, .int .u32 0]) ?_ rfl
    refine SA.put6 (c6 := #[.int .i64 s0, .bool true, .bool a0, .bool a1, .bool false, .bool false, .int .i64 0, .int .i64 0, .string (⟨#[]⟩ : ByteArray), .string (⟨#[]⟩ : ByteArray), .int .u32 0, .int .u32 0]) ?_ rfl
    refine SA.put6 (c6 := #[.int .i64 s0, .bool true, .bool a0, .bool false, .bool false, .bool false, .int .i64 0, .int .i64 0, .string (⟨#[]⟩ : ByteArray), .string (⟨#[]⟩ : ByteArray), .int .u32 0, .int .u32 0]) ?_ rfl
    refine SA.put6 (c6 := #[.int .i64 s0, .bool true, .bool false, .bool false, .bool false, .bool false, .int .i64 0, .int .i64 0, .string (⟨#[]⟩ : ByteArray), .string (⟨#[]⟩ : ByteArray), .int .u32 0, .int .u32 0]) ?_ rfl
    refine SA.put6 (c6 := #[.int .i64 s0, .bool false, .bool false, .bool false, .bool false, .bool false, .int .i64 0, .int .i64 0, .string (⟨#[]⟩ : ByteArray), .string (⟨#[]⟩ : ByteArray), .int .u32 0, .int .u32 0]) ?_ rfl
    refine SA.put6 (c6 := #[.int .i64 0, .bool false, .bool false, .bool false, .bool false, .bool false, .int .i64 0, .int .i64 0, .string (⟨#[]⟩ : ByteArray), .string (⟨#[]⟩ : ByteArray), .int .u32 0, .int .u32 0]) ?_ rfl
    exact D
  generalize ((((((((((((w1.setCell ⟨g6, 0, none⟩ (.int .i64 s0)).setCell ⟨g6, 1, none⟩ (.bool true)).setCell ⟨g6, 2, none⟩ (.bool a0)).setCell ⟨g6, 3, none⟩ (.bool a1)).setCell ⟨g6, 4, none⟩ (.bool a2)).setCell ⟨g6, 5, none⟩ (.bool a3)).setCell ⟨g6, 6, none⟩ (.int .i64 a4)).setCell ⟨g6, 7, none⟩ (.int .i64 a5)).setCell ⟨g6, 8, none⟩ (.string a6)).setCell ⟨g6, 9, none⟩ (.string a7)).setCell ⟨g6, 10, none⟩ (.int .u32 first)).setCell ⟨g6, 11, none⟩ (.int .u32 t.f4)) = w2 at D2_ hHeld ⊢
  have hg70 : w2.cell? ⟨g7, 0, none⟩ = some (.bool false) := (blk_cell D2_.x.d.b7 0).trans rfl
  have hg71 : w2.cell? ⟨g7, 1, none⟩ = some (.int .i64 0) := (blk_cell D2_.x.d.b7 1).trans rfl
  have hg72 : w2.cell? ⟨g7, 2, none⟩ = some (.int .i64 0) := (blk_cell D2_.x.d.b7 2).trans rfl
  have hg73 : w2.cell? ⟨g7, 3, none⟩ = some (.int .u32 0) := (blk_cell D2_.x.d.b7 3).trans rfl
  have fg70 := blk_frozen D2_.x.d.b7 0
  have fg71 := blk_frozen D2_.x.d.b7 1
  have fg72 := blk_frozen D2_.x.d.b7 2
  have fg73 := blk_frozen D2_.x.d.b7 3
  refine one_ (i := 4) (N := none) (dB 6 31) rfl rfl (one_of HT_.out (by kernel_rfl)) (by decide) (fun K hK => ?_)
  refine skip_ (w1 := ?_) (by rfl) rfl ?_ ?_
  rotate_left
  ·go_simp
   rfl
  refine hK.out _ _ (((((hHeld.far m3 m4 _).far m3 m4 _).far m3 m4 _).far m3 m4 _)) (fun hHeld => ?_)
  clear hK K
  clear hg70 fg70 hg71 fg71 hg72 fg72 hg73 fg73
  have D3_ : SA w0 ((((w2.setCell ⟨g7, 0, none⟩ (.bool on)).setCell ⟨g7, 1, none⟩ (.int .i64 st)).setCell ⟨g7, 2, none⟩ (.int .i64 nx)).setCell ⟨g7, 3, none⟩ (.int .u32 first)) g3 g5 g6 g7 g9 ga #[.int .i64 s0, .bool true, .bool a0, .bool a1, .bool a2, .bool a3, .int .i64 a4, .int .i64 a5, .string a6, .string a7, .int .u32 first, .int .u32 t.f4] #[.string h, .string d] #[.int .i64 s0, .bool true, .bool a0, .bool a1, .bool a2, .bool a3, .int .i64 a4, .int .i64 a5, .string a6, .string a7, .int .u32 first, .int .u32 t.f4] #[.bool on, .int .i64 st, .int .i64 nx, .int .u32 first] #[.bool on, .int .i64 st, .int .i64 nx, .int .u32 first] #[.bool a0, .bool a1, .bool a2, .bool a3, .int .i64 a4, .int .i64 a5, .string a6, .string a7] := by
    refine SA.put7 (c7 := #[.bool on, .int .i64 st, .int .i64 nx, .int .u32 0]) ?_ rfl
    refine SA.put7 (c7 := #[.bool on, .int .i64 st, .int .i64 0, .int .u32 0]) ?_ rfl
    refine SA.put7 (c7 := #[.bool on, .int .i64 0, .int .i64 0, .int .u32 0]) ?_ rfl
    refine SA.put7 (c7 := #[.bool false, .int .i64 0, .int .i64 0, .int .u32 0]) ?_ rfl
    exact D2_
  generalize ((((w2.setCell ⟨g7, 0, none⟩ (.bool on)).setCell ⟨g7, 1, none⟩ (.int .i64 st)).setCell ⟨g7, 2, none⟩ (.int .i64 nx)).setCell ⟨g7, 3, none⟩ (.int .u32 first)) = w3 at D3_ hHeld ⊢
  refine pon_ 5 (some 8) (dB 6 63) HT_.out ?_
  refine done_ (done_of HT_.out (by kernel_rfl)) ?_
  go_wp2
  conv => arg 2; whnf
  go_wp2
  refine bodyPost_ret (results_cct rfl _ _ g6 g7 27 61 #[.int .i64 s0, .bool true, .bool a0, .bool a1, .bool a2, .bool a3, .int .i64 a4, .int .i64 a5, .string a6, .string a7, .int .u32 first, .int .u32 t.f4] #[.bool on, .int .i64 st, .int .i64 nx, .int .u32 first] (0, 0) (0, 0) _ _ rfl D3_.x.d.b6 hu3 rfl (by kernel_rfl) rfl D3_.x.d.b7 hu2 rfl (by kernel_rfl)) rfl ?_
  exact ⟨rfl, D3_.x.d.hb⟩
set_option maxHeartbeats 4000000 in
set_option maxRecDepth 100000 in
theorem login_stepped.w12 (k : Nat) (t : S27) (g h d : ByteArray) (r : Stp) (on : Bool) (st nx first : Int) (a0 a1 a2 a3 : Bool) (a4 a5 : Int) (a6 a7 s : ByteArray) (c10 c11 c13 c15 c16 c17 c18 c19 c20 c21 c22 c23 c24 c25 c26 c27 c28 c29 c30 c31 c32 c33 c34 c35 c36 c37 c38 c39 c40 c41 c42 c43 c44 c45 c46 c47 c48 c49 c50 c51 c52 c53 c54 c55 c56 c57 c58 c59 c60 c61 c62 c63 c64 c65 c66 c67 c68 c69 c70 c71 c72 c73 c74 c75 c76 c77 c78 c79 c80 c81 c82 c83 c84 c85 c86 c87 c88 c89 c90 c91 c92 c93 c94 c95 c96 : Value) (g3 g5 g6 g7 g9 ga : Nat) (w0 w : World) (HG : Aside0 (Glob w0)) (D : SA w0 w g3 g5 g6 g7 g9 ga #[.int .i64 st, .bool true, .bool a0, .bool a1, .bool a2, .bool a3, .int .i64 a4, .int .i64 a5, .string a6, .string a7, .int .u32 first, .int .u32 t.f4] #[.string h, .string d] #[.int .i64 0, .bool false, .bool false, .bool false, .bool false, .bool false, .int .i64 0, .int .i64 0, .string (⟨#[]⟩ : ByteArray), .string (⟨#[]⟩ : ByteArray), .int .u32 0, .int .u32 0] #[.bool false, .int .i64 0, .int .i64 0, .int .u32 0] #[.bool on, .int .i64 st, .int .i64 nx, .int .u32 first] #[.bool a0, .bool a1, .bool a2, .bool a3, .int .i64 a4, .int .i64 a5, .string a6, .string a7]) (hf : login_stepped.s11 t ⟨a0, a1, a2, a3, a4, a5, a6, a7⟩ on st nx first s = r) :
    Code.wp Tryz.prog (Hand.dropSeq 12 ((Tryz.f24.body).getD .skip)) (bodyPost Tryz.prog Tryz.f24 fun e_ w' => e_ = stE r ∧ Below w0.heap.size w0 w') ⟨#[.agg #[.int .i64 t.f0, .bool t.f1, .bool t.f2.f0, .bool t.f2.f1, .bool t.f2.f2, .bool t.f2.f3, .int .i64 t.f2.f4, .int .i64 t.f2.f5, .string t.f2.f6, .string t.f2.f7, .int .u32 t.f3, .int .u32 t.f4], .string g, .agg #[.string h, .string d], .pointer (some ⟨g3, 0, none⟩), undef, .pointer (some ⟨g5, 0, none⟩), .pointer (some ⟨g6, 0, none⟩), .pointer (some ⟨g7, 0, none⟩), .string (⟨#[]⟩ : ByteArray), .pointer (some ⟨g9, 0, none⟩), c10, c11, .pointer (some ⟨ga, 0, none⟩), c13, .string s, c15, c16, c17, c18, c19, c20, c21, c22, c23, c24, c25, c26, c27, c28, c29, c30, c31, c32, c33, c34, c35, c36, c37, c38, c39, c40, c41, c42, c43, c44, c45, c46, c47, c48, c49, c50, c51, c52, c53, c54, c55, c56, c57, c58, c59, c60, c61, c62, c63, c64, c65, c66, c67, c68, c69, c70, c71, c72, c73, c74, c75, c76, c77, c78, c79, c80, c81, c82, c83, c84, c85, c86, c87, c88, c89, c90, c91, c92, c93, c94, c95, c96, undef, undef, undef, undef, undef, undef, undef, undef], []⟩ w := by
  have hu1 := Tryz.underlying35
  have hu2 := Tryz.underlying61
  have hu3 := Tryz.underlying27
  have hu4 := Tryz.underlying24
  cases on with
  | false =>
    have hx0 : w.cell? ⟨g9, 0, none⟩ = some (.bool false) := (blk_cell D.x.b9 0).trans rfl
    refine Hand.wp_part 12 (by kernel_rfl) (fun K hK => ?_)
    conv => arg 2; whnf
    go_wp2
    exact login_stepped.w13 k t g h d r false st nx first a0 a1 a2 a3 a4 a5 a6 a7 s st _ _ _ _ _ _ _ _ _ _ _ _ _ _ _ _ _ _ _ _ _ _ _ _ _ _ _ _ _ _ _ _ _ _ _ _ _ _ _ _ _ _ _ _ _ _ _ _ _ _ _ _ _ _ _ _ _ _ _ _ _ _ _ _ _ _ _ _ _ _ _ _ _ _ _ _ _ _ _ _ _ _ _ _ _ _ _ _ _ _ g3 g5 g6 g7 g9 ga w0 w HG D (by unfold login_stepped.s11 at hf; rw [if_neg (by decide)] at hf; exact hf)
  | true =>
    have hx0 : w.cell? ⟨g9, 0, none⟩ = some (.bool true) := (blk_cell D.x.b9 0).trans rfl
    have hx2 : w.cell? ⟨g9, 2, none⟩ = some (.int .i64 nx) := (blk_cell D.x.b9 2).trans rfl
    have ht0 : w.cell? ⟨g3, 0, none⟩ = some (.int .i64 st) := (blk_cell D.x.d.b3 0).trans rfl
    have hf0 := blk_frozen D.x.d.b3 0
    refine Hand.wp_part 12 (by kernel_rfl) (fun K hK => ?_)
    conv => arg 2; whnf
    go_wp2
    exact login_stepped.w13 k t g h d r true st nx first a0 a1 a2 a3 a4 a5 a6 a7 s nx _ _ _ _ _ _ _ _ _ _ _ _ _ _ _ _ _ _ _ _ _ _ _ _ _ _ _ _ _ _ _ _ _ _ _ _ _ _ _ _ _ _ _ _ _ _ _ _ _ _ _ _ _ _ _ _ _ _ _ _ _ _ _ _ _ _ _ _ _ _ _ _ _ _ _ _ _ _ _ _ _ _ _ _ _ _ _ _ _ _ g3 g5 g6 g7 g9 ga w0 _ HG (D.put3 rfl) (by unfold login_stepped.s11 at hf; rw [if_pos rfl] at hf; exact hf)
set_option maxHeartbeats 4000000 in
set_option maxRecDepth 100000 in
theorem login_stepped.w11 (k : Nat) (t : S27) (g h d : ByteArray) (r : Stp) (on : Bool) (st nx first : Int) (a0 a1 a2 a3 : Bool) (a4 a5 : Int) (a6 a7 s : ByteArray) (c10 c11 c13 c15 c16 c17 c18 c19 c20 c21 c22 c23 c24 c25 c26 c27 c28 c29 c30 c31 c32 c33 c34 c35 c36 c37 c38 c39 c40 c41 c42 c43 c44 c45 c46 c47 c48 c49 c50 c51 c52 c53 c54 c55 c56 c57 c58 c59 c60 c61 c62 c63 c64 c65 c66 c67 c68 c69 c70 c71 c72 c73 c74 c75 c76 c77 c78 c79 c80 c81 c82 c83 c84 c85 c86 c87 : Value) (g3 g5 g6 g7 g9 ga : Nat) (w0 w : World) (HG : Aside0 (Glob w0)) (D : SA w0 w g3 g5 g6 g7 g9 ga #[.int .i64 t.f0, .bool t.f1, .bool t.f2.f0, .bool t.f2.f1, .bool t.f2.f2, .bool t.f2.f3, .int .i64 t.f2.f4, .int .i64 t.f2.f5, .string t.f2.f6, .string t.f2.f7, .int .u32 t.f3, .int .u32 t.f4] #[.string h, .string d] #[.int .i64 0, .bool false, .bool false, .bool false, .bool false, .bool false, .int .i64 0, .int .i64 0, .string (⟨#[]⟩ : ByteArray), .string (⟨#[]⟩ : ByteArray), .int .u32 0, .int .u32 0] #[.bool false, .int .i64 0, .int .i64 0, .int .u32 0] #[.bool on, .int .i64 st, .int .i64 nx, .int .u32 first] #[.bool a0, .bool a1, .bool a2, .bool a3, .int .i64 a4, .int .i64 a5, .string a6, .string a7]) (hf : login_stepped.s11 t ⟨a0, a1, a2, a3, a4, a5, a6, a7⟩ on st nx first s = r) :
    Code.wp Tryz.prog (Hand.dropSeq 11 ((Tryz.f24.body).getD .skip)) (bodyPost Tryz.prog Tryz.f24 fun e_ w' => e_ = stE r ∧ Below w0.heap.size w0 w') ⟨#[.agg #[.int .i64 t.f0, .bool t.f1, .bool t.f2.f0, .bool t.f2.f1, .bool t.f2.f2, .bool t.f2.f3, .int .i64 t.f2.f4, .int .i64 t.f2.f5, .string t.f2.f6, .string t.f2.f7, .int .u32 t.f3, .int .u32 t.f4], .string g, .agg #[.string h, .string d], .pointer (some ⟨g3, 0, none⟩), undef, .pointer (some ⟨g5, 0, none⟩), .pointer (some ⟨g6, 0, none⟩), .pointer (some ⟨g7, 0, none⟩), .string (⟨#[]⟩ : ByteArray), .pointer (some ⟨g9, 0, none⟩), c10, c11, .pointer (some ⟨ga, 0, none⟩), c13, .string s, c15, c16, c17, c18, c19, c20, c21, c22, c23, c24, c25, c26, c27, c28, c29, c30, c31, c32, c33, c34, c35, c36, c37, c38, c39, c40, c41, c42, c43, c44, c45, c46, c47, c48, c49, c50, c51, c52, c53, c54, c55, c56, c57, c58, c59, c60, c61, c62, c63, c64, c65, c66, c67, c68, c69, c70, c71, c72, c73, c74, c75, c76, c77, c78, c79, c80, c81, c82, c83, c84, c85, c86, c87, undef, undef, undef, undef, undef, undef, undef, undef, undef, undef, undef, undef, undef, undef, undef, undef, undef], []⟩ w := by
  have hu1 := Tryz.underlying35
  have hu2 := Tryz.underlying61
  have hu3 := Tryz.underlying27
  have hu4 := Tryz.underlying24
  have n1 : g3 < ga ∧ g3 < g9 ∧ g6 < g9 ∧ g7 < g9 ∧ g3 < g6 ∧ g3 < g7 ∧ g6 < g7 := by have := D.x.d.o5; have := D.x.d.o6; have := D.x.d.o7; have := D.x.o9; have := D.oa; omega
  have m1 : ga ≠ g3 := Ne.symm (Nat.ne_of_lt n1.1)
  have m2 : g9 ≠ g3 := Ne.symm (Nat.ne_of_lt n1.2.1)
  clear n1
  refine Hand.wp_part 11 (by kernel_rfl) (fun K hK => ?_)
  conv => arg 2; whnf
  have n0_ := D.below (below_drew1 (Below.refl _ _))
  clear D
  have D := n0_
  clear n0_
  refine start_ (n := 13) (S := fun w' => H13 ga g9 a0 a1 a2 a3 a4 a5 a6 a7 st first w') (ds := []) #[false, false, false, false, false, false, false, false, false, false, false, false, false] (by kernel_rfl) rfl rfl (⟨(blk_cell D.ba 0).trans rfl, (blk_cell D.ba 1).trans rfl, (blk_cell D.ba 2).trans rfl, (blk_cell D.ba 3).trans rfl, (blk_cell D.ba 4).trans rfl, (blk_cell D.ba 5).trans rfl, (blk_cell D.ba 6).trans rfl, (blk_cell D.ba 7).trans rfl, (blk_cell D.x.b9 1).trans rfl, (blk_cell D.x.b9 3).trans rfl⟩) (fun hHeld => ?_)
  generalize w.drew = w1 at D hHeld ⊢
  have ht0 : w1.cell? ⟨g3, 0, none⟩ = some (.int .i64 t.f0) := (blk_cell D.x.d.b3 0).trans rfl
  have ht1 : w1.cell? ⟨g3, 1, none⟩ = some (.bool t.f1) := (blk_cell D.x.d.b3 1).trans rfl
  have ht2 : w1.cell? ⟨g3, 2, none⟩ = some (.bool t.f2.f0) := (blk_cell D.x.d.b3 2).trans rfl
  have ht3 : w1.cell? ⟨g3, 3, none⟩ = some (.bool t.f2.f1) := (blk_cell D.x.d.b3 3).trans rfl
  have ht4 : w1.cell? ⟨g3, 4, none⟩ = some (.bool t.f2.f2) := (blk_cell D.x.d.b3 4).trans rfl
  have ht5 : w1.cell? ⟨g3, 5, none⟩ = some (.bool t.f2.f3) := (blk_cell D.x.d.b3 5).trans rfl
  have ht6 : w1.cell? ⟨g3, 6, none⟩ = some (.int .i64 t.f2.f4) := (blk_cell D.x.d.b3 6).trans rfl
  have ht7 : w1.cell? ⟨g3, 7, none⟩ = some (.int .i64 t.f2.f5) := (blk_cell D.x.d.b3 7).trans rfl
  have ht8 : w1.cell? ⟨g3, 8, none⟩ = some (.string t.f2.f6) := (blk_cell D.x.d.b3 8).trans rfl
  have ht9 : w1.cell? ⟨g3, 9, none⟩ = some (.string t.f2.f7) := (blk_cell D.x.d.b3 9).trans rfl
  have ht10 : w1.cell? ⟨g3, 10, none⟩ = some (.int .u32 t.f3) := (blk_cell D.x.d.b3 10).trans rfl
  have hf0 := blk_frozen D.x.d.b3 0
  have hf1 := blk_frozen D.x.d.b3 1
  have hf2 := blk_frozen D.x.d.b3 2
  have hf3 := blk_frozen D.x.d.b3 3
  have hf4 := blk_frozen D.x.d.b3 4
  have hf5 := blk_frozen D.x.d.b3 5
  have hf6 := blk_frozen D.x.d.b3 6
  have hf7 := blk_frozen D.x.d.b3 7
  have hf8 := blk_frozen D.x.d.b3 8
  have hf9 := blk_frozen D.x.d.b3 9
  have hf10 := blk_frozen D.x.d.b3 10
  refine with_tabW login_stepped.tab13 login_stepped.bits13 (fun HT_ HW_ => ?_)
  refine pon_ 1 (some 89) (dB 13 2) HT_.out ?_
  refine pon_ 3 (some 91) (dB 13 10) HT_.out ?_
  refine pon_ 5 (some 93) (dB 13 42) HT_.out ?_
  refine ptk_ 0 (some 88) (dB 13 43) HT_.out HW_.out hHeld ?_
  refine ptk_ 2 (some 90) (dB 13 47) HT_.out HW_.out hHeld ?_
  refine ptk_ 4 (some 92) (dB 13 63) HT_.out HW_.out hHeld ?_
  refine one_ (i := 6) (N := none) (dB 13 127) rfl rfl (one_of HT_.out (by kernel_rfl)) (by decide) (fun K hK => ?_)
  refine skip_ (w1 := ?_) (by rfl) rfl ?_ ?_
  rotate_left
  ·go_simp
   rfl
  refine hK.out _ _ ((hHeld.far m1 m2 _)) (fun hHeld => ?_)
  clear hK K
  refine pon_ 7 (some 94) (dB 13 255) HT_.out ?_
  refine one_ (i := 8) (N := none) (dB 13 511) rfl rfl (one_of HT_.out (by kernel_rfl)) (by decide) (fun K hK => ?_)
  refine skip_ (w1 := ?_) (by rfl) rfl ?_ ?_
  rotate_left
  ·go_simp
   rfl
  refine hK.out _ _ (((((((((hHeld.far m1 m2 _).far m1 m2 _).far m1 m2 _).far m1 m2 _).far m1 m2 _).far m1 m2 _).far m1 m2 _).far m1 m2 _)) (fun hHeld => ?_)
  clear hK K
  have D2_ : SA w0 (((((((((w1.setCell ⟨g3, 1, none⟩ (.bool true)).setCell ⟨g3, 2, none⟩ (.bool a0)).setCell ⟨g3, 3, none⟩ (.bool a1)).setCell ⟨g3, 4, none⟩ (.bool a2)).setCell ⟨g3, 5, none⟩ (.bool a3)).setCell ⟨g3, 6, none⟩ (.int .i64 a4)).setCell ⟨g3, 7, none⟩ (.int .i64 a5)).setCell ⟨g3, 8, none⟩ (.string a6)).setCell ⟨g3, 9, none⟩ (.string a7)) g3 g5 g6 g7 g9 ga #[.int .i64 t.f0, .bool true, .bool a0, .bool a1, .bool a2, .bool a3, .int .i64 a4, .int .i64 a5, .string a6, .string a7, .int .u32 t.f3, .int .u32 t.f4] #[.string h, .string d] #[.int .i64 0, .bool false, .bool false, .bool false, .bool false, .bool false, .int .i64 0, .int .i64 0, .string (⟨#[]⟩ : ByteArray), .string (⟨#[]⟩ : ByteArray), .int .u32 0, .int .u32 0] #[.bool false, .int .i64 0, .int .i64 0, .int .u32 0] #[.bool on, .int .i64 st, .int .i64 nx, .int .u32 first] #[.bool a0, .bool a1, .bool a2, .bool a3, .int .i64 a4, .int .i64 a5, .string a6, .string a7] := by
    refine SA.put3 (c3 := #[.int .i64 t.f0, .bool true, .bool a0, .bool a1, .bool a2, .bool a3, .int .i64 a4, .int .i64 a5, .string a6, .string t.f2.f7, .int .u32 t.f3, .int .u32 t.f4]) ?_ rfl
    refine SA.put3 (c3 := #[.int .i64 t.f0, .bool true, .bool a0, .bool a1, .bool a2, .bool a3, .int .i64 a4, .int .i64 a5, .string t.f2.f6, .string t.f2.f7, .int .u32 t.f3, .int .u32 t.f4]) ?_ rfl
    refine SA.put3 (c3 := #[.int .i64 t.f0, .bool true, .bool a0, .bool a1, .bool a2, .bool a3, .int .i64 a4, .int .i64 t.f2.f5, .string t.f2.f6, .string t.f2.f7, .int .u32 t.f3, .int .u32 t.f4]) ?_ rfl
    refine SA.put3 (c3 := #[.int .i64 t.f0, .bool true, .bool a0, .bool a1, .bool a2, .bool a3, .int .i64 t.f2.f4, .int .i64 t.f2.f5, .string t.f2.f6, .string t.f2.f7, .int .u32 t.f3, .int .u32 t.f4]) ?_ rfl
    refine SA.put3 (c3 := #[.int .i64 t.f0, .bool true, .bool a0, .bool a1, .bool a2, .bool t.f2.f3, .int .i64 t.f2.f4, .int .i64 t.f2.f5, .string t.f2.f6, .string t.f2.f7, .int .u32 t.f3, .int .u32 t.f4]) ?_ rfl
    refine SA.put3 (c3 := #[.int .i64 t.f0, .bool true, .bool a0, .bool a1, .bool t.f2.f2, .bool t.f2.f3, .int .i64 t.f2.f4, .int .i64 t.f2.f5, .string t.f2.f6, .string t.f2.f7, .int .u32 t.f3, .int .u32 t.f4]) ?_ rfl
    refine SA.put3 (c3 := #[.int .i64 t.f0, .bool true, .bool a0, .bool t.f2.f1, .bool t.f2.f2, .bool t.f2.f3, .int .i64 t.f2.f4, .int .i64 t.f2.f5, .string t.f2.f6, .string t.f2.f7, .int .u32 t.f3, .int .u32 t.f4]) ?_ rfl
    refine SA.put3 (c3 := #[.int .i64 t.f0, .bool true, .bool t.f2.f0, .bool t.f2.f1, .bool t.f2.f2, .bool t.f2.f3, .int .i64 t.f2.f4, .int .i64 t.f2.f5, .string t.f2.f6, .string t.f2.f7, .int .u32 t.f3, .int .u32 t.f4]) ?_ rfl
    refine SA.put3 (c3 := #[.int .i64 t.f0, .bool t.f1, .bool t.f2.f0, .bool t.f2.f1, .bool t.f2.f2, .bool t.f2.f3, .int .i64 t.f2.f4, .int .i64 t.f2.f5, .string t.f2.f6, .string t.f2.f7, .int .u32 t.f3, .int .u32 t.f4]) ?_ rfl
    exact D
  generalize (((((((((w1.setCell ⟨g3, 1, none⟩ (.bool true)).setCell ⟨g3, 2, none⟩ (.bool a0)).setCell ⟨g3, 3, none⟩ (.bool a1)).setCell ⟨g3, 4, none⟩ (.bool a2)).setCell ⟨g3, 5, none⟩ (.bool a3)).setCell ⟨g3, 6, none⟩ (.int .i64 a4)).setCell ⟨g3, 7, none⟩ (.int .i64 a5)).setCell ⟨g3, 8, none⟩ (.string a6)).setCell ⟨g3, 9, none⟩ (.string a7)) = w2 at D2_ hHeld ⊢
  clear ht0 hf0 ht1 hf1 ht2 hf2 ht3 hf3 ht4 hf4 ht5 hf5 ht6 hf6 ht7 hf7 ht8 hf8 ht9 hf9 ht10 hf10
  have ht0 : w2.cell? ⟨g3, 0, none⟩ = some (.int .i64 t.f0) := (blk_cell D2_.x.d.b3 0).trans rfl
  have ht10 : w2.cell? ⟨g3, 10, none⟩ = some (.int .u32 t.f3) := (blk_cell D2_.x.d.b3 10).trans rfl
  have hf0 := blk_frozen D2_.x.d.b3 0
  have hf10 := blk_frozen D2_.x.d.b3 10
  refine pon_ 9 (some 95) (dB 13 1023) HT_.out ?_
  refine one_ (i := 10) (N := none) (dB 13 2047) rfl rfl (one_of HT_.out (by kernel_rfl)) (by decide) (fun K hK => ?_)
  refine skip_ (w1 := ?_) (by rfl) rfl ?_ ?_
  rotate_left
  ·go_simp
   rfl
  refine hK.out _ _ ((hHeld.far m1 m2 _)) (fun hHeld => ?_)
  clear hK K
  refine pon_ 11 (some 96) (dB 13 4095) HT_.out ?_
  refine one_ (i := 12) (N := none) (dB 13 8191) rfl rfl (one_of HT_.out (by kernel_rfl)) (by decide) (fun K hK => ?_)
  refine skip_ (w1 := ?_) (by rfl) rfl ?_ ?_
  rotate_left
  ·go_simp
   rfl
  refine hK.out _ _ ((hHeld.far m1 m2 _)) (fun hHeld => ?_)
  clear hK K
  refine done_ (done_of HT_.out (by kernel_rfl)) ?_
  go_wp2
  have D3_ : SA w0 ((w2.setCell ⟨g3, 0, none⟩ (.int .i64 st)).setCell ⟨g3, 10, none⟩ (.int .u32 first)) g3 g5 g6 g7 g9 ga #[.int .i64 st, .bool true, .bool a0, .bool a1, .bool a2, .bool a3, .int .i64 a4, .int .i64 a5, .string a6, .string a7, .int .u32 first, .int .u32 t.f4] #[.string h, .string d] #[.int .i64 0, .bool false, .bool false, .bool false, .bool false, .bool false, .int .i64 0, .int .i64 0, .string (⟨#[]⟩ : ByteArray), .string (⟨#[]⟩ : ByteArray), .int .u32 0, .int .u32 0] #[.bool false, .int .i64 0, .int .i64 0, .int .u32 0] #[.bool on, .int .i64 st, .int .i64 nx, .int .u32 first] #[.bool a0, .bool a1, .bool a2, .bool a3, .int .i64 a4, .int .i64 a5, .string a6, .string a7] := by
    refine SA.put3 (c3 := #[.int .i64 st, .bool true, .bool a0, .bool a1, .bool a2, .bool a3, .int .i64 a4, .int .i64 a5, .string a6, .string a7, .int .u32 t.f3, .int .u32 t.f4]) ?_ rfl
    refine SA.put3 (c3 := #[.int .i64 t.f0, .bool true, .bool a0, .bool a1, .bool a2, .bool a3, .int .i64 a4, .int .i64 a5, .string a6, .string a7, .int .u32 t.f3, .int .u32 t.f4]) ?_ rfl
    exact D2_
  generalize ((w2.setCell ⟨g3, 0, none⟩ (.int .i64 st)).setCell ⟨g3, 10, none⟩ (.int .u32 first)) = w3 at D3_ ⊢
  exact login_stepped.w12 k t g h d r on st nx first a0 a1 a2 a3 a4 a5 a6 a7 s _ _ _ _ _ _ _ _ _ _ _ _ _ _ _ _ _ _ _ _ _ _ _ _ _ _ _ _ _ _ _ _ _ _ _ _ _ _ _ _ _ _ _ _ _ _ _ _ _ _ _ _ _ _ _ _ _ _ _ _ _ _ _ _ _ _ _ _ _ _ _ _ _ _ _ _ _ _ _ _ _ _ _ _ _ g3 g5 g6 g7 g9 ga w0 w3 HG D3_ hf
set_option maxHeartbeats 4000000 in
set_option maxRecDepth 100000 in
theorem login_stepped.w10 (k : Nat) (t : S27) (g h d : ByteArray) (r : Stp) (on : Bool) (st nx first : Int) (a0 a1 a2 a3 : Bool) (a4 a5 : Int) (a6 a7 s : ByteArray) (c10 c11 c13 c15 c16 c17 c18 c19 c20 c21 c22 c23 c24 c25 c26 c27 c28 c29 c30 c31 c32 c33 c34 c35 c36 c37 c38 c39 c40 c41 c42 c43 c44 c45 c46 c47 c48 c49 c50 c51 c52 c53 c54 c55 c56 c57 c58 c59 c60 c61 c62 c63 c64 c65 c66 : Value) (g3 g5 g6 g7 g9 ga : Nat) (w0 w : World) (HG : Aside0 (Glob w0)) (D : SA w0 w g3 g5 g6 g7 g9 ga #[.int .i64 t.f0, .bool t.f1, .bool t.f2.f0, .bool t.f2.f1, .bool t.f2.f2, .bool t.f2.f3, .int .i64 t.f2.f4, .int .i64 t.f2.f5, .string t.f2.f6, .string t.f2.f7, .int .u32 t.f3, .int .u32 t.f4] #[.string h, .string d] #[.int .i64 0, .bool false, .bool false, .bool false, .bool false, .bool false, .int .i64 0, .int .i64 0, .string (⟨#[]⟩ : ByteArray), .string (⟨#[]⟩ : ByteArray), .int .u32 0, .int .u32 0] #[.bool false, .int .i64 0, .int .i64 0, .int .u32 0] #[.bool on, .int .i64 st, .int .i64 nx, .int .u32 first] #[.bool a0, .bool a1, .bool a2, .bool a3, .int .i64 a4, .int .i64 a5, .string a6, .string a7]) (hf : login_stepped.s10 t g ⟨a0, a1, a2, a3, a4, a5, a6, a7⟩ on st nx first s = r) :
    Code.wp Tryz.prog (Hand.dropSeq 10 ((Tryz.f24.body).getD .skip)) (bodyPost Tryz.prog Tryz.f24 fun e_ w' => e_ = stE r ∧ Below w0.heap.size w0 w') ⟨#[.agg #[.int .i64 t.f0, .bool t.f1, .bool t.f2.f0, .bool t.f2.f1, .bool t.f2.f2, .bool t.f2.f3, .int .i64 t.f2.f4, .int .i64 t.f2.f5, .string t.f2.f6, .string t.f2.f7, .int .u32 t.f3, .int .u32 t.f4], .string g, .agg #[.string h, .string d], .pointer (some ⟨g3, 0, none⟩), undef, .pointer (some ⟨g5, 0, none⟩), .pointer (some ⟨g6, 0, none⟩), .pointer (some ⟨g7, 0, none⟩), .string (⟨#[]⟩ : ByteArray), .pointer (some ⟨g9, 0, none⟩), c10, c11, .pointer (some ⟨ga, 0, none⟩), c13, .string s, c15, c16, c17, c18, c19, c20, c21, c22, c23, c24, c25, c26, c27, c28, c29, c30, c31, c32, c33, c34, c35, c36, c37, c38, c39, c40, c41, c42, c43, c44, c45, c46, c47, c48, c49, c50, c51, c52, c53, c54, c55, c56, c57, c58, c59, c60, c61, c62, c63, c64, c65, c66, undef, undef, undef, undef, undef, undef, undef, undef, undef, undef, undef, undef, undef, undef, undef, undef, undef, undef, undef, undef, undef, undef, undef, undef, undef, undef, undef, undef, undef, undef, undef, undef, undef, undef, undef, undef, undef, undef], []⟩ w := by
  have hu1 := Tryz.underlying35
  have hu2 := Tryz.underlying61
  have hu3 := Tryz.underlying27
  have hu4 := Tryz.underlying24
  unfold login_stepped.s10 at hf
  cases on with
  | false =>
    rw [if_neg (by simp)] at hf
    have hx0 : w.cell? ⟨g9, 0, none⟩ = some (.bool false) := (blk_cell D.x.b9 0).trans rfl
    have hx2 : w.cell? ⟨g9, 2, none⟩ = some (.int .i64 nx) := (blk_cell D.x.b9 2).trans rfl
    refine Hand.wp_part 10 (by kernel_rfl) (fun K hK => ?_)
    conv => arg 2; whnf
    go_wp2
    exact login_stepped.w11 k t g h d r false st nx first a0 a1 a2 a3 a4 a5 a6 a7 s _ _ _ _ _ _ _ _ _ _ _ _ _ _ _ _ _ _ _ _ _ _ _ _ _ _ _ _ _ _ _ _ _ _ _ _ _ _ _ _ _ _ _ _ _ _ _ _ _ _ _ _ _ _ _ _ _ _ _ _ _ _ _ _ _ _ _ _ _ _ _ _ _ _ _ _ g3 g5 g6 g7 g9 ga w0 w HG D hf
  | true =>
    by_cases h1 : nx = 3
    · have z1 : (nx == 3) = true := beq_iff_eq.mpr h1
      rw [if_pos ⟨rfl, h1⟩] at hf
      dsimp only at hf
      clear h1
      have hx0 : w.cell? ⟨g9, 0, none⟩ = some (.bool true) := (blk_cell D.x.b9 0).trans rfl
      have hx2 : w.cell? ⟨g9, 2, none⟩ = some (.int .i64 nx) := (blk_cell D.x.b9 2).trans rfl
      have ha6 : w.cell? ⟨ga, 6, none⟩ = some (.string a6) := (blk_cell D.ba 6).trans rfl
      have ha7 : w.cell? ⟨ga, 7, none⟩ = some (.string a7) := (blk_cell D.ba 7).trans rfl
      by_cases h2 : a6.toList = []
      · have z2 : a6.toList.isEmpty = true := by rw [h2]; rfl
        rw [if_pos h2] at hf
        subst hf
        clear h2
        refine Hand.wp_part 10 (by kernel_rfl) (fun K hK => ?_)
        conv => arg 2; whnf
        go_wp2_with (go_at_call 47; refine (want_no 2 7 _).mono ?_; rintro e w4 ⟨rfl, ⟨nd, rfl⟩⟩)
        first | exact ⟨rfl, rfl, pw_below_drewN D.x.d.hb _⟩ | exact ⟨rfl, pw_below_drewN D.x.d.hb _⟩
      · have z2 : a6.toList.isEmpty = false := by rw [List.isEmpty_eq_false_iff]; exact h2
        rw [if_neg h2] at hf
        clear h2
        by_cases h3 : a7.toList = []
        · have z3 : a7.toList.isEmpty = true := by rw [h3]; rfl
          rw [if_pos (Or.inl h3)] at hf
          subst hf
          clear h3
          refine Hand.wp_part 10 (by kernel_rfl) (fun K hK => ?_)
          conv => arg 2; whnf
          go_wp2_with (first
            | (go_at_call 47; (with_reducible refine (want_ok 2 7 _).mono ?_); rintro e w4 ⟨rfl, hd⟩; have n0_ := D.below hd.below; clear hd D hx0 hx2 ha6 ha7; have D := n0_; clear n0_; have ha7 : w4.cell? ⟨ga, 7, none⟩ = some (.string a7) := (blk_cell D.ba 7).trans rfl)
            | (go_at_call 47; (with_reducible refine (want_no 2 3 _).mono ?_); rintro e w5 ⟨rfl, ⟨nd, rfl⟩⟩))
          first | exact ⟨rfl, rfl, pw_below_drewN D.x.d.hb _⟩ | exact ⟨rfl, pw_below_drewN D.x.d.hb _⟩
        · have z3 : a7.toList.isEmpty = false := by rw [List.isEmpty_eq_false_iff]; exact h3
          by_cases h4 : a7.toList = g.toList
          · have z4 : (a7.toList == g.toList) = true := beq_iff_eq.mpr h4
            rw [if_neg (by rintro (x | x); exact h3 x; exact x h4)] at hf
            clear h3 h4
            refine Hand.wp_part 10 (by kernel_rfl) (fun K hK => ?_)
            conv => arg 2; whnf
            go_wp2_with (first
              | (go_at_call 47; (with_reducible refine (want_ok 2 7 _).mono ?_); rintro e w4 ⟨rfl, hd⟩; have n0_ := D.below hd.below; clear hd D hx0 hx2 ha6 ha7; have D := n0_; clear n0_; have ha7 : w4.cell? ⟨ga, 7, none⟩ = some (.string a7) := (blk_cell D.ba 7).trans rfl)
              | (go_at_call 47; (with_reducible refine (want_ok 2 3 _).mono ?_); rintro e w5 ⟨rfl, hd⟩; have n0_ := D.below hd.below; clear hd D; have D := n0_; clear n0_))
            exact login_stepped.w11 k t g h d r true st nx first a0 a1 a2 a3 a4 a5 a6 a7 s _ _ _ _ _ _ _ _ _ _ _ _ _ _ _ _ _ _ _ _ _ _ _ _ _ _ _ _ _ _ _ _ _ _ _ _ _ _ _ _ _ _ _ _ _ _ _ _ _ _ _ _ _ _ _ _ _ _ _ _ _ _ _ _ _ _ _ _ _ _ _ _ _ _ _ _ g3 g5 g6 g7 g9 ga w0 w5 HG D hf
          · have z4 : (a7.toList == g.toList) = false := beq_eq_false_iff_ne.mpr h4
            rw [if_pos (Or.inr h4)] at hf
            subst hf
            clear h3
            refine Hand.wp_part 10 (by kernel_rfl) (fun K hK => ?_)
            conv => arg 2; whnf
            go_wp2_with (first
              | (go_at_call 47; (with_reducible refine (want_ok 2 7 _).mono ?_); rintro e w4 ⟨rfl, hd⟩; have n0_ := D.below hd.below; clear hd D hx0 hx2 ha6 ha7; have D := n0_; clear n0_; have ha7 : w4.cell? ⟨ga, 7, none⟩ = some (.string a7) := (blk_cell D.ba 7).trans rfl)
              | (go_at_call 47; (with_reducible refine (want_no 2 3 _).mono ?_); rintro e w5 ⟨rfl, ⟨nd, rfl⟩⟩))
            first | exact ⟨rfl, rfl, pw_below_drewN D.x.d.hb _⟩ | exact ⟨rfl, pw_below_drewN D.x.d.hb _⟩
    · have z1 : (nx == 3) = false := beq_eq_false_iff_ne.mpr h1
      rw [if_neg (by rintro ⟨_, x⟩; exact h1 x)] at hf
      clear h1
      have hx0 : w.cell? ⟨g9, 0, none⟩ = some (.bool true) := (blk_cell D.x.b9 0).trans rfl
      have hx2 : w.cell? ⟨g9, 2, none⟩ = some (.int .i64 nx) := (blk_cell D.x.b9 2).trans rfl
      refine Hand.wp_part 10 (by kernel_rfl) (fun K hK => ?_)
      conv => arg 2; whnf
      go_wp2
      exact login_stepped.w11 k t g h d r true st nx first a0 a1 a2 a3 a4 a5 a6 a7 s _ _ _ _ _ _ _ _ _ _ _ _ _ _ _ _ _ _ _ _ _ _ _ _ _ _ _ _ _ _ _ _ _ _ _ _ _ _ _ _ _ _ _ _ _ _ _ _ _ _ _ _ _ _ _ _ _ _ _ _ _ _ _ _ _ _ _ _ _ _ _ _ _ _ _ _ g3 g5 g6 g7 g9 ga w0 w HG D hf
set_option maxHeartbeats 4000000 in
set_option maxRecDepth 100000 in
theorem login_stepped.w4 (k : Nat) (t : S27) (g h d : ByteArray) (r : Stp) (on : Bool) (st nx first : Int) (c10 c11 c12 c13 c14 c15 c16 c17 c18 c19 c20 c21 c22 c23 c24 c25 c26 c27 c28 c29 c30 c31 c32 c33 c34 c35 c36 c37 c38 : Value) (g3 g5 g6 g7 g9 : Nat) (w0 w : World) (HG : Aside0 (Glob w0)) (D : SX w0 w g3 g5 g6 g7 g9 #[.int .i64 t.f0, .bool t.f1, .bool t.f2.f0, .bool t.f2.f1, .bool t.f2.f2, .bool t.f2.f3, .int .i64 t.f2.f4, .int .i64 t.f2.f5, .string t.f2.f6, .string t.f2.f7, .int .u32 t.f3, .int .u32 t.f4] #[.string h, .string d] #[.int .i64 0, .bool false, .bool false, .bool false, .bool false, .bool false, .int .i64 0, .int .i64 0, .string (⟨#[]⟩ : ByteArray), .string (⟨#[]⟩ : ByteArray), .int .u32 0, .int .u32 0] #[.bool false, .int .i64 0, .int .i64 0, .int .u32 0] #[.bool on, .int .i64 st, .int .i64 nx, .int .u32 first]) (hf : login_stepped.s4 k t g d on st nx first = some r) :
    Code.wp Tryz.prog (Hand.dropSeq 4 ((Tryz.f24.body).getD .skip)) (bodyPost Tryz.prog Tryz.f24 fun e_ w' => e_ = stE r ∧ Below w0.heap.size w0 w') ⟨#[.agg #[.int .i64 t.f0, .bool t.f1, .bool t.f2.f0, .bool t.f2.f1, .bool t.f2.f2, .bool t.f2.f3, .int .i64 t.f2.f4, .int .i64 t.f2.f5, .string t.f2.f6, .string t.f2.f7, .int .u32 t.f3, .int .u32 t.f4], .string g, .agg #[.string h, .string d], .pointer (some ⟨g3, 0, none⟩), undef, .pointer (some ⟨g5, 0, none⟩), .pointer (some ⟨g6, 0, none⟩), .pointer (some ⟨g7, 0, none⟩), .string (⟨#[]⟩ : ByteArray), .pointer (some ⟨g9, 0, none⟩), c10, c11, c12, c13, c14, c15, c16, c17, c18, c19, c20, c21, c22, c23, c24, c25, c26, c27, c28, c29, c30, c31, c32, c33, c34, c35, c36, c37, c38, undef, undef, undef, undef, undef, undef, undef, undef, undef, undef, undef, undef, undef, undef, undef, undef, undef, undef, undef, undef, undef, undef, undef, undef, undef, undef, undef, undef, undef, undef, undef, undef, undef, undef, undef, undef, undef, undef, undef, undef, undef, undef, undef, undef, undef, undef, undef, undef, undef, undef, undef, undef, undef, undef, undef, undef, undef, undef, undef, undef, undef, undef, undef, undef, undef, undef], []⟩ w := by
  have hu1 := Tryz.underlying35
  have hu2 := Tryz.underlying61
  have hu3 := Tryz.underlying27
  have hu4 := Tryz.underlying24
  unfold login_stepped.s4 at hf
  have hc5_1 : w.cell? ⟨g5, 1, none⟩ = some (.string d) := (blk_cell D.d.b5 1).trans rfl
  obtain ⟨⟨l, le⟩, hl, hf⟩ := Option.bind_eq_some_iff.mp hf
  dsimp only at hf
  have HL := Aside0.mk hl
  clear hl
  refine Hand.wp_part 4 (by kernel_rfl) (fun K hK => ?_)
  conv => arg 2; whnf
  go_wp2_with (go_at_call 48; refine (keys_Parse.calls k d l le _ HL.out).mono ?_; rintro e w1 ⟨v0, rfl, hR, hb⟩; obtain ⟨A1, c1, rfl, hc1, hC⟩ := Kd.R_reads hR; have HC := Aside0.mk hC; have n0_ := D.below hb; clear hR hC hb D; have D := n0_; clear n0_)
  by_cases h0 : le = 0
  · have z0 : (le == 0) = true := beq_iff_eq.mpr h0
    rw [if_pos h0] at hf
    obtain ⟨⟨a0, a1, a2, a3, a4, a5, a6, a7, al, ae⟩, ha, hf⟩ := Option.bind_eq_some_iff.mp hf
    dsimp only at hf
    have HA := Aside0.mk ha
    clear ha h0
    refine Hand.wp_part 5 (by kernel_rfl) (fun K hK => ?_)
    conv => arg 2; whnf
    go_wp2_with (go_at_call 47; refine (want_ok 2 0 _).mono ?_; rintro e w2 ⟨rfl, hd⟩; have n0_ := D.below hd.below; have m0_ := Aside0.mk (Kd.C_below HC.out hd.below); clear HC; have HC := m0_; clear m0_; clear hd D; have D := n0_; clear n0_)
    refine Hand.wp_part 6 (by kernel_rfl) (fun K hK => ?_)
    conv => arg 2; whnf
    have hc3_2 : w2.cell? ⟨g3, 2, none⟩ = some (.bool t.f2.f0) := (blk_cell D.d.b3 2).trans rfl
    have hc3_3 : w2.cell? ⟨g3, 3, none⟩ = some (.bool t.f2.f1) := (blk_cell D.d.b3 3).trans rfl
    have hc3_4 : w2.cell? ⟨g3, 4, none⟩ = some (.bool t.f2.f2) := (blk_cell D.d.b3 4).trans rfl
    have hc3_5 : w2.cell? ⟨g3, 5, none⟩ = some (.bool t.f2.f3) := (blk_cell D.d.b3 5).trans rfl
    have hc3_6 : w2.cell? ⟨g3, 6, none⟩ = some (.int .i64 t.f2.f4) := (blk_cell D.d.b3 6).trans rfl
    have hc3_7 : w2.cell? ⟨g3, 7, none⟩ = some (.int .i64 t.f2.f5) := (blk_cell D.d.b3 7).trans rfl
    have hc3_8 : w2.cell? ⟨g3, 8, none⟩ = some (.string t.f2.f6) := (blk_cell D.d.b3 8).trans rfl
    have hc3_9 : w2.cell? ⟨g3, 9, none⟩ = some (.string t.f2.f7) := (blk_cell D.d.b3 9).trans rfl
    go_wp2_with (go_at_call 49; refine (keys_Answer.calls t.f2.f0 t.f2.f1 t.f2.f2 t.f2.f3 t.f2.f4 t.f2.f5 t.f2.f6 t.f2.f7 A1 c1 l a0 a1 a2 a3 a4 a5 a6 a7 al ae _ HC.out hc1 (Glob.keep HG.out D.d.hb) HA.out).mono ?_; rintro e w3 ⟨v1, rfl, hR, hb⟩; obtain ⟨A2, c2, rfl, hc2, hC⟩ := Kd.R_reads hR; clear HC; have HC := Aside0.mk hC; have n0_ := D.below hb; clear hR hC hb D hc3_2 hc3_3 hc3_4 hc3_5 hc3_6 hc3_7 hc3_8 hc3_9; have D := n0_; clear n0_)
    refine Hand.at_world (fun w' => SA w0 w' g3 g5 g6 g7 g9 w3.heap.size #[.int .i64 t.f0, .bool t.f1, .bool t.f2.f0, .bool t.f2.f1, .bool t.f2.f2, .bool t.f2.f3, .int .i64 t.f2.f4, .int .i64 t.f2.f5, .string t.f2.f6, .string t.f2.f7, .int .u32 t.f3, .int .u32 t.f4] #[.string h, .string d] #[.int .i64 0, .bool false, .bool false, .bool false, .bool false, .bool false, .int .i64 0, .int .i64 0, .string (⟨#[]⟩ : ByteArray), .string (⟨#[]⟩ : ByteArray), .int .u32 0, .int .u32 0] #[.bool false, .int .i64 0, .int .i64 0, .int .u32 0] #[.bool on, .int .i64 st, .int .i64 nx, .int .u32 first] #[.bool a0, .bool a1, .bool a2, .bool a3, .int .i64 a4, .int .i64 a5, .string a6, .string a7] ∧ Kd.C k117 w' A2 al.length al) ⟨D.made _, Kd.C_below HC.out (below_alloc (Below.refl _ _) _)⟩ ?_
    obtain ⟨ga, hga⟩ : ∃ g, w3.heap.size = g := ⟨_, rfl⟩
    rw [hga]
    clear hga HC D
    rintro w4 ⟨D, hC⟩
    have HC := Aside0.mk hC
    clear hC
    by_cases h1 : ae = 0
    · have z1 : (ae == 0) = true := beq_iff_eq.mpr h1
      rw [if_pos h1] at hf
      obtain ⟨⟨s, se⟩, hs, hf⟩ := Option.bind_eq_some_iff.mp hf
      dsimp only at hf
      have HS := Aside0.mk hs
      clear hs h1
      refine Hand.wp_part 7 (by kernel_rfl) (fun K hK => ?_)
      conv => arg 2; whnf
      go_wp2_with (go_at_call 47; refine (want_ok 2 0 _).mono ?_; rintro e w5 ⟨rfl, hd⟩; have n0_ := D.below hd.below; have m0_ := Aside0.mk (Kd.C_below HC.out hd.below); clear HC; have HC := m0_; clear m0_; clear hd D; have D := n0_; clear n0_)
      refine Hand.wp_part 8 (by kernel_rfl) (fun K hK => ?_)
      conv => arg 2; whnf
      go_wp2_with (go_at_call 50; refine (keys_Text.calls A2 c2 al s se _ HC.out hc2 HS.out).mono ?_; rintro e w6 ⟨rfl, hb⟩; have n0_ := D.below hb; clear hb D HC; have D := n0_; clear n0_)
      by_cases h2 : se = 0
      · have z2 : (se == 0) = true := beq_iff_eq.mpr h2
        rw [if_pos h2] at hf
        clear h2
        refine Hand.wp_part 9 (by kernel_rfl) (fun K hK => ?_)
        conv => arg 2; whnf
        go_wp2_with (go_at_call 47; refine (want_ok 2 0 _).mono ?_; rintro e w7 ⟨rfl, hd⟩; have n0_ := D.below hd.below; clear hd D; have D := n0_; clear n0_)
        exact login_stepped.w10 k t g h d r on st nx first a0 a1 a2 a3 a4 a5 a6 a7 s _ _ _ _ _ _ _ _ _ _ _ _ _ _ _ _ _ _ _ _ _ _ _ _ _ _ _ _ _ _ _ _ _ _ _ _ _ _ _ _ _ _ _ _ _ _ _ _ _ _ _ _ _ _ _ g3 g5 g6 g7 g9 ga w0 w7 HG D (Option.some.inj hf)
      · have z2 : (se == 0) = false := beq_eq_false_iff_ne.mpr h2
        rw [if_neg h2] at hf
        clear h2
        simp only [Option.some.injEq] at hf
        subst hf
        refine Hand.wp_part 9 (by kernel_rfl) (fun K hK => ?_)
        conv => arg 2; whnf
        go_wp2_with (go_at_call 47; refine (want_no 2 0 _).mono ?_; rintro e w4 ⟨rfl, ⟨nd, rfl⟩⟩)
        first | exact ⟨rfl, rfl, pw_below_drewN D.x.d.hb _⟩ | exact ⟨rfl, pw_below_drewN D.x.d.hb _⟩
    · have z1 : (ae == 0) = false := beq_eq_false_iff_ne.mpr h1
      rw [if_neg h1] at hf
      clear h1
      simp only [Option.some.injEq] at hf
      subst hf
      refine Hand.wp_part 7 (by kernel_rfl) (fun K hK => ?_)
      conv => arg 2; whnf
      go_wp2_with (go_at_call 47; refine (want_no 2 0 _).mono ?_; rintro e w4 ⟨rfl, ⟨nd, rfl⟩⟩)
      first | exact ⟨rfl, rfl, pw_below_drewN D.x.d.hb _⟩ | exact ⟨rfl, pw_below_drewN D.x.d.hb _⟩
  · have z0 : (le == 0) = false := beq_eq_false_iff_ne.mpr h0
    rw [if_neg h0] at hf
    clear h0
    simp only [Option.some.injEq] at hf
    subst hf
    refine Hand.wp_part 5 (by kernel_rfl) (fun K hK => ?_)
    conv => arg 2; whnf
    go_wp2_with (go_at_call 47; refine (want_no 2 0 _).mono ?_; rintro e w4 ⟨rfl, ⟨nd, rfl⟩⟩)
    first | exact ⟨rfl, rfl, pw_below_drewN D.d.hb _⟩ | exact ⟨rfl, pw_below_drewN D.d.hb _⟩
set_option maxHeartbeats 4000000 in
set_option maxRecDepth 100000 in
theorem login_stepped.w3 (k : Nat) (t : S27) (g h d : ByteArray) (r : Stp) (on : Bool) (st nx first : Int) (c10 c11 c12 c13 c14 c15 c16 c17 c18 c19 c20 c21 c22 c23 c24 c25 c26 c27 : Value) (g3 g5 g6 g7 g9 : Nat) (w0 w : World) (HG : Aside0 (Glob w0)) (D : SX w0 w g3 g5 g6 g7 g9 #[.int .i64 t.f0, .bool t.f1, .bool t.f2.f0, .bool t.f2.f1, .bool t.f2.f2, .bool t.f2.f3, .int .i64 t.f2.f4, .int .i64 t.f2.f5, .string t.f2.f6, .string t.f2.f7, .int .u32 t.f3, .int .u32 t.f4] #[.string h, .string d] #[.int .i64 0, .bool false, .bool false, .bool false, .bool false, .bool false, .int .i64 0, .int .i64 0, .string (⟨#[]⟩ : ByteArray), .string (⟨#[]⟩ : ByteArray), .int .u32 0, .int .u32 0] #[.bool false, .int .i64 0, .int .i64 0, .int .u32 0] #[.bool on, .int .i64 st, .int .i64 nx, .int .u32 first]) (hf : login_stepped.s3 k t g d on st nx first = some r) :
    Code.wp Tryz.prog (Hand.dropSeq 3 ((Tryz.f24.body).getD .skip)) (bodyPost Tryz.prog Tryz.f24 fun e_ w' => e_ = stE r ∧ Below w0.heap.size w0 w') ⟨#[.agg #[.int .i64 t.f0, .bool t.f1, .bool t.f2.f0, .bool t.f2.f1, .bool t.f2.f2, .bool t.f2.f3, .int .i64 t.f2.f4, .int .i64 t.f2.f5, .string t.f2.f6, .string t.f2.f7, .int .u32 t.f3, .int .u32 t.f4], .string g, .agg #[.string h, .string d], .pointer (some ⟨g3, 0, none⟩), undef, .pointer (some ⟨g5, 0, none⟩), .pointer (some ⟨g6, 0, none⟩), .pointer (some ⟨g7, 0, none⟩), .string (⟨#[]⟩ : ByteArray), .pointer (some ⟨g9, 0, none⟩), c10, c11, c12, c13, c14, c15, c16, c17, c18, c19, c20, c21, c22, c23, c24, c25, c26, c27, undef, undef, undef, undef, undef, undef, undef, undef, undef, undef, undef, undef, undef, undef, undef, undef, undef, undef, undef, undef, undef, undef, undef, undef, undef, undef, undef, undef, undef, undef, undef, undef, undef, undef, undef, undef, undef, undef, undef, undef, undef, undef, undef, undef, undef, undef, undef, undef, undef, undef, undef, undef, undef, undef, undef, undef, undef, undef, undef, undef, undef, undef, undef, undef, undef, undef, undef, undef, undef, undef, undef, undef, undef, undef, undef, undef, undef], []⟩ w := by
  have hu1 := Tryz.underlying35
  have hu2 := Tryz.underlying61
  have hu3 := Tryz.underlying27
  have hu4 := Tryz.underlying24
  unfold login_stepped.s3 at hf
  obtain ⟨bg, hbg⟩ : ∃ b, t.f1 = b := ⟨_, rfl⟩
  have hc3_1 : w.cell? ⟨g3, 1, none⟩ = some (.bool t.f1) := (blk_cell D.d.b3 1).trans rfl
  have hc3_10 : w.cell? ⟨g3, 10, none⟩ = some (.int .u32 t.f3) := (blk_cell D.d.b3 10).trans rfl
  have hc9_3 : w.cell? ⟨g9, 3, none⟩ = some (.int .u32 first) := (blk_cell D.b9 3).trans rfl
  cases bg with
  | false =>
    rw [if_neg (by rw [hbg]; simp)] at hf
    rw [hbg] at hc3_1
    clear hbg
    refine Hand.wp_part 3 (by kernel_rfl) (fun K hK => ?_)
    conv => arg 2; whnf
    go_wp2_with (go_at_call 47; refine (want_ok 2 1 _).mono ?_; rintro e w4 ⟨rfl, hd⟩; have n0_ := D.below hd.below; clear hd D; have D := n0_; clear n0_)
    exact login_stepped.w4 k t g h d r on st nx first _ _ _ _ _ _ _ _ _ _ _ _ _ _ _ _ _ _ _ _ _ _ _ _ _ _ _ _ _ g3 g5 g6 g7 g9 w0 _ HG D hf
  | true =>
    by_cases hq : first = t.f3
    · rw [if_neg (by rintro ⟨_, h⟩; exact h hq)] at hf
      rw [hbg] at hc3_1
      have q1 : (first == t.f3) = true := beq_iff_eq.mpr hq
      clear hbg hq
      refine Hand.wp_part 3 (by kernel_rfl) (fun K hK => ?_)
      conv => arg 2; whnf
      go_wp2_with (go_at_call 47; refine (want_ok 2 1 _).mono ?_; rintro e w4 ⟨rfl, hd⟩; have n0_ := D.below hd.below; clear hd D; have D := n0_; clear n0_)
      exact login_stepped.w4 k t g h d r on st nx first _ _ _ _ _ _ _ _ _ _ _ _ _ _ _ _ _ _ _ _ _ _ _ _ _ _ _ _ _ g3 g5 g6 g7 g9 w0 _ HG D hf
    · rw [if_pos ⟨hbg, hq⟩] at hf
      simp only [Option.some.injEq] at hf
      subst hf
      rw [hbg] at hc3_1
      have q1 : (first == t.f3) = false := beq_eq_false_iff_ne.mpr hq
      clear hbg hq
      refine Hand.wp_part 3 (by kernel_rfl) (fun K hK => ?_)
      conv => arg 2; whnf
      go_wp2_with (go_at_call 47; refine (want_no 2 1 _).mono ?_; rintro e w4 ⟨rfl, ⟨nd, rfl⟩⟩)
      first | exact ⟨rfl, rfl, pw_below_drewN D.d.hb _⟩ | exact ⟨rfl, pw_below_drewN D.d.hb _⟩
set_option maxHeartbeats 4000000 in
set_option maxRecDepth 100000 in
theorem login_stepped.w2 (k : Nat) (t : S27) (g h d : ByteArray) (r : Stp) (on : Bool) (st nx first : Int) (c10 c11 c12 c13 c14 c15 c16 : Value) (g3 g5 g6 g7 g9 : Nat) (w0 w : World) (HG : Aside0 (Glob w0)) (D : SX w0 w g3 g5 g6 g7 g9 #[.int .i64 t.f0, .bool t.f1, .bool t.f2.f0, .bool t.f2.f1, .bool t.f2.f2, .bool t.f2.f3, .int .i64 t.f2.f4, .int .i64 t.f2.f5, .string t.f2.f6, .string t.f2.f7, .int .u32 t.f3, .int .u32 t.f4] #[.string h, .string d] #[.int .i64 0, .bool false, .bool false, .bool false, .bool false, .bool false, .int .i64 0, .int .i64 0, .string (⟨#[]⟩ : ByteArray), .string (⟨#[]⟩ : ByteArray), .int .u32 0, .int .u32 0] #[.bool false, .int .i64 0, .int .i64 0, .int .u32 0] #[.bool on, .int .i64 st, .int .i64 nx, .int .u32 first]) (hf : login_stepped.s2 k t g d on st nx first = some r) :
    Code.wp Tryz.prog (Hand.dropSeq 2 ((Tryz.f24.body).getD .skip)) (bodyPost Tryz.prog Tryz.f24 fun e_ w' => e_ = stE r ∧ Below w0.heap.size w0 w') ⟨#[.agg #[.int .i64 t.f0, .bool t.f1, .bool t.f2.f0, .bool t.f2.f1, .bool t.f2.f2, .bool t.f2.f3, .int .i64 t.f2.f4, .int .i64 t.f2.f5, .string t.f2.f6, .string t.f2.f7, .int .u32 t.f3, .int .u32 t.f4], .string g, .agg #[.string h, .string d], .pointer (some ⟨g3, 0, none⟩), undef, .pointer (some ⟨g5, 0, none⟩), .pointer (some ⟨g6, 0, none⟩), .pointer (some ⟨g7, 0, none⟩), .string (⟨#[]⟩ : ByteArray), .pointer (some ⟨g9, 0, none⟩), c10, c11, c12, c13, c14, c15, c16, undef, undef, undef, undef, undef, undef, undef, undef, undef, undef, undef, undef, undef, undef, undef, undef, undef, undef, undef, undef, undef, undef, undef, undef, undef, undef, undef, undef, undef, undef, undef, undef, undef, undef, undef, undef, undef, undef, undef, undef, undef, undef, undef, undef, undef, undef, undef, undef, undef, undef, undef, undef, undef, undef, undef, undef, undef, undef, undef, undef, undef, undef, undef, undef, undef, undef, undef, undef, undef, undef, undef, undef, undef, undef, undef, undef, undef, undef, undef, undef, undef, undef, undef, undef, undef, undef, undef, undef], []⟩ w := by
  have hu1 := Tryz.underlying35
  have hu2 := Tryz.underlying61
  have hu3 := Tryz.underlying27
  have hu4 := Tryz.underlying24
  unfold login_stepped.s2 at hf
  obtain ⟨bg, hbg⟩ : ∃ b, t.f1 = b := ⟨_, rfl⟩
  have hc3_1 : w.cell? ⟨g3, 1, none⟩ = some (.bool t.f1) := (blk_cell D.d.b3 1).trans rfl
  have hc3_0 : w.cell? ⟨g3, 0, none⟩ = some (.int .i64 t.f0) := (blk_cell D.d.b3 0).trans rfl
  have hc9_1 : w.cell? ⟨g9, 1, none⟩ = some (.int .i64 st) := (blk_cell D.b9 1).trans rfl
  cases bg with
  | false =>
    rw [if_neg (by rw [hbg]; simp)] at hf
    rw [hbg] at hc3_1
    clear hbg
    refine Hand.wp_part 2 (by kernel_rfl) (fun K hK => ?_)
    conv => arg 2; whnf
    go_wp2_with (go_at_call 47; refine (want_ok 2 0 _).mono ?_; rintro e w4 ⟨rfl, hd⟩; have n0_ := D.below hd.below; clear hd D; have D := n0_; clear n0_)
    exact login_stepped.w3 k t g h d r on st nx first _ _ _ _ _ _ _ _ _ _ _ _ _ _ _ _ _ _ g3 g5 g6 g7 g9 w0 _ HG D hf
  | true =>
    by_cases hq : st = t.f0
    · rw [if_neg (by rintro ⟨_, h⟩; exact h hq)] at hf
      rw [hbg] at hc3_1
      have q1 : (st == t.f0) = true := beq_iff_eq.mpr hq
      clear hbg hq
      refine Hand.wp_part 2 (by kernel_rfl) (fun K hK => ?_)
      conv => arg 2; whnf
      go_wp2_with (go_at_call 47; refine (want_ok 2 0 _).mono ?_; rintro e w4 ⟨rfl, hd⟩; have n0_ := D.below hd.below; clear hd D; have D := n0_; clear n0_)
      exact login_stepped.w3 k t g h d r on st nx first _ _ _ _ _ _ _ _ _ _ _ _ _ _ _ _ _ _ g3 g5 g6 g7 g9 w0 _ HG D hf
    · rw [if_pos ⟨hbg, hq⟩] at hf
      simp only [Option.some.injEq] at hf
      subst hf
      rw [hbg] at hc3_1
      have q1 : (st == t.f0) = false := beq_eq_false_iff_ne.mpr hq
      clear hbg hq
      refine Hand.wp_part 2 (by kernel_rfl) (fun K hK => ?_)
      conv => arg 2; whnf
      go_wp2_with (go_at_call 47; refine (want_no 2 0 _).mono ?_; rintro e w4 ⟨rfl, ⟨nd, rfl⟩⟩)
      first | exact ⟨rfl, rfl, pw_below_drewN D.d.hb _⟩ | exact ⟨rfl, pw_below_drewN D.d.hb _⟩
theorem SD.start (w : World) (c3 c5 c6 c7 : Array Value) : SD w ((((w.alloc (.cells c3 27)).alloc (.cells c5 35)).alloc (.cells c6 27)).alloc (.cells c7 61)) w.heap.size (w.heap.size + 1) (w.heap.size + 1 + 1) (w.heap.size + 1 + 1 + 1) c3 c5 c6 c7 := by
  have hz : ∀ (W : World) (o : Obj), (W.alloc o).heap.size = W.heap.size + 1 := fun W o => Array.size_push _
  have b3 : (w.alloc (.cells c3 27)).heap[w.heap.size]? = some (.cells c3 27) := heap_alloc_new w _
  have b5 : ((w.alloc (.cells c3 27)).alloc (.cells c5 35)).heap[w.heap.size + 1]? = some (.cells c5 35) := by rw [← hz w (.cells c3 27)]; exact heap_alloc_new _ _
  have b6 : (((w.alloc (.cells c3 27)).alloc (.cells c5 35)).alloc (.cells c6 27)).heap[w.heap.size + 1 + 1]? = some (.cells c6 27) := by rw [← hz w (.cells c3 27), ← hz _ (.cells c5 35)]; exact heap_alloc_new _ _
  have b7 : ((((w.alloc (.cells c3 27)).alloc (.cells c5 35)).alloc (.cells c6 27)).alloc (.cells c7 61)).heap[w.heap.size + 1 + 1 + 1]? = some (.cells c7 61) := by rw [← hz w (.cells c3 27), ← hz _ (.cells c5 35), ← hz _ (.cells c6 27)]; exact heap_alloc_new _ _
  exact ⟨Nat.le_refl _, by omega, by omega, by omega, blk_alloc (blk_alloc (blk_alloc b3 _) _) _, blk_alloc (blk_alloc b5 _) _, blk_alloc b6 _, b7, below_alloc (below_alloc (below_alloc (below_alloc (Below.refl _ _) _) _) _) _⟩
theorem SD.made {w0 w : World} {g3 g5 g6 g7 : Nat} {c3 c5 c6 c7 : Array Value} (h : SD w0 w g3 g5 g6 g7 c3 c5 c6 c7) (c9 : Array Value) : SX w0 (w.alloc (.cells c9 61)) g3 g5 g6 g7 w.heap.size c3 c5 c6 c7 c9 := ⟨h.below (below_alloc (Below.refl _ _) _), blk_lt h.b7, heap_alloc_new w _⟩
set_option maxHeartbeats 4000000 in
set_option maxRecDepth 100000 in
theorem login_stepped.calls (k : Nat) (t : S27) (g h d : ByteArray) (r : Stp) (w : World) (hG : Glob w) (hf : login_stepped.f k t g h d = some r) :
    Calls Tryz.prog 24 #[.agg #[.int .i64 t.f0, .bool t.f1, .bool t.f2.f0, .bool t.f2.f1, .bool t.f2.f2, .bool t.f2.f3, .int .i64 t.f2.f4, .int .i64 t.f2.f5, .string t.f2.f6, .string t.f2.f7, .int .u32 t.f3, .int .u32 t.f4], .string g, .agg #[.string h, .string d]] w fun e w' => e = stE r ∧ Below w.heap.size w w' := by
  have hu1 := Tryz.underlying35
  have hu2 := Tryz.underlying61
  have hu3 := Tryz.underlying27
  have hu4 := Tryz.underlying24
  have HG := Aside0.mk hG
  clear hG
  unfold login_stepped.f at hf
  obtain ⟨⟨kind, ur⟩, hk, hf⟩ := Option.bind_eq_some_iff.mp hf
  dsimp only at hf
  have HK := Aside0.mk hk
  clear hk
  go_enter Tryz.func24, Tryz.ntmps24
  apply Hand.wp_whole
  refine Hand.wp_part 0 (by kernel_rfl) (fun K hK => ?_)
  conv => arg 2; whnf
  go_wp2
  refine Hand.at_world (fun w' => SD w w' w.heap.size (w.heap.size + 1) (w.heap.size + 1 + 1) (w.heap.size + 1 + 1 + 1) #[.int .i64 t.f0, .bool t.f1, .bool t.f2.f0, .bool t.f2.f1, .bool t.f2.f2, .bool t.f2.f3, .int .i64 t.f2.f4, .int .i64 t.f2.f5, .string t.f2.f6, .string t.f2.f7, .int .u32 t.f3, .int .u32 t.f4] #[.string h, .string d] #[.int .i64 0, .bool false, .bool false, .bool false, .bool false, .bool false, .int .i64 0, .int .i64 0, .string (⟨#[]⟩ : ByteArray), .string (⟨#[]⟩ : ByteArray), .int .u32 0, .int .u32 0] #[.bool false, .int .i64 0, .int .i64 0, .int .u32 0]) (SD.start w _ _ _ _) ?_
  obtain ⟨g3, h3⟩ : ∃ g_, w.heap.size = g_ := ⟨_, rfl⟩
  obtain ⟨g5, h5⟩ : ∃ g_, w.heap.size + 1 = g_ := ⟨_, rfl⟩
  obtain ⟨g6, h6⟩ : ∃ g_, w.heap.size + 1 + 1 = g_ := ⟨_, rfl⟩
  obtain ⟨g7, h7⟩ : ∃ g_, w.heap.size + 1 + 1 + 1 = g_ := ⟨_, rfl⟩
  rw [h7, h6, h5, h3]
  clear h3 h5 h6 h7
  rintro w1 D
  have hc0 : w1.cell? ⟨g5, 0, none⟩ = some (.string h) := (blk_cell D.b5 0).trans rfl
  have hc1 : w1.cell? ⟨g5, 1, none⟩ = some (.string d) := (blk_cell D.b5 1).trans rfl
  by_cases h1 : rd1 h d kind ur = true
  · rw [if_pos h1] at hf
    obtain ⟨first, hN, hf⟩ := Option.bind_eq_some_iff.mp hf
    have HN := Aside0.mk (fun _ : rd1 h d kind ur = true => hN)
    clear hN
    by_cases h2 : (rd2 h && rd3 h) = true
    · rw [if_pos h2] at hf
      rw [Bool.and_eq_true] at h2
      have HE : Aside0 ((if rd1 h d kind ur = true then rdE h first else .panicked [refV 2 0]) = .returned (.agg #[.bool (rdOn (bt h 1)), .int .i64 (rdStage (bt h 1)), .int .i64 (rdNext (bt h 1)), .int .u32 first])) := ⟨by rw [if_pos h1]; unfold rdE; rw [if_pos h2.1, if_pos h2.2]; rfl⟩
      clear h1 h2
      obtain ⟨on, hon⟩ : ∃ x, rdOn (bt h 1) = x := ⟨_, rfl⟩
      obtain ⟨st, hst⟩ : ∃ x, rdStage (bt h 1) = x := ⟨_, rfl⟩
      obtain ⟨nx, hnx⟩ : ∃ x, rdNext (bt h 1) = x := ⟨_, rfl⟩
      rw [hon, hst, hnx] at HE hf
      clear hon hst hnx
      refine Hand.wp_part 1 (by kernel_rfl) (fun K hK => ?_)
      conv => arg 2; whnf
      go_wp2_with (go_at_call 46; (with_reducible refine (login_read.calls k h d kind ur first (.returned (.agg #[.bool on, .int .i64 st, .int .i64 nx, .int .u32 first])) _ HK.out HN.out HE.out).mono ?_); rintro e w2 ⟨rfl, hb⟩; have n0_ := D.below hb; clear hb D hc0 hc1; have D := n0_; clear n0_)
      refine Hand.at_world (fun w' => SX w w' g3 g5 g6 g7 w2.heap.size #[.int .i64 t.f0, .bool t.f1, .bool t.f2.f0, .bool t.f2.f1, .bool t.f2.f2, .bool t.f2.f3, .int .i64 t.f2.f4, .int .i64 t.f2.f5, .string t.f2.f6, .string t.f2.f7, .int .u32 t.f3, .int .u32 t.f4] #[.string h, .string d] #[.int .i64 0, .bool false, .bool false, .bool false, .bool false, .bool false, .int .i64 0, .int .i64 0, .string (⟨#[]⟩ : ByteArray), .string (⟨#[]⟩ : ByteArray), .int .u32 0, .int .u32 0] #[.bool false, .int .i64 0, .int .i64 0, .int .u32 0] #[.bool on, .int .i64 st, .int .i64 nx, .int .u32 first]) (D.made _) ?_
      obtain ⟨g9, h9⟩ : ∃ g_, w2.heap.size = g_ := ⟨_, rfl⟩
      rw [h9]
      clear h9 D
      rintro w3 D
      exact login_stepped.w2 k t g h d r on st nx first _ _ _ _ _ _ _ g3 g5 g6 g7 g9 w w3 HG D hf
    · rw [if_neg h2] at hf
      simp only [Option.some.injEq] at hf
      subst hf
      have HE : Aside0 ((if rd1 h d kind ur = true then rdE h first else .panicked [refV 2 0]) = .panicked [refV 2 0]) := ⟨by rw [if_pos h1]; unfold rdE; by_cases h3 : rd2 h = true; rw [if_pos h3, if_neg (fun h4 => h2 (by rw [h3, h4]; rfl))]; rw [if_neg h3]⟩
      clear h1 h2
      refine Hand.wp_part 1 (by kernel_rfl) (fun K hK => ?_)
      conv => arg 2; whnf
      go_wp2_with (go_at_call 46; (with_reducible refine (login_read.calls k h d kind ur first (.panicked [refV 2 0]) _ HK.out HN.out HE.out).mono ?_); rintro e w2 ⟨rfl, hb⟩; have n0_ := D.below hb; clear hb D hc0 hc1; have D := n0_; clear n0_)
      exact ⟨rfl, rfl, D.hb⟩
  · rw [if_neg h1] at hf
    simp only [Option.some.injEq] at hf
    subst hf
    have HE : Aside0 ((if rd1 h d kind ur = true then rdE h 0 else .panicked [refV 2 0]) = .panicked [refV 2 0]) := ⟨if_neg h1⟩
    have HN : Aside0 (rd1 h d kind ur = true → ipdu_Num.f k h d 24 = some 0) := ⟨fun h => absurd h h1⟩
    clear h1
    refine Hand.wp_part 1 (by kernel_rfl) (fun K hK => ?_)
    conv => arg 2; whnf
    go_wp2_with (go_at_call 46; (with_reducible refine (login_read.calls k h d kind ur 0 (.panicked [refV 2 0]) _ HK.out HN.out HE.out).mono ?_); rintro e w2 ⟨rfl, hb⟩; have n0_ := D.below hb; clear hb D hc0 hc1; have D := n0_; clear n0_)
    exact ⟨rfl, rfl, D.hb⟩
end Go.Proofs.YthglbmihbmneaaaGreatDoor.P
namespace Go.Proofs.YthglbmihbmneaaaGreatDoor.P
open Go.RowKit Go.Proofs.YthglbmihbmneaaaGreatDoorW.PrintWords Go.Proofs.YthglbmihbmneaaaGreatDoorW.PrintLast Go.Proofs.YthglbmihbmneaaaGreatDoorW.PrintMore
attribute [local go_sem] max2_int min2_int max_two min_two max_three min_three max_four min_four   -- for this text's walks alone
set_option linter.unusedVariables false
set_option linter.unusedSimpArgs false
set_option linter.unnecessarySimpa false
structure DD (w0 w : World) (gT gP gN gQ gO gS gC gD : Nat) (cT cP cN cQ cO cS cC cD : Array Value) : Prop where
  oT : w0.heap.size ≤ gT
  oP : gT < gP
  oN : gP < gN
  oQ : gN < gQ
  oO : gQ < gO
  oS : gO < gS
  oC : gS < gC
  oD : gC < gD
  bT : w.heap[gT]? = some (.cells cT 27 (0, 0))
  bP : w.heap[gP]? = some (.cells cP 35 (0, 0))
  bN : w.heap[gN]? = some (.cells cN 27 (0, 0))
  bQ : w.heap[gQ]? = some (.cells cQ 35 (0, 0))
  bO : w.heap[gO]? = some (.cells cO 4 (0, 0))
  bS : w.heap[gS]? = some (.cells cS 25 (0, 0))
  bC : w.heap[gC]? = some (.cells cC 3 (0, 0))
  bD : w.heap[gD]? = some (.cells cD 3 (0, 0))
  hb : Below w0.heap.size w0 w
theorem DD.below {w0 w w1 : World} {gT gP gN gQ gO gS gC gD : Nat} {cT cP cN cQ cO cS cC cD : Array Value} (h : DD w0 w gT gP gN gQ gO gS gC gD cT cP cN cQ cO cS cC cD) (hb : Below w.heap.size w w1) : DD w0 w1 gT gP gN gQ gO gS gC gD cT cP cN cQ cO cS cC cD :=
  ⟨h.oT, h.oP, h.oN, h.oQ, h.oO, h.oS, h.oC, h.oD, blk_below h.bT hb, blk_below h.bP hb, blk_below h.bN hb, blk_below h.bQ hb, blk_below h.bO hb, blk_below h.bS hb, blk_below h.bC hb, blk_below h.bD hb, below_step h.hb hb⟩
theorem DD.putN {w0 w : World} {gT gP gN gQ gO gS gC gD j : Nat} {v : Value} {cT cP cN cQ cO cS cC cD c' : Array Value} (h : DD w0 w gT gP gN gQ gO gS gC gD cT cP cN cQ cO cS cC cD) (e : cN.setIfInBounds j v = c') : DD w0 (w.setCell ⟨gN, j, none⟩ v) gT gP gN gQ gO gS gC gD cT cP c' cQ cO cS cC cD := by
  have := h.oT; have := h.oP; have := h.oN; have := h.oQ; have := h.oO; have := h.oS; have := h.oC; have := h.oD
  exact ⟨h.oT, h.oP, h.oN, h.oQ, h.oO, h.oS, h.oC, h.oD, blk_far h.bT (p := ⟨gN, j, none⟩) (show gT ≠ gN by omega) v, blk_far h.bP (p := ⟨gN, j, none⟩) (show gP ≠ gN by omega) v, blk_put h.bN j v e, blk_far h.bQ (p := ⟨gN, j, none⟩) (show gQ ≠ gN by omega) v, blk_far h.bO (p := ⟨gN, j, none⟩) (show gO ≠ gN by omega) v, blk_far h.bS (p := ⟨gN, j, none⟩) (show gS ≠ gN by omega) v, blk_far h.bC (p := ⟨gN, j, none⟩) (show gC ≠ gN by omega) v, blk_far h.bD (p := ⟨gN, j, none⟩) (show gD ≠ gN by omega) v, below_set h.hb (by omega)⟩
theorem DD.putQ {w0 w : World} {gT gP gN gQ gO gS gC gD j : Nat} {v : Value} {cT cP cN cQ cO cS cC cD c' : Array Value} (h : DD w0 w gT gP gN gQ gO gS gC gD cT cP cN cQ cO cS cC cD) (e : cQ.setIfInBounds j v = c') : DD w0 (w.setCell ⟨gQ, j, none⟩ v) gT gP gN gQ gO gS gC gD cT cP cN c' cO cS cC cD := by
  have := h.oT; have := h.oP; have := h.oN; have := h.oQ; have := h.oO; have := h.oS; have := h.oC; have := h.oD
  exact ⟨h.oT, h.oP, h.oN, h.oQ, h.oO, h.oS, h.oC, h.oD, blk_far h.bT (p := ⟨gQ, j, none⟩) (show gT ≠ gQ by omega) v, blk_far h.bP (p := ⟨gQ, j, none⟩) (show gP ≠ gQ by omega) v, blk_far h.bN (p := ⟨gQ, j, none⟩) (show gN ≠ gQ by omega) v, blk_put h.bQ j v e, blk_far h.bO (p := ⟨gQ, j, none⟩) (show gO ≠ gQ by omega) v, blk_far h.bS (p := ⟨gQ, j, none⟩) (show gS ≠ gQ by omega) v, blk_far h.bC (p := ⟨gQ, j, none⟩) (show gC ≠ gQ by omega) v, blk_far h.bD (p := ⟨gQ, j, none⟩) (show gD ≠ gQ by omega) v, below_set h.hb (by omega)⟩
theorem DD.putO {w0 w : World} {gT gP gN gQ gO gS gC gD j : Nat} {v : Value} {cT cP cN cQ cO cS cC cD c' : Array Value} (h : DD w0 w gT gP gN gQ gO gS gC gD cT cP cN cQ cO cS cC cD) (e : cO.setIfInBounds j v = c') : DD w0 (w.setCell ⟨gO, j, none⟩ v) gT gP gN gQ gO gS gC gD cT cP cN cQ c' cS cC cD := by
  have := h.oT; have := h.oP; have := h.oN; have := h.oQ; have := h.oO; have := h.oS; have := h.oC; have := h.oD
  exact ⟨h.oT, h.oP, h.oN, h.oQ, h.oO, h.oS, h.oC, h.oD, blk_far h.bT (p := ⟨gO, j, none⟩) (show gT ≠ gO by omega) v, blk_far h.bP (p := ⟨gO, j, none⟩) (show gP ≠ gO by omega) v, blk_far h.bN (p := ⟨gO, j, none⟩) (show gN ≠ gO by omega) v, blk_far h.bQ (p := ⟨gO, j, none⟩) (show gQ ≠ gO by omega) v, blk_put h.bO j v e, blk_far h.bS (p := ⟨gO, j, none⟩) (show gS ≠ gO by omega) v, blk_far h.bC (p := ⟨gO, j, none⟩) (show gC ≠ gO by omega) v, blk_far h.bD (p := ⟨gO, j, none⟩) (show gD ≠ gO by omega) v, below_set h.hb (by omega)⟩
theorem DD.putC {w0 w : World} {gT gP gN gQ gO gS gC gD j : Nat} {v : Value} {cT cP cN cQ cO cS cC cD c' : Array Value} (h : DD w0 w gT gP gN gQ gO gS gC gD cT cP cN cQ cO cS cC cD) (e : cC.setIfInBounds j v = c') : DD w0 (w.setCell ⟨gC, j, none⟩ v) gT gP gN gQ gO gS gC gD cT cP cN cQ cO cS c' cD := by
  have := h.oT; have := h.oP; have := h.oN; have := h.oQ; have := h.oO; have := h.oS; have := h.oC; have := h.oD
  exact ⟨h.oT, h.oP, h.oN, h.oQ, h.oO, h.oS, h.oC, h.oD, blk_far h.bT (p := ⟨gC, j, none⟩) (show gT ≠ gC by omega) v, blk_far h.bP (p := ⟨gC, j, none⟩) (show gP ≠ gC by omega) v, blk_far h.bN (p := ⟨gC, j, none⟩) (show gN ≠ gC by omega) v, blk_far h.bQ (p := ⟨gC, j, none⟩) (show gQ ≠ gC by omega) v, blk_far h.bO (p := ⟨gC, j, none⟩) (show gO ≠ gC by omega) v, blk_far h.bS (p := ⟨gC, j, none⟩) (show gS ≠ gC by omega) v, blk_put h.bC j v e, blk_far h.bD (p := ⟨gC, j, none⟩) (show gD ≠ gC by omega) v, below_set h.hb (by omega)⟩
theorem DD.putD {w0 w : World} {gT gP gN gQ gO gS gC gD j : Nat} {v : Value} {cT cP cN cQ cO cS cC cD c' : Array Value} (h : DD w0 w gT gP gN gQ gO gS gC gD cT cP cN cQ cO cS cC cD) (e : cD.setIfInBounds j v = c') : DD w0 (w.setCell ⟨gD, j, none⟩ v) gT gP gN gQ gO gS gC gD cT cP cN cQ cO cS cC c' := by
  have := h.oT; have := h.oP; have := h.oN; have := h.oQ; have := h.oO; have := h.oS; have := h.oC; have := h.oD
  exact ⟨h.oT, h.oP, h.oN, h.oQ, h.oO, h.oS, h.oC, h.oD, blk_far h.bT (p := ⟨gD, j, none⟩) (show gT ≠ gD by omega) v, blk_far h.bP (p := ⟨gD, j, none⟩) (show gP ≠ gD by omega) v, blk_far h.bN (p := ⟨gD, j, none⟩) (show gN ≠ gD by omega) v, blk_far h.bQ (p := ⟨gD, j, none⟩) (show gQ ≠ gD by omega) v, blk_far h.bO (p := ⟨gD, j, none⟩) (show gO ≠ gD by omega) v, blk_far h.bS (p := ⟨gD, j, none⟩) (show gS ≠ gD by omega) v, blk_far h.bC (p := ⟨gD, j, none⟩) (show gC ≠ gD by omega) v, blk_put h.bD j v e, below_set h.hb (by omega)⟩
theorem DD.far {w0 w : World} {gT gP gN gQ gO gS gC gD g j : Nat} {v : Value} {cT cP cN cQ cO cS cC cD : Array Value} (h : DD w0 w gT gP gN gQ gO gS gC gD cT cP cN cQ cO cS cC cD) (hg : gD < g) : DD w0 (w.setCell ⟨g, j, none⟩ v) gT gP gN gQ gO gS gC gD cT cP cN cQ cO cS cC cD := by
  have := h.oT; have := h.oP; have := h.oN; have := h.oQ; have := h.oO; have := h.oS; have := h.oC; have := h.oD
  exact ⟨h.oT, h.oP, h.oN, h.oQ, h.oO, h.oS, h.oC, h.oD, blk_far h.bT (p := ⟨g, j, none⟩) (show gT ≠ g by omega) v, blk_far h.bP (p := ⟨g, j, none⟩) (show gP ≠ g by omega) v, blk_far h.bN (p := ⟨g, j, none⟩) (show gN ≠ g by omega) v, blk_far h.bQ (p := ⟨g, j, none⟩) (show gQ ≠ g by omega) v, blk_far h.bO (p := ⟨g, j, none⟩) (show gO ≠ g by omega) v, blk_far h.bS (p := ⟨g, j, none⟩) (show gS ≠ g by omega) v, blk_far h.bC (p := ⟨g, j, none⟩) (show gC ≠ g by omega) v, blk_far h.bD (p := ⟨g, j, none⟩) (show gD ≠ g by omega) v, below_set h.hb (by omega)⟩
set_option maxHeartbeats 4000000 in
set_option maxRecDepth 100000 in
theorem step1_end (k : Nat) (t n : S27) (h d qh qd q1 q2 : ByteArray) (on : Bool) (sn cc cd : Int) (c8 c9 c10 c11 c12 c13 c14 c15 c16 c17 c18 c19 c20 c21 c22 c23 c24 c25 c26 c27 c28 c29 c30 c31 : Value) (gT gP gN gQ gO gS gC gD : Nat) (w0 w : World) (D : DD w0 w gT gP gN gQ gO gS gC gD #[.int .i64 t.f0, .bool t.f1, .bool t.f2.f0, .bool t.f2.f1, .bool t.f2.f2, .bool t.f2.f3, .int .i64 t.f2.f4, .int .i64 t.f2.f5, .string t.f2.f6, .string t.f2.f7, .int .u32 t.f3, .int .u32 t.f4] #[.string h, .string d] #[.int .i64 n.f0, .bool n.f1, .bool n.f2.f0, .bool n.f2.f1, .bool n.f2.f2, .bool n.f2.f3, .int .i64 n.f2.f4, .int .i64 n.f2.f5, .string n.f2.f6, .string n.f2.f7, .int .u32 n.f3, .int .u32 n.f4] #[.string qh, .string qd] #[.bool on] #[.int .u32 sn] #[.int .i64 cc] #[.int .i64 cd]) (hq : login_numbered.f k qh qd h d n.f3 sn cc cd = some (q1, q2)) (Q : Exit → Act → World → Prop) (hQ : ∀ ts w', DD w0 w' gT gP gN gQ gO gS gC gD #[.int .i64 t.f0, .bool t.f1, .bool t.f2.f0, .bool t.f2.f1, .bool t.f2.f2, .bool t.f2.f3, .int .i64 t.f2.f4, .int .i64 t.f2.f5, .string t.f2.f6, .string t.f2.f7, .int .u32 t.f3, .int .u32 t.f4] #[.string h, .string d] #[.int .i64 n.f0, .bool n.f1, .bool n.f2.f0, .bool n.f2.f1, .bool n.f2.f2, .bool n.f2.f3, .int .i64 n.f2.f4, .int .i64 n.f2.f5, .string n.f2.f6, .string n.f2.f7, .int .u32 n.f3, .int .u32 ((sn + 1) % 4294967296)] #[.string q1, .string q2] #[.bool on] #[.int .u32 sn] #[.int .i64 cc] #[.int .i64 cd] → Q .normal ⟨ts, []⟩ w') :
    Code.wp Tryz.prog (Hand.dropSeq 1 ((Tryz.f19.body).getD .skip)) Q ⟨#[.pointer (some ⟨gC, 0, none⟩), .pointer (some ⟨gD, 0, none⟩), .pointer (some ⟨gO, 0, none⟩), .pointer (some ⟨gT, 0, none⟩), .pointer (some ⟨gN, 0, none⟩), .pointer (some ⟨gQ, 0, none⟩), .pointer (some ⟨gP, 0, none⟩), .pointer (some ⟨gS, 0, none⟩), c8, c9, c10, c11, c12, c13, c14, c15, c16, c17, c18, c19, c20, c21, c22, c23, c24, c25, c26, c27, c28, c29, c30, c31, undef, undef, undef, undef, undef, undef, undef, undef, undef, undef, undef], []⟩ w := by
  have hu1 := Tryz.underlying35
  have hu3 := Tryz.underlying27
  have hu4 := Tryz.underlying24
  have hu5 := Tryz.underlying55
  have HQ := Aside0.mk hq
  have HF := Aside0.mk hQ
  clear hq hQ
  have hQ0 : w.cell? ⟨gQ, 0, none⟩ = some (.string qh) := (blk_cell D.bQ 0).trans rfl
  have hQ1 : w.cell? ⟨gQ, 1, none⟩ = some (.string qd) := (blk_cell D.bQ 1).trans rfl
  have hP0 : w.cell? ⟨gP, 0, none⟩ = some (.string h) := (blk_cell D.bP 0).trans rfl
  have hP1 : w.cell? ⟨gP, 1, none⟩ = some (.string d) := (blk_cell D.bP 1).trans rfl
  have hN10 : w.cell? ⟨gN, 10, none⟩ = some (.int .u32 n.f3) := (blk_cell D.bN 10).trans rfl
  have hS0 : w.cell? ⟨gS, 0, none⟩ = some (.int .u32 sn) := (blk_cell D.bS 0).trans rfl
  have hC0 : w.cell? ⟨gC, 0, none⟩ = some (.int .i64 cc) := (blk_cell D.bC 0).trans rfl
  have hD0 : w.cell? ⟨gD, 0, none⟩ = some (.int .i64 cd) := (blk_cell D.bD 0).trans rfl
  conv => arg 2; whnf
  go_wp2_with (go_at_call 23; (with_reducible refine (login_numbered.calls k qh qd h d n.f3 sn cc cd q1 q2 _ HQ.out).mono ?_); rintro e w1 ⟨rfl, hb⟩; have n0_ := D.below hb; clear hb D hQ0 hQ1 hP0 hP1 hN10 hS0 hC0 hD0; have D := n0_; clear n0_; have hQ0 : w1.cell? ⟨gQ, 0, none⟩ = some (.string qh) := (blk_cell D.bQ 0).trans rfl; have hQ1 : w1.cell? ⟨gQ, 1, none⟩ = some (.string qd) := (blk_cell D.bQ 1).trans rfl; have fQ0 := blk_frozen D.bQ 0; have fQ1 := blk_frozen D.bQ 1; have hS0 : w1.cell? ⟨gS, 0, none⟩ = some (.int .u32 sn) := (blk_cell D.bS 0).trans rfl; have hN11 : w1.cell? ⟨gN, 11, none⟩ = some (.int .u32 n.f4) := (blk_cell D.bN 11).trans rfl; have fN11 := blk_frozen D.bN 11; have hne : gS ≠ gQ := Ne.symm (Nat.ne_of_lt (Nat.lt_trans D.oO D.oS)); have hne2 : gN ≠ gQ := Nat.ne_of_lt D.oQ; have hne3 := hne.symm; have hne4 := hne2.symm)
  exact HF.out _ _ (((D.putQ rfl).putQ rfl).putN rfl)
theorem step1_post (c₀ : Frame) (cs : List Frame) (u : FrameMode) (R : Ending → FrameMode → World → Prop) (ts : Array Value) (w : World) (hR : R (.returned (.tuple #[])) u w) : bodyPostS Tryz.prog Tryz.f19 c₀ cs R .normal ⟨ts, []⟩ ({ c₀ with mode := u } :: cs) w := ⟨rfl, u, rfl, .tuple #[], by simp [results, Tryz.results19], hR⟩
theorem wpS_at {P : Program} {c : Code} {Q : Exit → Act → List Frame → World → Prop} {a a' : Act} {cs : List Frame} {w : World} (e : a = a') (h : c.wpS P Q a' cs w) : c.wpS P Q a cs w := e ▸ h
set_option maxHeartbeats 4000000 in
set_option maxRecDepth 100000 in
theorem step1_idle (k : Nat) (t n : S27) (h d qh qd q1 q2 : ByteArray) (on : Bool) (sn cc cd : Int) (gT gP gN gQ gO gS gC gD : Nat) (w0 w : World) (D : DD w0 w gT gP gN gQ gO gS gC gD #[.int .i64 t.f0, .bool t.f1, .bool t.f2.f0, .bool t.f2.f1, .bool t.f2.f2, .bool t.f2.f3, .int .i64 t.f2.f4, .int .i64 t.f2.f5, .string t.f2.f6, .string t.f2.f7, .int .u32 t.f3, .int .u32 t.f4] #[.string h, .string d] #[.int .i64 n.f0, .bool n.f1, .bool n.f2.f0, .bool n.f2.f1, .bool n.f2.f2, .bool n.f2.f3, .int .i64 n.f2.f4, .int .i64 n.f2.f5, .string n.f2.f6, .string n.f2.f7, .int .u32 n.f3, .int .u32 n.f4] #[.string qh, .string qd] #[.bool on] #[.int .u32 sn] #[.int .i64 cc] #[.int .i64 cd]) (hq : login_numbered.f k qh qd h d n.f3 sn cc cd = some (q1, q2)) :
    CallsD Tryz.prog 19 #[.pointer (some ⟨gC, 0, none⟩), .pointer (some ⟨gD, 0, none⟩), .pointer (some ⟨gO, 0, none⟩), .pointer (some ⟨gT, 0, none⟩), .pointer (some ⟨gN, 0, none⟩), .pointer (some ⟨gQ, 0, none⟩), .pointer (some ⟨gP, 0, none⟩), .pointer (some ⟨gS, 0, none⟩)] .returning w fun e u' w' => e = .returned (.tuple #[]) ∧ u' = .returning ∧ DD w0 w' gT gP gN gQ gO gS gC gD #[.int .i64 t.f0, .bool t.f1, .bool t.f2.f0, .bool t.f2.f1, .bool t.f2.f2, .bool t.f2.f3, .int .i64 t.f2.f4, .int .i64 t.f2.f5, .string t.f2.f6, .string t.f2.f7, .int .u32 t.f3, .int .u32 t.f4] #[.string h, .string d] #[.int .i64 n.f0, .bool n.f1, .bool n.f2.f0, .bool n.f2.f1, .bool n.f2.f2, .bool n.f2.f3, .int .i64 n.f2.f4, .int .i64 n.f2.f5, .string n.f2.f6, .string n.f2.f7, .int .u32 n.f3, .int .u32 ((sn + 1) % 4294967296)] #[.string q1, .string q2] #[.bool on] #[.int .u32 sn] #[.int .i64 cc] #[.int .i64 cd] := by
  have HQ := Aside0.mk hq
  clear hq
  refine callsD_of_wpS Tryz.func19 rfl fun c₀ cs hu => ?_
  apply wpS_seq
  apply wpS_seq
  apply wpS_region
  have hta : ∀ w, (Instr.typeAssert .nilIface 20 52 true).run Tryz.prog w = .ok (.tuple #[.nilIface, .bool false]) w := fun w => by kernel_rfl
  simp [wpOpsS, go_sem, recoverD, hu, Tryz.ntmps19, Exit.thenS, hta]
  refine wpS_at (a' := ⟨#[.pointer (some ⟨gC, 0, none⟩), .pointer (some ⟨gD, 0, none⟩), .pointer (some ⟨gO, 0, none⟩), .pointer (some ⟨gT, 0, none⟩), .pointer (some ⟨gN, 0, none⟩), .pointer (some ⟨gQ, 0, none⟩), .pointer (some ⟨gP, 0, none⟩), .pointer (some ⟨gS, 0, none⟩), .nilIface, .bool false, undef, .tuple #[.nilIface, .bool false], .nilIface, .tuple #[.nilIface, .bool false], .nilIface, .bool false, undef, undef, undef, undef, undef, undef, undef, undef, undef, undef, undef, undef, undef, undef, undef, undef, undef, undef, undef, undef, undef, undef, undef, undef, undef, undef, undef], []⟩) (by kernel_rfl) ?_
  refine wpS_of_wp ?_
  clear hta
  go_wp2
  refine wpS_of_wp ?_
  refine step1_end k t n h d qh qd q1 q2 on sn cc cd _ _ _ _ _ _ _ _ _ _ _ _ _ _ _ _ _ _ _ _ _ _ _ _ gT gP gN gQ gO gS gC gD w0 w D HQ.out _ (fun ts w' hd => ?_)
  have hc : { c₀ with mode := .returning } = c₀ := by cases c₀; cases hu; rfl
  have hp := step1_post c₀ cs .returning (ts := ts) (w := w') (R := fun e u' w' => e = .returned (.tuple #[]) ∧ u' = .returning ∧ DD w0 w' gT gP gN gQ gO gS gC gD #[.int .i64 t.f0, .bool t.f1, .bool t.f2.f0, .bool t.f2.f1, .bool t.f2.f2, .bool t.f2.f3, .int .i64 t.f2.f4, .int .i64 t.f2.f5, .string t.f2.f6, .string t.f2.f7, .int .u32 t.f3, .int .u32 t.f4] #[.string h, .string d] #[.int .i64 n.f0, .bool n.f1, .bool n.f2.f0, .bool n.f2.f1, .bool n.f2.f2, .bool n.f2.f3, .int .i64 n.f2.f4, .int .i64 n.f2.f5, .string n.f2.f6, .string n.f2.f7, .int .u32 n.f3, .int .u32 ((sn + 1) % 4294967296)] #[.string q1, .string q2] #[.bool on] #[.int .u32 sn] #[.int .i64 cc] #[.int .i64 cd]) ⟨rfl, rfl, hd⟩
  rw [hc] at hp
  exact hp
theorem step_world {P : Program} {n : Nat} {args : Array Value} {w : World} {Q : Ending → World → Prop} (S : World → Prop) (hS : S w) (h : ∀ w', S w' → Calls P n args w' Q) : Calls P n args w Q := h w hS
theorem DD.grown {w0 w w1 : World} {gT gP gN gQ gO gS gC gD g : Nat} {cT cP cN cQ cO cS cC cD : Array Value} (h : DD w0 w gT gP gN gQ gO gS gC gD cT cP cN cQ cO cS cC cD) (hg : w.grownBy w1 (some g)) (hgD : gD < g) : DD w0 w1 gT gP gN gQ gO gS gC gD cT cP cN cQ cO cS cC cD := by
  have := h.oT; have := h.oP; have := h.oN; have := h.oQ; have := h.oO; have := h.oS; have := h.oC; have := h.oD
  exact ⟨h.oT, h.oP, h.oN, h.oQ, h.oO, h.oS, h.oC, h.oD, gb_blk hg h.bT (show gT ≠ g by omega), gb_blk hg h.bP (show gP ≠ g by omega), gb_blk hg h.bN (show gN ≠ g by omega), gb_blk hg h.bQ (show gQ ≠ g by omega), gb_blk hg h.bO (show gO ≠ g by omega), gb_blk hg h.bS (show gS ≠ g by omega), gb_blk hg h.bC (show gC ≠ g by omega), gb_blk hg h.bD (show gD ≠ g by omega), ⟨hg.os.trans h.hb.os, hg.tape.trans h.hb.tape, hg.output.trans h.hb.output, Nat.le_trans h.hb.size hg.size, fun k hk => (hg.block k (Nat.lt_of_lt_of_le hk h.hb.size) (fun e => by injection e; omega)).trans (h.hb.block k hk)⟩⟩
theorem as_kept (g : Nat) (c d : Int) (w : World) (hG : Glob w) (hg : w.heap[g]? = some (.cells #[.int .i64 0, .int .i64 0] 55 (0, 0))) :
    Calls Tryz.prog 20 #[.iface 55 (.agg #[.int .i64 c, .int .i64 d]), .iface 57 (.pointer (some ⟨g, 0, none⟩))] w fun e w' => e = .returned (.bool true) ∧ w'.heap[g]? = some (.cells #[.int .i64 c, .int .i64 d] 55 (0, 0)) ∧ w.grownBy w' (some g) := by
  refine (as_hit g c d w hG hg).mono ?_
  rintro e w' ⟨rfl, rfl⟩
  have hb : ∀ o1 o2 o3 o4 : Obj, Below w.heap.size w ((((w.alloc o1).alloc o2).alloc o3).alloc o4) := fun o1 o2 o3 o4 => below_alloc (below_alloc (below_alloc (below_alloc (Below.refl _ _) _) _) _) _
  refine ⟨rfl, blk_put (cs := #[.int .i64 c, .int .i64 0]) (blk_put (cs := #[.int .i64 0, .int .i64 0]) (blk_below hg (hb _ _ _ _)) 0 _ rfl) 1 _ rfl, ?_⟩
  generalize hw : ((((w.alloc _).alloc _).alloc _).alloc _) = w4
  have hB : Below w.heap.size w w4 := hw ▸ hb _ _ _ _
  refine ⟨hB.os, hB.tape, hB.output, by simpa [World.setCell] using hB.size, fun k hk hne => ?_⟩
  have hn : k ≠ g := fun e => hne (by rw [e])
  exact (Below.heap_setCell _ _ _ _ hn).trans ((Below.heap_setCell _ _ _ _ hn).trans (hB.block k hk))
set_option maxHeartbeats 4000000 in
set_option maxRecDepth 100000 in
theorem step1_caught (k : Nat) (t : S27) (h d qh qd hd q1 q2 : ByteArray) (on : Bool) (sn cc cd c d_ tag : Int) (gT gP gN gQ gO gS gC gD : Nat) (w0 w : World) (HG : Aside0 (Glob w0)) (D : DD w0 w gT gP gN gQ gO gS gC gD #[.int .i64 t.f0, .bool t.f1, .bool t.f2.f0, .bool t.f2.f1, .bool t.f2.f2, .bool t.f2.f3, .int .i64 t.f2.f4, .int .i64 t.f2.f5, .string t.f2.f6, .string t.f2.f7, .int .u32 t.f3, .int .u32 t.f4] #[.string h, .string d] #[.int .i64 0, .bool false, .bool false, .bool false, .bool false, .bool false, .int .i64 0, .int .i64 0, .string (⟨#[]⟩ : ByteArray), .string (⟨#[]⟩ : ByteArray), .int .u32 0, .int .u32 0] #[.string qh, .string qd] #[.bool on] #[.int .u32 sn] #[.int .i64 cc] #[.int .i64 cd]) (hT : ipdu_Tag.f k h d = some tag) (hH : ipdu_Head.f k 35 false 0 tag = some hd) (hq : login_numbered.f k hd (⟨#[]⟩ : ByteArray) h d t.f3 sn c d_ = some (q1, q2)) :
    CallsD Tryz.prog 19 #[.pointer (some ⟨gC, 0, none⟩), .pointer (some ⟨gD, 0, none⟩), .pointer (some ⟨gO, 0, none⟩), .pointer (some ⟨gT, 0, none⟩), .pointer (some ⟨gN, 0, none⟩), .pointer (some ⟨gQ, 0, none⟩), .pointer (some ⟨gP, 0, none⟩), .pointer (some ⟨gS, 0, none⟩)] (.panicking [refV c d_]) w fun e u' w' => e = .returned (.tuple #[]) ∧ u' = .panicking [{ v := .iface 55 (.agg #[.int .i64 c, .int .i64 d_]), recovered := true }] ∧ DD w0 w' gT gP gN gQ gO gS gC gD #[.int .i64 t.f0, .bool t.f1, .bool t.f2.f0, .bool t.f2.f1, .bool t.f2.f2, .bool t.f2.f3, .int .i64 t.f2.f4, .int .i64 t.f2.f5, .string t.f2.f6, .string t.f2.f7, .int .u32 t.f3, .int .u32 t.f4] #[.string h, .string d] #[.int .i64 t.f0, .bool t.f1, .bool t.f2.f0, .bool t.f2.f1, .bool t.f2.f2, .bool t.f2.f3, .int .i64 t.f2.f4, .int .i64 t.f2.f5, .string t.f2.f6, .string t.f2.f7, .int .u32 t.f3, .int .u32 ((sn + 1) % 4294967296)] #[.string q1, .string q2] #[.bool false] #[.int .u32 sn] #[.int .i64 c] #[.int .i64 d_] := by
  have HQ := Aside0.mk hq
  have HT := Aside0.mk hT
  have HH := Aside0.mk hH
  clear hq hT hH
  refine callsD_of_wpS Tryz.func19 rfl fun c₀ cs hu => ?_
  apply wpS_seq
  apply wpS_seq
  apply wpS_region
  have hta : ∀ w, (Instr.typeAssert (.iface 55 (.agg #[.int .i64 c, .int .i64 d_])) 20 52 true).run Tryz.prog w = .ok (.tuple #[.iface 55 (.agg #[.int .i64 c, .int .i64 d_]), .bool true]) w := fun w => by kernel_rfl
  simp [wpOpsS, go_sem, recoverD, hu, Tryz.ntmps19, Exit.thenS, hta]
  refine wpS_at (a' := ⟨#[.pointer (some ⟨gC, 0, none⟩), .pointer (some ⟨gD, 0, none⟩), .pointer (some ⟨gO, 0, none⟩), .pointer (some ⟨gT, 0, none⟩), .pointer (some ⟨gN, 0, none⟩), .pointer (some ⟨gQ, 0, none⟩), .pointer (some ⟨gP, 0, none⟩), .pointer (some ⟨gS, 0, none⟩), .iface 55 (.agg #[.int .i64 c, .int .i64 d_]), .bool true, undef, .tuple #[.iface 55 (.agg #[.int .i64 c, .int .i64 d_]), .bool true], .iface 55 (.agg #[.int .i64 c, .int .i64 d_]), .tuple #[.iface 55 (.agg #[.int .i64 c, .int .i64 d_]), .bool true], .iface 55 (.agg #[.int .i64 c, .int .i64 d_]), .bool true, undef, undef, undef, undef, undef, undef, undef, undef, undef, undef, undef, undef, undef, undef, undef, undef, undef, undef, undef, undef, undef, undef, undef, undef, undef, undef, undef], []⟩) (by kernel_rfl) ?_
  refine wpS_of_wp ?_
  clear hta
  go_wp2_with fail
  refine step_world (fun w' => DD w0 w' gT gP gN gQ gO gS gC gD #[.int .i64 t.f0, .bool t.f1, .bool t.f2.f0, .bool t.f2.f1, .bool t.f2.f2, .bool t.f2.f3, .int .i64 t.f2.f4, .int .i64 t.f2.f5, .string t.f2.f6, .string t.f2.f7, .int .u32 t.f3, .int .u32 t.f4] #[.string h, .string d] #[.int .i64 0, .bool false, .bool false, .bool false, .bool false, .bool false, .int .i64 0, .int .i64 0, .string (⟨#[]⟩ : ByteArray), .string (⟨#[]⟩ : ByteArray), .int .u32 0, .int .u32 0] #[.string qh, .string qd] #[.bool on] #[.int .u32 sn] #[.int .i64 cc] #[.int .i64 cd] ∧ w'.heap[w.heap.size]? = some (.cells #[.int .i64 0, .int .i64 0] 55 (0, 0))) ⟨D.below (below_alloc (Below.refl _ _) _), heap_alloc_new w _⟩ ?_
  have hlt := blk_lt D.bD
  obtain ⟨gr, hgr⟩ : ∃ g_, w.heap.size = g_ := ⟨_, rfl⟩
  rw [hgr] at hlt ⊢
  clear hgr D
  rintro w1 ⟨D, hr⟩
  (with_reducible refine (as_kept gr c d_ _ (Glob.keep HG.out D.hb) hr).mono ?_)
  rintro e w2 ⟨rfl, hr2, hg2⟩
  have n0_ := D.grown hg2 hlt
  clear D hr hg2
  have D := n0_
  clear n0_
  have r0 : w2.cell? ⟨gr, 0, none⟩ = some (.int .i64 c) := (blk_cell hr2 0).trans rfl
  have r1 : w2.cell? ⟨gr, 1, none⟩ = some (.int .i64 d_) := (blk_cell hr2 1).trans rfl
  have hC0 : w2.cell? ⟨gC, 0, none⟩ = some (.int .i64 cc) := (blk_cell D.bC 0).trans rfl
  have hD0 : w2.cell? ⟨gD, 0, none⟩ = some (.int .i64 cd) := (blk_cell D.bD 0).trans rfl
  have hO0 : w2.cell? ⟨gO, 0, none⟩ = some (.bool on) := (blk_cell D.bO 0).trans rfl
  have fC0 := blk_frozen D.bC 0
  have fD0 := blk_frozen D.bD 0
  have fO0 := blk_frozen D.bO 0
  have x1 : gC ≠ gr := by have := D.oD; omega
  have x2 : gD ≠ gr := by omega
  have x3 : gO ≠ gr := by have := D.oS; have := D.oC; have := D.oD; omega
  have x4 := x1.symm
  have x5 := x2.symm
  have x6 := x3.symm
  have x7 : gC ≠ gD := by have := D.oD; omega
  have x8 : gO ≠ gC := by have := D.oS; have := D.oC; omega
  have x9 : gO ≠ gD := by have := D.oS; have := D.oC; have := D.oD; omega
  have y7 := x7.symm
  have y8 := x8.symm
  have y9 := x9.symm
  clear hlt
  go_upto_region 6 with (fail)
  refine Hand.at_world (fun w' => DD w0 w' gT gP gN gQ gO gS gC gD #[.int .i64 t.f0, .bool t.f1, .bool t.f2.f0, .bool t.f2.f1, .bool t.f2.f2, .bool t.f2.f3, .int .i64 t.f2.f4, .int .i64 t.f2.f5, .string t.f2.f6, .string t.f2.f7, .int .u32 t.f3, .int .u32 t.f4] #[.string h, .string d] #[.int .i64 0, .bool false, .bool false, .bool false, .bool false, .bool false, .int .i64 0, .int .i64 0, .string (⟨#[]⟩ : ByteArray), .string (⟨#[]⟩ : ByteArray), .int .u32 0, .int .u32 0] #[.string qh, .string qd] #[.bool false] #[.int .u32 sn] #[.int .i64 c] #[.int .i64 d_]) (((D.putC rfl).putD rfl).putO rfl) ?_
  clear r0 r1 hr2 x1 x2 x3 x4 x5 x6 x7 x8 x9 y7 y8 y9 hC0 hD0 hO0 fC0 fD0 fO0
  clear D
  rintro w3 D
  have hT0 : w3.cell? ⟨gT, 0, none⟩ = some (.int .i64 t.f0) := (blk_cell D.bT 0).trans rfl
  have hT1 : w3.cell? ⟨gT, 1, none⟩ = some (.bool t.f1) := (blk_cell D.bT 1).trans rfl
  have hT2 : w3.cell? ⟨gT, 2, none⟩ = some (.bool t.f2.f0) := (blk_cell D.bT 2).trans rfl
  have hT3 : w3.cell? ⟨gT, 3, none⟩ = some (.bool t.f2.f1) := (blk_cell D.bT 3).trans rfl
  have hT4 : w3.cell? ⟨gT, 4, none⟩ = some (.bool t.f2.f2) := (blk_cell D.bT 4).trans rfl
  have hT5 : w3.cell? ⟨gT, 5, none⟩ = some (.bool t.f2.f3) := (blk_cell D.bT 5).trans rfl
  have hT6 : w3.cell? ⟨gT, 6, none⟩ = some (.int .i64 t.f2.f4) := (blk_cell D.bT 6).trans rfl
  have hT7 : w3.cell? ⟨gT, 7, none⟩ = some (.int .i64 t.f2.f5) := (blk_cell D.bT 7).trans rfl
  have hT8 : w3.cell? ⟨gT, 8, none⟩ = some (.string t.f2.f6) := (blk_cell D.bT 8).trans rfl
  have hT9 : w3.cell? ⟨gT, 9, none⟩ = some (.string t.f2.f7) := (blk_cell D.bT 9).trans rfl
  have hT10 : w3.cell? ⟨gT, 10, none⟩ = some (.int .u32 t.f3) := (blk_cell D.bT 10).trans rfl
  have hT11 : w3.cell? ⟨gT, 11, none⟩ = some (.int .u32 t.f4) := (blk_cell D.bT 11).trans rfl
  have hN0 : w3.cell? ⟨gN, 0, none⟩ = some (.int .i64 0) := (blk_cell D.bN 0).trans rfl
  have hN1 : w3.cell? ⟨gN, 1, none⟩ = some (.bool false) := (blk_cell D.bN 1).trans rfl
  have hN2 : w3.cell? ⟨gN, 2, none⟩ = some (.bool false) := (blk_cell D.bN 2).trans rfl
  have hN3 : w3.cell? ⟨gN, 3, none⟩ = some (.bool false) := (blk_cell D.bN 3).trans rfl
  have hN4 : w3.cell? ⟨gN, 4, none⟩ = some (.bool false) := (blk_cell D.bN 4).trans rfl
  have hN5 : w3.cell? ⟨gN, 5, none⟩ = some (.bool false) := (blk_cell D.bN 5).trans rfl
  have hN6 : w3.cell? ⟨gN, 6, none⟩ = some (.int .i64 0) := (blk_cell D.bN 6).trans rfl
  have hN7 : w3.cell? ⟨gN, 7, none⟩ = some (.int .i64 0) := (blk_cell D.bN 7).trans rfl
  have hN8 : w3.cell? ⟨gN, 8, none⟩ = some (.string (⟨#[]⟩ : ByteArray)) := (blk_cell D.bN 8).trans rfl
  have hN9 : w3.cell? ⟨gN, 9, none⟩ = some (.string (⟨#[]⟩ : ByteArray)) := (blk_cell D.bN 9).trans rfl
  have hN10 : w3.cell? ⟨gN, 10, none⟩ = some (.int .u32 0) := (blk_cell D.bN 10).trans rfl
  have hN11 : w3.cell? ⟨gN, 11, none⟩ = some (.int .u32 0) := (blk_cell D.bN 11).trans rfl
  have fN0 := blk_frozen D.bN 0
  have fN1 := blk_frozen D.bN 1
  have fN2 := blk_frozen D.bN 2
  have fN3 := blk_frozen D.bN 3
  have fN4 := blk_frozen D.bN 4
  have fN5 := blk_frozen D.bN 5
  have fN6 := blk_frozen D.bN 6
  have fN7 := blk_frozen D.bN 7
  have fN8 := blk_frozen D.bN 8
  have fN9 := blk_frozen D.bN 9
  have fN10 := blk_frozen D.bN 10
  have fN11 := blk_frozen D.bN 11
  have hQ1 : w3.cell? ⟨gQ, 1, none⟩ = some (.string qd) := (blk_cell D.bQ 1).trans rfl
  have fQ1 := blk_frozen D.bQ 1
  have x1 : gT ≠ gN := by have := D.oP; have := D.oN; omega
  have x2 := x1.symm
  have x3 : gQ ≠ gN := by have := D.oQ; omega
  have x4 := x3.symm
  go_upto_region 7 with (fail)
  refine Hand.at_world (fun w' => DD w0 w' gT gP gN gQ gO gS gC gD #[.int .i64 t.f0, .bool t.f1, .bool t.f2.f0, .bool t.f2.f1, .bool t.f2.f2, .bool t.f2.f3, .int .i64 t.f2.f4, .int .i64 t.f2.f5, .string t.f2.f6, .string t.f2.f7, .int .u32 t.f3, .int .u32 t.f4] #[.string h, .string d] #[.int .i64 t.f0, .bool t.f1, .bool t.f2.f0, .bool t.f2.f1, .bool t.f2.f2, .bool t.f2.f3, .int .i64 t.f2.f4, .int .i64 t.f2.f5, .string t.f2.f6, .string t.f2.f7, .int .u32 t.f3, .int .u32 t.f4] #[.string qh, .string (⟨#[]⟩ : ByteArray)] #[.bool false] #[.int .u32 sn] #[.int .i64 c] #[.int .i64 d_]) ?_ ?_
  · refine DD.putQ (cQ := #[.string qh, .string qd]) ?_ rfl
    refine DD.putN (cN := #[.int .i64 t.f0, .bool t.f1, .bool t.f2.f0, .bool t.f2.f1, .bool t.f2.f2, .bool t.f2.f3, .int .i64 t.f2.f4, .int .i64 t.f2.f5, .string t.f2.f6, .string t.f2.f7, .int .u32 t.f3, .int .u32 0]) ?_ rfl
    refine DD.putN (cN := #[.int .i64 t.f0, .bool t.f1, .bool t.f2.f0, .bool t.f2.f1, .bool t.f2.f2, .bool t.f2.f3, .int .i64 t.f2.f4, .int .i64 t.f2.f5, .string t.f2.f6, .string t.f2.f7, .int .u32 0, .int .u32 0]) ?_ rfl
    refine DD.putN (cN := #[.int .i64 t.f0, .bool t.f1, .bool t.f2.f0, .bool t.f2.f1, .bool t.f2.f2, .bool t.f2.f3, .int .i64 t.f2.f4, .int .i64 t.f2.f5, .string t.f2.f6, .string (⟨#[]⟩ : ByteArray), .int .u32 0, .int .u32 0]) ?_ rfl
    refine DD.putN (cN := #[.int .i64 t.f0, .bool t.f1, .bool t.f2.f0, .bool t.f2.f1, .bool t.f2.f2, .bool t.f2.f3, .int .i64 t.f2.f4, .int .i64 t.f2.f5, .string (⟨#[]⟩ : ByteArray), .string (⟨#[]⟩ : ByteArray), .int .u32 0, .int .u32 0]) ?_ rfl
    refine DD.putN (cN := #[.int .i64 t.f0, .bool t.f1, .bool t.f2.f0, .bool t.f2.f1, .bool t.f2.f2, .bool t.f2.f3, .int .i64 t.f2.f4, .int .i64 0, .string (⟨#[]⟩ : ByteArray), .string (⟨#[]⟩ : ByteArray), .int .u32 0, .int .u32 0]) ?_ rfl
    refine DD.putN (cN := #[.int .i64 t.f0, .bool t.f1, .bool t.f2.f0, .bool t.f2.f1, .bool t.f2.f2, .bool t.f2.f3, .int .i64 0, .int .i64 0, .string (⟨#[]⟩ : ByteArray), .string (⟨#[]⟩ : ByteArray), .int .u32 0, .int .u32 0]) ?_ rfl
    refine DD.putN (cN := #[.int .i64 t.f0, .bool t.f1, .bool t.f2.f0, .bool t.f2.f1, .bool t.f2.f2, .bool false, .int .i64 0, .int .i64 0, .string (⟨#[]⟩ : ByteArray), .string (⟨#[]⟩ : ByteArray), .int .u32 0, .int .u32 0]) ?_ rfl
    refine DD.putN (cN := #[.int .i64 t.f0, .bool t.f1, .bool t.f2.f0, .bool t.f2.f1, .bool false, .bool false, .int .i64 0, .int .i64 0, .string (⟨#[]⟩ : ByteArray), .string (⟨#[]⟩ : ByteArray), .int .u32 0, .int .u32 0]) ?_ rfl
    refine DD.putN (cN := #[.int .i64 t.f0, .bool t.f1, .bool t.f2.f0, .bool false, .bool false, .bool false, .int .i64 0, .int .i64 0, .string (⟨#[]⟩ : ByteArray), .string (⟨#[]⟩ : ByteArray), .int .u32 0, .int .u32 0]) ?_ rfl
    refine DD.putN (cN := #[.int .i64 t.f0, .bool t.f1, .bool false, .bool false, .bool false, .bool false, .int .i64 0, .int .i64 0, .string (⟨#[]⟩ : ByteArray), .string (⟨#[]⟩ : ByteArray), .int .u32 0, .int .u32 0]) ?_ rfl
    refine DD.putN (cN := #[.int .i64 t.f0, .bool false, .bool false, .bool false, .bool false, .bool false, .int .i64 0, .int .i64 0, .string (⟨#[]⟩ : ByteArray), .string (⟨#[]⟩ : ByteArray), .int .u32 0, .int .u32 0]) ?_ rfl
    refine DD.putN (cN := #[.int .i64 0, .bool false, .bool false, .bool false, .bool false, .bool false, .int .i64 0, .int .i64 0, .string (⟨#[]⟩ : ByteArray), .string (⟨#[]⟩ : ByteArray), .int .u32 0, .int .u32 0]) ?_ rfl
    exact D
  clear hT0 hN0 fN0 hT1 hN1 fN1 hT2 hN2 fN2 hT3 hN3 fN3 hT4 hN4 fN4 hT5 hN5 fN5 hT6 hN6 fN6 hT7 hN7 fN7 hT8 hN8 fN8 hT9 hN9 fN9 hT10 hN10 fN10 hT11 hN11 fN11 fQ1 hQ1 x1 x2 x3 x4 D
  rintro w4 D
  have hP0 : w4.cell? ⟨gP, 0, none⟩ = some (.string h) := (blk_cell D.bP 0).trans rfl
  have hP1 : w4.cell? ⟨gP, 1, none⟩ = some (.string d) := (blk_cell D.bP 1).trans rfl
  go_wp2_with (first
    | (go_at_call 22; (with_reducible refine (ipdu_Tag.calls k h d tag _ HT.out).mono ?_); rintro e w5 ⟨rfl, hb⟩; have n0_ := D.below hb; clear hb D hP0 hP1; have D := n0_; clear n0_)
    | (go_at_call 21; (with_reducible refine (ipdu_Head.calls k 35 false 0 tag hd _ HH.out).mono ?_); rintro e w6 ⟨rfl, hb⟩; have n0_ := D.below hb; clear hb D; have D := n0_; clear n0_; have hQ0 : w6.cell? ⟨gQ, 0, none⟩ = some (.string qh) := (blk_cell D.bQ 0).trans rfl; have fQ0 := blk_frozen D.bQ 0))
  refine wpS_of_wp ?_
  refine step1_end k t ⟨t.f0, t.f1, t.f2, t.f3, t.f4⟩ h d hd (⟨#[]⟩ : ByteArray) q1 q2 false sn c d_ _ _ _ _ _ _ _ _ _ _ _ _ _ _ _ _ _ _ _ _ _ _ _ _ gT gP gN gQ gO gS gC gD w0 _ (D.putQ rfl) HQ.out _ (fun ts w' hd => ?_)
  exact step1_post c₀ cs _ (ts := ts) (w := w') (R := fun e u' w' => e = .returned (.tuple #[]) ∧ u' = .panicking [{ v := .iface 55 (.agg #[.int .i64 c, .int .i64 d_]), recovered := true }] ∧ DD w0 w' gT gP gN gQ gO gS gC gD #[.int .i64 t.f0, .bool t.f1, .bool t.f2.f0, .bool t.f2.f1, .bool t.f2.f2, .bool t.f2.f3, .int .i64 t.f2.f4, .int .i64 t.f2.f5, .string t.f2.f6, .string t.f2.f7, .int .u32 t.f3, .int .u32 t.f4] #[.string h, .string d] #[.int .i64 t.f0, .bool t.f1, .bool t.f2.f0, .bool t.f2.f1, .bool t.f2.f2, .bool t.f2.f3, .int .i64 t.f2.f4, .int .i64 t.f2.f5, .string t.f2.f6, .string t.f2.f7, .int .u32 t.f3, .int .u32 ((sn + 1) % 4294967296)] #[.string q1, .string q2] #[.bool false] #[.int .u32 sn] #[.int .i64 c] #[.int .i64 d_]) ⟨rfl, rfl, hd⟩
theorem DD.start (w : World) (cT cP cN cQ cO cS cC cD : Array Value) : DD w ((((((((w.alloc (.cells cT 27)).alloc (.cells cP 35)).alloc (.cells cN 27)).alloc (.cells cQ 35)).alloc (.cells cO 4)).alloc (.cells cS 25)).alloc (.cells cC 3)).alloc (.cells cD 3)) (w.heap.size) (w.heap.size + 1) (w.heap.size + 1 + 1) (w.heap.size + 1 + 1 + 1) (w.heap.size + 1 + 1 + 1 + 1) (w.heap.size + 1 + 1 + 1 + 1 + 1) (w.heap.size + 1 + 1 + 1 + 1 + 1 + 1) (w.heap.size + 1 + 1 + 1 + 1 + 1 + 1 + 1) cT cP cN cQ cO cS cC cD := by
  have hz : ∀ (W : World) (o : Obj), (W.alloc o).heap.size = W.heap.size + 1 := fun W o => Array.size_push _
  have bT : (w.alloc (.cells cT 27)).heap[w.heap.size]? = some (.cells cT 27) := by exact heap_alloc_new _ _
  have bP : ((w.alloc (.cells cT 27)).alloc (.cells cP 35)).heap[w.heap.size + 1]? = some (.cells cP 35) := by rw [← hz w (.cells cT 27)]; exact heap_alloc_new _ _
  have bN : (((w.alloc (.cells cT 27)).alloc (.cells cP 35)).alloc (.cells cN 27)).heap[w.heap.size + 1 + 1]? = some (.cells cN 27) := by rw [← hz w (.cells cT 27), ← hz (w.alloc (.cells cT 27)) (.cells cP 35)]; exact heap_alloc_new _ _
  have bQ : ((((w.alloc (.cells cT 27)).alloc (.cells cP 35)).alloc (.cells cN 27)).alloc (.cells cQ 35)).heap[w.heap.size + 1 + 1 + 1]? = some (.cells cQ 35) := by rw [← hz w (.cells cT 27), ← hz (w.alloc (.cells cT 27)) (.cells cP 35), ← hz ((w.alloc (.cells cT 27)).alloc (.cells cP 35)) (.cells cN 27)]; exact heap_alloc_new _ _
  have bO : (((((w.alloc (.cells cT 27)).alloc (.cells cP 35)).alloc (.cells cN 27)).alloc (.cells cQ 35)).alloc (.cells cO 4)).heap[w.heap.size + 1 + 1 + 1 + 1]? = some (.cells cO 4) := by rw [← hz w (.cells cT 27), ← hz (w.alloc (.cells cT 27)) (.cells cP 35), ← hz ((w.alloc (.cells cT 27)).alloc (.cells cP 35)) (.cells cN 27), ← hz (((w.alloc (.cells cT 27)).alloc (.cells cP 35)).alloc (.cells cN 27)) (.cells cQ 35)]; exact heap_alloc_new _ _
  have bS : ((((((w.alloc (.cells cT 27)).alloc (.cells cP 35)).alloc (.cells cN 27)).alloc (.cells cQ 35)).alloc (.cells cO 4)).alloc (.cells cS 25)).heap[w.heap.size + 1 + 1 + 1 + 1 + 1]? = some (.cells cS 25) := by rw [← hz w (.cells cT 27), ← hz (w.alloc (.cells cT 27)) (.cells cP 35), ← hz ((w.alloc (.cells cT 27)).alloc (.cells cP 35)) (.cells cN 27), ← hz (((w.alloc (.cells cT 27)).alloc (.cells cP 35)).alloc (.cells cN 27)) (.cells cQ 35), ← hz ((((w.alloc (.cells cT 27)).alloc (.cells cP 35)).alloc (.cells cN 27)).alloc (.cells cQ 35)) (.cells cO 4)]; exact heap_alloc_new _ _
  have bC : (((((((w.alloc (.cells cT 27)).alloc (.cells cP 35)).alloc (.cells cN 27)).alloc (.cells cQ 35)).alloc (.cells cO 4)).alloc (.cells cS 25)).alloc (.cells cC 3)).heap[w.heap.size + 1 + 1 + 1 + 1 + 1 + 1]? = some (.cells cC 3) := by rw [← hz w (.cells cT 27), ← hz (w.alloc (.cells cT 27)) (.cells cP 35), ← hz ((w.alloc (.cells cT 27)).alloc (.cells cP 35)) (.cells cN 27), ← hz (((w.alloc (.cells cT 27)).alloc (.cells cP 35)).alloc (.cells cN 27)) (.cells cQ 35), ← hz ((((w.alloc (.cells cT 27)).alloc (.cells cP 35)).alloc (.cells cN 27)).alloc (.cells cQ 35)) (.cells cO 4), ← hz (((((w.alloc (.cells cT 27)).alloc (.cells cP 35)).alloc (.cells cN 27)).alloc (.cells cQ 35)).alloc (.cells cO 4)) (.cells cS 25)]; exact heap_alloc_new _ _
  have bD : ((((((((w.alloc (.cells cT 27)).alloc (.cells cP 35)).alloc (.cells cN 27)).alloc (.cells cQ 35)).alloc (.cells cO 4)).alloc (.cells cS 25)).alloc (.cells cC 3)).alloc (.cells cD 3)).heap[w.heap.size + 1 + 1 + 1 + 1 + 1 + 1 + 1]? = some (.cells cD 3) := by rw [← hz w (.cells cT 27), ← hz (w.alloc (.cells cT 27)) (.cells cP 35), ← hz ((w.alloc (.cells cT 27)).alloc (.cells cP 35)) (.cells cN 27), ← hz (((w.alloc (.cells cT 27)).alloc (.cells cP 35)).alloc (.cells cN 27)) (.cells cQ 35), ← hz ((((w.alloc (.cells cT 27)).alloc (.cells cP 35)).alloc (.cells cN 27)).alloc (.cells cQ 35)) (.cells cO 4), ← hz (((((w.alloc (.cells cT 27)).alloc (.cells cP 35)).alloc (.cells cN 27)).alloc (.cells cQ 35)).alloc (.cells cO 4)) (.cells cS 25), ← hz ((((((w.alloc (.cells cT 27)).alloc (.cells cP 35)).alloc (.cells cN 27)).alloc (.cells cQ 35)).alloc (.cells cO 4)).alloc (.cells cS 25)) (.cells cC 3)]; exact heap_alloc_new _ _
  exact ⟨Nat.le_refl _, by omega, by omega, by omega, by omega, by omega, by omega, by omega, (blk_alloc (blk_alloc (blk_alloc (blk_alloc (blk_alloc (blk_alloc (blk_alloc bT _) _) _) _) _) _) _), (blk_alloc (blk_alloc (blk_alloc (blk_alloc (blk_alloc (blk_alloc bP _) _) _) _) _) _), (blk_alloc (blk_alloc (blk_alloc (blk_alloc (blk_alloc bN _) _) _) _) _), (blk_alloc (blk_alloc (blk_alloc (blk_alloc bQ _) _) _) _), (blk_alloc (blk_alloc (blk_alloc bO _) _) _), (blk_alloc (blk_alloc bS _) _), (blk_alloc bC _), bD, (below_alloc (below_alloc (below_alloc (below_alloc (below_alloc (below_alloc (below_alloc (below_alloc (Below.refl _ _) _) _) _) _) _) _) _) _)⟩
theorem results_ccb {P : Program} {fn : Func} {p q u : Tmp} {ty tz tb : TypeId} (h : fn.results = #[.cell p ty, .cell q tz, .cell u tb]) (tmps : Array Value) (w : World) (g g' g2 : Nat) (ta ta' ta2 : TypeId) (cs cs' : Array Value) (b : Bool) (fr fr' : Nat × Nat) (d d' : TypeDesc)
    (hp : tmps.getD p undef = .pointer (some ⟨g, 0, none⟩)) (hg : w.heap[g]? = some (.cells cs ta fr)) (hu : P.underlying ty = some d) (hd : (match d with | .struct _ | .array _ _ => true | _ => false) = true) (hi : (P.info? ty).map (·.size) = some cs.size)
    (hq : tmps.getD q undef = .pointer (some ⟨g', 0, none⟩)) (hg' : w.heap[g']? = some (.cells cs' ta' fr')) (hu' : P.underlying tz = some d') (hd' : (match d' with | .struct _ | .array _ _ => true | _ => false) = true) (hi' : (P.info? tz).map (·.size) = some cs'.size)
    (hr : tmps.getD u undef = .pointer (some ⟨g2, 0, none⟩)) (hg2 : w.heap[g2]? = some (.cells #[.bool b] ta2 (0, 0))) (hb : P.underlying tb = some .bool) :
    (results fn tmps).run P w = .ok (.tuple #[.agg cs, .agg cs', .bool b]) w := by
  have hp' : tmps[p]?.getD undef = .pointer (some ⟨g, 0, none⟩) := by simpa using hp
  have hq' : tmps[q]?.getD undef = .pointer (some ⟨g', 0, none⟩) := by simpa using hq
  have hr' : tmps[u]?.getD undef = .pointer (some ⟨g2, 0, none⟩) := by simpa using hr
  have hc : w.cell? ⟨g2, 0, none⟩ = some (.bool b) := (blk_cell hg2 0).trans rfl
  have hl : (loadVar tb ⟨g2, 0, none⟩).run P w = .ok (.bool b) w := by simp [loadVar, isAgg, underlying, hb, hc, Result.andThen]
  simp [results, h, hp', hq', hr', asAddr, run_loadVar_row w g ta ty cs fr d hg hu hd hi, run_loadVar_row w g' ta' tz cs' fr' d' hg' hu' hd' hi', hl]
def stp_flags (x : Bool × Int × Int × Int) : Int := if x.1 = true then wrap64 (wrap64 (4 * x.2.1) + wrap64 (128 + x.2.2.1)) else wrap64 (4 * x.2.1)
def stp_no (k : Nat) (t : S27) (h d : ByteArray) (c dt : Int) : Option (S27 × S35 × Bool) :=
  (ipdu_Tag.f k h d).bind fun tag => (ipdu_Head.f k 35 false 0 tag).bind fun hd => (login_numbered.f k hd (⟨#[]⟩ : ByteArray) h d t.f3 t.f4 c dt).bind fun q => some (⟨t.f0, t.f1, t.f2, t.f3, (t.f4 + 1) % 4294967296⟩, ⟨q.1, q.2⟩, false)
def stp_yes (k : Nat) (sn : Int) (h d : ByteArray) (n : S27) (x : Bool × Int × Int × Int) (s : ByteArray) : Option (S27 × S35 × Bool) :=
  (ipdu_Tag.f k h d).bind fun tag => (ipdu_Head.f k 35 false (stp_flags x) tag).bind fun hd => (if n.f0 = 3 then (fields_Set.f hd 15 (⟨#[1]⟩ : ByteArray)).bind fun z => some z.1 else some hd).bind fun hd2 => (login_numbered.f k hd2 s h d n.f3 sn 0 0).bind fun q => some (⟨n.f0, n.f1, n.f2, n.f3, (sn + 1) % 4294967296⟩, ⟨q.1, q.2⟩, true)
def stp (k : Nat) (t : S27) (g h d : ByteArray) : Option (S27 × S35 × Bool) :=
  (login_stepped.f k t g h d).bind fun r => match r with
    | .inl x => stp_no k t h d x.1 x.2
    | .inr x => stp_yes k t.f4 h d x.1 x.2.1 x.2.2
def login_Step.T11 : Bool × List (List Nat × List Nat) := (true, [([], []), ([], []), ([0, 0], [0]), ([1, 2, 0, 1, 2], [1]), ([3, 0, 1, 2, 3], [])])
def login_Step.B11 : List Nat := [0, 0, 1, 7, 15]
theorem login_Step.tab11 : rtab .any (opsOf Tryz.f9 11) = login_Step.T11 := by kernel_rfl
theorem login_Step.bits11 : waitsOk login_Step.T11.2 login_Step.B11 = true := by kernel_rfl
def H11 (gQ : Nat) (hd s : ByteArray) (w : World) : Prop := w.cell? ⟨gQ, 0, none⟩ = some (.string hd) ∧ w.cell? ⟨gQ, 1, none⟩ = some (.string s)
theorem H11.far {gQ : Nat} {hd s : ByteArray} {w : World} {gz j : Nat} (h : H11 gQ hd s w) (n0 : gQ ≠ gz) (v : Value) : H11 gQ hd s (w.setCell ⟨gz, j, none⟩ v) := ⟨(cell_far (p := ⟨gz, j, none⟩) n0 v).trans h.1, (cell_far (p := ⟨gz, j, none⟩) n0 v).trans h.2⟩
theorem leaves_tmps {P : Program} {fn : Func} {t1 t2 : Array Value} {R : Ending → World → Prop} (e : results fn t1 = results fn t2) : ∀ (ds : List Deferred) (u : FrameMode) (w : World), Leaves P fn t1 R ds u w → Leaves P fn t2 R ds u w
  | [], .returning, _, h => by unfold Leaves at h ⊢; rwa [← e]
  | [], .panicking _, _, h => h
  | [], .run, _, h => h
  | d :: ds, u, w, h => by
    unfold Leaves at h ⊢
    obtain ⟨h1, fv, cap, f, args, h2, h3, h4⟩ := h
    refine ⟨h1, fv, cap, f, args, h2, h3, h4.mono fun e u' w' hr => ?_⟩
    cases e with
    | returned v => exact leaves_tmps e ds _ _ hr
    | panicked c => exact leaves_tmps e ds _ _ hr
    | outgrown => exact hr
theorem step_door {R : Ending → World → Prop} {c : List PanicEntry} {a : Act} {w : World} {v : Value} (d : Nat) (h6 : d ≠ 6) (h7 : d ≠ 7) (h8 : d ≠ 8) (h : bodyPostD Tryz.prog Tryz.f9 R (.panic c) (a.put (some d) v) w) : bodyPostD Tryz.prog Tryz.f9 R (.panic c) a w := by
  have e : results Tryz.f9 (a.put (some d) v).tmps = results Tryz.f9 a.tmps := by
    simp [results, Tryz.results9, Act.put, Array.getElem?_setIfInBounds, h6, h7, h8]
  exact leaves_tmps e _ _ _ h
set_option maxHeartbeats 4000000 in
set_option maxRecDepth 100000 in
theorem login_Step.w9 (k : Nat) (t n : S27) (g h d s : ByteArray) (r : S27 × S35 × Bool) (hd q1 q2 : ByteArray) (c14 c15 c16 c17 c18 c19 c20 c21 c22 c23 c24 c25 c26 c27 c28 c29 c30 c31 c32 c33 c34 c35 c36 c37 c38 c39 c40 c41 c42 c43 c44 c45 c46 c47 c48 c49 c50 c51 : Value) (gT gP gN gQ gO gS gC gD gx : Nat) (w0 w : World) (HG : Aside0 (Glob w0)) (D : DD w0 w gT gP gN gQ gO gS gC gD #[.int .i64 t.f0, .bool t.f1, .bool t.f2.f0, .bool t.f2.f1, .bool t.f2.f2, .bool t.f2.f3, .int .i64 t.f2.f4, .int .i64 t.f2.f5, .string t.f2.f6, .string t.f2.f7, .int .u32 t.f3, .int .u32 t.f4] #[.string h, .string d] #[.int .i64 n.f0, .bool n.f1, .bool n.f2.f0, .bool n.f2.f1, .bool n.f2.f2, .bool n.f2.f3, .int .i64 n.f2.f4, .int .i64 n.f2.f5, .string n.f2.f6, .string n.f2.f7, .int .u32 n.f3, .int .u32 n.f4] #[.string hd, .string s] #[.bool false] #[.int .u32 t.f4] #[.int .i64 0] #[.int .i64 0]) (hq : login_numbered.f k hd s h d n.f3 t.f4 0 0 = some (q1, q2)) (hr : (⟨n.f0, n.f1, n.f2, n.f3, (t.f4 + 1) % 4294967296⟩, ⟨q1, q2⟩, true) = r) :
    Code.wp Tryz.prog (Hand.dropSeq 9 ((Tryz.f9.body).getD .skip)) (bodyPostD Tryz.prog Tryz.f9 fun e_ w' => e_ = .returned (.tuple #[.agg #[.int .i64 r.1.f0, .bool r.1.f1, .bool r.1.f2.f0, .bool r.1.f2.f1, .bool r.1.f2.f2, .bool r.1.f2.f3, .int .i64 r.1.f2.f4, .int .i64 r.1.f2.f5, .string r.1.f2.f6, .string r.1.f2.f7, .int .u32 r.1.f3, .int .u32 r.1.f4], .agg #[.string r.2.1.f0, .string r.2.1.f1], .bool r.2.2]) ∧ Below w0.heap.size w0 w') ⟨#[.agg #[.int .i64 t.f0, .bool t.f1, .bool t.f2.f0, .bool t.f2.f1, .bool t.f2.f2, .bool t.f2.f3, .int .i64 t.f2.f4, .int .i64 t.f2.f5, .string t.f2.f6, .string t.f2.f7, .int .u32 t.f3, .int .u32 t.f4], .string g, .agg #[.string h, .string d], .pointer (some ⟨gT, 0, none⟩), undef, .pointer (some ⟨gP, 0, none⟩), .pointer (some ⟨gN, 0, none⟩), .pointer (some ⟨gQ, 0, none⟩), .pointer (some ⟨gO, 0, none⟩), .pointer (some ⟨gS, 0, none⟩), .pointer (some ⟨gC, 0, none⟩), .pointer (some ⟨gD, 0, none⟩), .pointer (some ⟨gx, 0, none⟩), .string s, c14, c15, c16, c17, c18, c19, c20, c21, c22, c23, c24, c25, c26, c27, c28, c29, c30, c31, c32, c33, c34, c35, c36, c37, c38, c39, c40, c41, c42, c43, c44, c45, c46, c47, c48, c49, c50, c51, undef, undef], [{ target := .fn (.func 19) #[.pointer (some ⟨gC, 0, none⟩), .pointer (some ⟨gD, 0, none⟩), .pointer (some ⟨gO, 0, none⟩), .pointer (some ⟨gT, 0, none⟩), .pointer (some ⟨gN, 0, none⟩), .pointer (some ⟨gQ, 0, none⟩), .pointer (some ⟨gP, 0, none⟩), .pointer (some ⟨gS, 0, none⟩)], args := #[] }]⟩ w := by
  have hu1 := Tryz.underlying35
  have hu3 := Tryz.underlying27
  have hu4 := Tryz.underlying24
  have hu5 := Tryz.underlying55
  have m1 : gQ ≠ gN := Ne.symm (Nat.ne_of_lt D.oQ)
  have HQ := Aside0.mk hq
  clear hq
  refine Hand.wp_part 9 (by kernel_rfl) (fun K hK => ?_)
  conv => arg 2; whnf
  have n0_ := D.below (below_drew1 (Below.refl _ _))
  clear D
  have D := n0_
  clear n0_
  refine start_ (n := 5) (S := fun w' => H11 gQ hd s w') (ds := [3, 4]) #[false, false, false, false, false] (by kernel_rfl) rfl rfl (⟨(blk_cell D.bQ 0).trans rfl, (blk_cell D.bQ 1).trans rfl⟩) (fun hHeld => ?_)
  generalize w.drew = w1 at D hHeld ⊢
  have hN0 : w1.cell? ⟨gN, 0, none⟩ = some (.int .i64 n.f0) := (blk_cell D.bN 0).trans rfl
  have hN1 : w1.cell? ⟨gN, 1, none⟩ = some (.bool n.f1) := (blk_cell D.bN 1).trans rfl
  have hN2 : w1.cell? ⟨gN, 2, none⟩ = some (.bool n.f2.f0) := (blk_cell D.bN 2).trans rfl
  have hN3 : w1.cell? ⟨gN, 3, none⟩ = some (.bool n.f2.f1) := (blk_cell D.bN 3).trans rfl
  have hN4 : w1.cell? ⟨gN, 4, none⟩ = some (.bool n.f2.f2) := (blk_cell D.bN 4).trans rfl
  have hN5 : w1.cell? ⟨gN, 5, none⟩ = some (.bool n.f2.f3) := (blk_cell D.bN 5).trans rfl
  have hN6 : w1.cell? ⟨gN, 6, none⟩ = some (.int .i64 n.f2.f4) := (blk_cell D.bN 6).trans rfl
  have hN7 : w1.cell? ⟨gN, 7, none⟩ = some (.int .i64 n.f2.f5) := (blk_cell D.bN 7).trans rfl
  have hN8 : w1.cell? ⟨gN, 8, none⟩ = some (.string n.f2.f6) := (blk_cell D.bN 8).trans rfl
  have hN9 : w1.cell? ⟨gN, 9, none⟩ = some (.string n.f2.f7) := (blk_cell D.bN 9).trans rfl
  have hN10 : w1.cell? ⟨gN, 10, none⟩ = some (.int .u32 n.f3) := (blk_cell D.bN 10).trans rfl
  have hN11 : w1.cell? ⟨gN, 11, none⟩ = some (.int .u32 n.f4) := (blk_cell D.bN 11).trans rfl
  have fN0 := blk_frozen D.bN 0
  have fN1 := blk_frozen D.bN 1
  have fN2 := blk_frozen D.bN 2
  have fN3 := blk_frozen D.bN 3
  have fN4 := blk_frozen D.bN 4
  have fN5 := blk_frozen D.bN 5
  have fN6 := blk_frozen D.bN 6
  have fN7 := blk_frozen D.bN 7
  have fN8 := blk_frozen D.bN 8
  have fN9 := blk_frozen D.bN 9
  have fN10 := blk_frozen D.bN 10
  have fN11 := blk_frozen D.bN 11
  have hQ0 : w1.cell? ⟨gQ, 0, none⟩ = some (.string hd) := (blk_cell D.bQ 0).trans rfl
  have hQ1 : w1.cell? ⟨gQ, 1, none⟩ = some (.string s) := (blk_cell D.bQ 1).trans rfl
  have fQ0 := blk_frozen D.bQ 0
  have fQ1 := blk_frozen D.bQ 1
  have hO0 : w1.cell? ⟨gO, 0, none⟩ = some (.bool false) := (blk_cell D.bO 0).trans rfl
  have fO0 := blk_frozen D.bO 0
  refine with_tabW login_Step.tab11 login_Step.bits11 (fun HT_ HW_ => ?_)
  refine ptk_ 1 (some 53) (dB 5 2) HT_.out HW_.out hHeld (hQ := by exact fun _ _ _ h => step_door 53 (by decide) (by decide) (by decide) h) ?_
  refine one_ (i := 0) (N := some 52) (dB 5 3) rfl rfl (one_of HT_.out (by kernel_rfl)) (by decide) (fun K hK => ?_)
  refine value_ (w1 := ?_) (v := ?_) (by rfl) rfl ?_ ?_
  rotate_left 2
  ·go_simp
   constructor
   ·rfl
   ·rfl
  refine hK.out _ _ (hHeld) (fun hHeld => ?_)
  clear hK K
  refine norm_ (a' := ?_) ?_ ?_
  rotate_left
  ·show Act.put _ (some 52) _ = _
   simp only [Act.put, la_, lb_, lc_, i64_w, i32_w]
   rfl
  refine one_ (i := 2) (N := none) (dB 5 7) rfl rfl (one_of HT_.out (by kernel_rfl)) (by decide) (fun K hK => ?_)
  refine skip_ (w1 := ?_) (by rfl) rfl ?_ ?_
  rotate_left
  ·go_simp
   rfl
  refine hK.out _ _ (((((((((((((hHeld.far m1 _).far m1 _).far m1 _).far m1 _).far m1 _).far m1 _).far m1 _).far m1 _).far m1 _).far m1 _).far m1 _).far m1 _)) (fun hHeld => ?_)
  clear hK K
  clear hN0 fN0 hN1 fN1 hN2 fN2 hN3 fN3 hN4 fN4 hN5 fN5 hN6 fN6 hN7 fN7 hN8 fN8 hN9 fN9 hN10 fN10 hN11 fN11 hQ0 fQ0 hQ1 fQ1 hO0 fO0
  have D2_ : DD w0 ((((((((((((w1.setCell ⟨gN, 0, none⟩ (.int .i64 n.f0)).setCell ⟨gN, 1, none⟩ (.bool n.f1)).setCell ⟨gN, 2, none⟩ (.bool n.f2.f0)).setCell ⟨gN, 3, none⟩ (.bool n.f2.f1)).setCell ⟨gN, 4, none⟩ (.bool n.f2.f2)).setCell ⟨gN, 5, none⟩ (.bool n.f2.f3)).setCell ⟨gN, 6, none⟩ (.int .i64 n.f2.f4)).setCell ⟨gN, 7, none⟩ (.int .i64 n.f2.f5)).setCell ⟨gN, 8, none⟩ (.string n.f2.f6)).setCell ⟨gN, 9, none⟩ (.string n.f2.f7)).setCell ⟨gN, 10, none⟩ (.int .u32 n.f3)).setCell ⟨gN, 11, none⟩ (.int .u32 n.f4)) gT gP gN gQ gO gS gC gD #[.int .i64 t.f0, .bool t.f1, .bool t.f2.f0, .bool t.f2.f1, .bool t.f2.f2, .bool t.f2.f3, .int .i64 t.f2.f4, .int .i64 t.f2.f5, .string t.f2.f6, .string t.f2.f7, .int .u32 t.f3, .int .u32 t.f4] #[.string h, .string d] #[.int .i64 n.f0, .bool n.f1, .bool n.f2.f0, .bool n.f2.f1, .bool n.f2.f2, .bool n.f2.f3, .int .i64 n.f2.f4, .int .i64 n.f2.f5, .string n.f2.f6, .string n.f2.f7, .int .u32 n.f3, .int .u32 n.f4] #[.string hd, .string s] #[.bool false] #[.int .u32 t.f4] #[.int .i64 0] #[.int .i64 0] := by
    refine DD.putN (cN := #[.int .i64 n.f0, .bool n.f1, .bool n.f2.f0, .bool n.f2.f1, .bool n.f2.f2, .bool n.f2.f3, .int .i64 n.f2.f4, .int .i64 n.f2.f5, .string n.f2.f6, .string n.f2.f7, .int .u32 n.f3, .int .u32 n.f4]) ?_ rfl
    refine DD.putN (cN := #[.int .i64 n.f0, .bool n.f1, .bool n.f2.f0, .bool n.f2.f1, .bool n.f2.f2, .bool n.f2.f3, .int .i64 n.f2.f4, .int .i64 n.f2.f5, .string n.f2.f6, .string n.f2.f7, .int .u32 n.f3, .int .u32 n.f4]) ?_ rfl
    refine DD.putN (cN := #[.int .i64 n.f0, .bool n.f1, .bool n.f2.f0, .bool n.f2.f1, .bool n.f2.f2, .bool n.f2.f3, .int .i64 n.f2.f4, .int .i64 n.f2.f5, .string n.f2.f6, .string n.f2.f7, .int .u32 n.f3, .int .u32 n.f4]) ?_ rfl
    refine DD.putN (cN := #[.int .i64 n.f0, .bool n.f1, .bool n.f2.f0, .bool n.f2.f1, .bool n.f2.f2, .bool n.f2.f3, .int .i64 n.f2.f4, .int .i64 n.f2.f5, .string n.f2.f6, .string n.f2.f7, .int .u32 n.f3, .int .u32 n.f4]) ?_ rfl
    refine DD.putN (cN := #[.int .i64 n.f0, .bool n.f1, .bool n.f2.f0, .bool n.f2.f1, .bool n.f2.f2, .bool n.f2.f3, .int .i64 n.f2.f4, .int .i64 n.f2.f5, .string n.f2.f6, .string n.f2.f7, .int .u32 n.f3, .int .u32 n.f4]) ?_ rfl
    refine DD.putN (cN := #[.int .i64 n.f0, .bool n.f1, .bool n.f2.f0, .bool n.f2.f1, .bool n.f2.f2, .bool n.f2.f3, .int .i64 n.f2.f4, .int .i64 n.f2.f5, .string n.f2.f6, .string n.f2.f7, .int .u32 n.f3, .int .u32 n.f4]) ?_ rfl
    refine DD.putN (cN := #[.int .i64 n.f0, .bool n.f1, .bool n.f2.f0, .bool n.f2.f1, .bool n.f2.f2, .bool n.f2.f3, .int .i64 n.f2.f4, .int .i64 n.f2.f5, .string n.f2.f6, .string n.f2.f7, .int .u32 n.f3, .int .u32 n.f4]) ?_ rfl
    refine DD.putN (cN := #[.int .i64 n.f0, .bool n.f1, .bool n.f2.f0, .bool n.f2.f1, .bool n.f2.f2, .bool n.f2.f3, .int .i64 n.f2.f4, .int .i64 n.f2.f5, .string n.f2.f6, .string n.f2.f7, .int .u32 n.f3, .int .u32 n.f4]) ?_ rfl
    refine DD.putN (cN := #[.int .i64 n.f0, .bool n.f1, .bool n.f2.f0, .bool n.f2.f1, .bool n.f2.f2, .bool n.f2.f3, .int .i64 n.f2.f4, .int .i64 n.f2.f5, .string n.f2.f6, .string n.f2.f7, .int .u32 n.f3, .int .u32 n.f4]) ?_ rfl
    refine DD.putN (cN := #[.int .i64 n.f0, .bool n.f1, .bool n.f2.f0, .bool n.f2.f1, .bool n.f2.f2, .bool n.f2.f3, .int .i64 n.f2.f4, .int .i64 n.f2.f5, .string n.f2.f6, .string n.f2.f7, .int .u32 n.f3, .int .u32 n.f4]) ?_ rfl
    refine DD.putN (cN := #[.int .i64 n.f0, .bool n.f1, .bool n.f2.f0, .bool n.f2.f1, .bool n.f2.f2, .bool n.f2.f3, .int .i64 n.f2.f4, .int .i64 n.f2.f5, .string n.f2.f6, .string n.f2.f7, .int .u32 n.f3, .int .u32 n.f4]) ?_ rfl
    refine DD.putN (cN := #[.int .i64 n.f0, .bool n.f1, .bool n.f2.f0, .bool n.f2.f1, .bool n.f2.f2, .bool n.f2.f3, .int .i64 n.f2.f4, .int .i64 n.f2.f5, .string n.f2.f6, .string n.f2.f7, .int .u32 n.f3, .int .u32 n.f4]) ?_ rfl
    exact D
  generalize ((((((((((((w1.setCell ⟨gN, 0, none⟩ (.int .i64 n.f0)).setCell ⟨gN, 1, none⟩ (.bool n.f1)).setCell ⟨gN, 2, none⟩ (.bool n.f2.f0)).setCell ⟨gN, 3, none⟩ (.bool n.f2.f1)).setCell ⟨gN, 4, none⟩ (.bool n.f2.f2)).setCell ⟨gN, 5, none⟩ (.bool n.f2.f3)).setCell ⟨gN, 6, none⟩ (.int .i64 n.f2.f4)).setCell ⟨gN, 7, none⟩ (.int .i64 n.f2.f5)).setCell ⟨gN, 8, none⟩ (.string n.f2.f6)).setCell ⟨gN, 9, none⟩ (.string n.f2.f7)).setCell ⟨gN, 10, none⟩ (.int .u32 n.f3)).setCell ⟨gN, 11, none⟩ (.int .u32 n.f4)) = w2 at D2_ hHeld ⊢
  clear D
  have D := D2_
  clear D2_
  have hQ0 : w2.cell? ⟨gQ, 0, none⟩ = some (.string hd) := (blk_cell D.bQ 0).trans rfl
  have hQ1 : w2.cell? ⟨gQ, 1, none⟩ = some (.string s) := (blk_cell D.bQ 1).trans rfl
  have hO0 : w2.cell? ⟨gO, 0, none⟩ = some (.bool false) := (blk_cell D.bO 0).trans rfl
  have fQ0 := blk_frozen D.bQ 0
  have fQ1 := blk_frozen D.bQ 1
  have fO0 := blk_frozen D.bO 0
  have m2 : gO ≠ gQ := Ne.symm (Nat.ne_of_lt D.oO)
  have m3 := m2.symm
  refine last_ (i := 3) (N := none) (dB 5 15) rfl rfl (one_of HT_.out (by kernel_rfl)) (by decide) (fun K hK => ?_)
  refine skip_ (w1 := ?_) (by rfl) rfl ?_ ?_
  rotate_left
  ·go_simp
   rfl
  refine hK.out _ _ ?_
  clear hK K
  refine last_ (i := 4) (N := none) (dB 5 31) rfl rfl (one_of HT_.out (by kernel_rfl)) (by decide) (fun K hK => ?_)
  refine skip_ (w1 := ?_) (by rfl) rfl ?_ ?_
  rotate_left
  ·go_simp
   rfl
  refine hK.out _ _ ?_
  clear hK K
  refine done_ (done_of HT_.out (by kernel_rfl)) ?_
  have D3_ : DD w0 (((w2.setCell ⟨gQ, 0, none⟩ (.string hd)).setCell ⟨gQ, 1, none⟩ (.string s)).setCell ⟨gO, 0, none⟩ (.bool true)) gT gP gN gQ gO gS gC gD #[.int .i64 t.f0, .bool t.f1, .bool t.f2.f0, .bool t.f2.f1, .bool t.f2.f2, .bool t.f2.f3, .int .i64 t.f2.f4, .int .i64 t.f2.f5, .string t.f2.f6, .string t.f2.f7, .int .u32 t.f3, .int .u32 t.f4] #[.string h, .string d] #[.int .i64 n.f0, .bool n.f1, .bool n.f2.f0, .bool n.f2.f1, .bool n.f2.f2, .bool n.f2.f3, .int .i64 n.f2.f4, .int .i64 n.f2.f5, .string n.f2.f6, .string n.f2.f7, .int .u32 n.f3, .int .u32 n.f4] #[.string hd, .string s] #[.bool true] #[.int .u32 t.f4] #[.int .i64 0] #[.int .i64 0] := ((D.putQ (c' := #[.string hd, .string s]) rfl).putQ (c' := #[.string hd, .string s]) rfl).putO rfl
  generalize (((w2.setCell ⟨gQ, 0, none⟩ (.string hd)).setCell ⟨gQ, 1, none⟩ (.string s)).setCell ⟨gO, 0, none⟩ (.bool true)) = w3 at D3_ ⊢
  clear hQ0 hQ1 fQ0 fQ1 hO0 fO0 m1 m2 m3
  go_wp2
  conv => arg 2; whnf
  go_wp2
  refine leaves_cons (f := 19) (args := #[.pointer (some ⟨gC, 0, none⟩), .pointer (some ⟨gD, 0, none⟩), .pointer (some ⟨gO, 0, none⟩), .pointer (some ⟨gT, 0, none⟩), .pointer (some ⟨gN, 0, none⟩), .pointer (some ⟨gQ, 0, none⟩), .pointer (some ⟨gP, 0, none⟩), .pointer (some ⟨gS, 0, none⟩)]) (by simp) (by simp [go_sem]) ?_
  refine (step1_idle k t n h d hd s q1 q2 true t.f4 0 0 gT gP gN gQ gO gS gC gD w0 _ D3_ HQ.out).mono ?_
  rintro e u' w4 ⟨rfl, rfl, D⟩
  subst hr
  exact ⟨_, results_ccb rfl _ _ gN gQ gO 27 35 4 _ _ true (0, 0) (0, 0) _ _ rfl D.bN hu3 rfl (by kernel_rfl) rfl D.bQ hu1 rfl (by kernel_rfl) rfl D.bO Tryz.underlying4, rfl, D.hb⟩
set_option maxHeartbeats 4000000 in
set_option maxRecDepth 100000 in
theorem login_Step.w7 (k : Nat) (t n : S27) (g h d s : ByteArray) (r : S27 × S35 × Bool) (hd hd2 q1 q2 : ByteArray) (fl tag : Int) (c15 c16 c17 c18 c19 c20 c21 c22 c23 c24 c25 c26 c27 c28 c29 c30 c31 c32 c33 c34 c35 : Value) (gT gP gN gQ gO gS gC gD gx : Nat) (w0 w : World) (HG : Aside0 (Glob w0)) (D : DD w0 w gT gP gN gQ gO gS gC gD #[.int .i64 t.f0, .bool t.f1, .bool t.f2.f0, .bool t.f2.f1, .bool t.f2.f2, .bool t.f2.f3, .int .i64 t.f2.f4, .int .i64 t.f2.f5, .string t.f2.f6, .string t.f2.f7, .int .u32 t.f3, .int .u32 t.f4] #[.string h, .string d] #[.int .i64 n.f0, .bool n.f1, .bool n.f2.f0, .bool n.f2.f1, .bool n.f2.f2, .bool n.f2.f3, .int .i64 n.f2.f4, .int .i64 n.f2.f5, .string n.f2.f6, .string n.f2.f7, .int .u32 n.f3, .int .u32 n.f4] #[.string (⟨#[]⟩ : ByteArray), .string (⟨#[]⟩ : ByteArray)] #[.bool false] #[.int .u32 t.f4] #[.int .i64 0] #[.int .i64 0]) (hT : ipdu_Tag.f k h d = some tag) (hH : ipdu_Head.f k 35 false fl tag = some hd) (hz : (if n.f0 = 3 then (fields_Set.f hd 15 (⟨#[1]⟩ : ByteArray)).bind fun z => some z.1 else some hd) = some hd2) (hq : login_numbered.f k hd2 s h d n.f3 t.f4 0 0 = some (q1, q2)) (hr : (⟨n.f0, n.f1, n.f2, n.f3, (t.f4 + 1) % 4294967296⟩, ⟨q1, q2⟩, true) = r) :
    Code.wp Tryz.prog (Hand.dropSeq 7 ((Tryz.f9.body).getD .skip)) (bodyPostD Tryz.prog Tryz.f9 fun e_ w' => e_ = .returned (.tuple #[.agg #[.int .i64 r.1.f0, .bool r.1.f1, .bool r.1.f2.f0, .bool r.1.f2.f1, .bool r.1.f2.f2, .bool r.1.f2.f3, .int .i64 r.1.f2.f4, .int .i64 r.1.f2.f5, .string r.1.f2.f6, .string r.1.f2.f7, .int .u32 r.1.f3, .int .u32 r.1.f4], .agg #[.string r.2.1.f0, .string r.2.1.f1], .bool r.2.2]) ∧ Below w0.heap.size w0 w') ⟨#[.agg #[.int .i64 t.f0, .bool t.f1, .bool t.f2.f0, .bool t.f2.f1, .bool t.f2.f2, .bool t.f2.f3, .int .i64 t.f2.f4, .int .i64 t.f2.f5, .string t.f2.f6, .string t.f2.f7, .int .u32 t.f3, .int .u32 t.f4], .string g, .agg #[.string h, .string d], .pointer (some ⟨gT, 0, none⟩), undef, .pointer (some ⟨gP, 0, none⟩), .pointer (some ⟨gN, 0, none⟩), .pointer (some ⟨gQ, 0, none⟩), .pointer (some ⟨gO, 0, none⟩), .pointer (some ⟨gS, 0, none⟩), .pointer (some ⟨gC, 0, none⟩), .pointer (some ⟨gD, 0, none⟩), .pointer (some ⟨gx, 0, none⟩), .string s, .int .i64 fl, c15, c16, c17, c18, c19, c20, c21, c22, c23, c24, c25, c26, c27, c28, c29, c30, c31, c32, c33, c34, c35, undef, undef, undef, undef, undef, undef, undef, undef, undef, undef, undef, undef, undef, undef, undef, undef, undef, undef], [{ target := .fn (.func 19) #[.pointer (some ⟨gC, 0, none⟩), .pointer (some ⟨gD, 0, none⟩), .pointer (some ⟨gO, 0, none⟩), .pointer (some ⟨gT, 0, none⟩), .pointer (some ⟨gN, 0, none⟩), .pointer (some ⟨gQ, 0, none⟩), .pointer (some ⟨gP, 0, none⟩), .pointer (some ⟨gS, 0, none⟩)], args := #[] }]⟩ w := by
  have hu1 := Tryz.underlying35
  have hu3 := Tryz.underlying27
  have hu4 := Tryz.underlying24
  have hu5 := Tryz.underlying55
  have HT := Aside0.mk hT
  have HH := Aside0.mk hH
  have HQ := Aside0.mk hq
  have HR := Aside0.mk hr
  clear hT hH hq hr
  have hP0 : w.cell? ⟨gP, 0, none⟩ = some (.string h) := (blk_cell D.bP 0).trans rfl
  have hP1 : w.cell? ⟨gP, 1, none⟩ = some (.string d) := (blk_cell D.bP 1).trans rfl
  refine Hand.wp_part 7 (by kernel_rfl) (fun K hK => ?_)
  conv => arg 2; whnf
  go_wp2_with (first
    | (go_at_call 22; (with_reducible refine (ipdu_Tag.calls k h d tag _ HT.out).mono ?_); rintro e w5 ⟨rfl, hb⟩; have n0_ := D.below hb; clear hb D hP0 hP1; have D := n0_; clear n0_)
    | (go_at_call 21; (with_reducible refine (ipdu_Head.calls k 35 false fl tag hd _ HH.out).mono ?_); rintro e w6 ⟨rfl, hb⟩; have n0_ := D.below hb; clear hb D; have D := n0_; clear n0_; have hQ0 : w6.cell? ⟨gQ, 0, none⟩ = some (.string (⟨#[]⟩ : ByteArray)) := (blk_cell D.bQ 0).trans rfl; have hQ1 : w6.cell? ⟨gQ, 1, none⟩ = some (.string (⟨#[]⟩ : ByteArray)) := (blk_cell D.bQ 1).trans rfl; have fQ0 := blk_frozen D.bQ 0; have fQ1 := blk_frozen D.bQ 1))
  have D2_ : DD w0 ((w6.setCell ⟨gQ, 0, none⟩ (.string hd)).setCell ⟨gQ, 1, none⟩ (.string s)) gT gP gN gQ gO gS gC gD #[.int .i64 t.f0, .bool t.f1, .bool t.f2.f0, .bool t.f2.f1, .bool t.f2.f2, .bool t.f2.f3, .int .i64 t.f2.f4, .int .i64 t.f2.f5, .string t.f2.f6, .string t.f2.f7, .int .u32 t.f3, .int .u32 t.f4] #[.string h, .string d] #[.int .i64 n.f0, .bool n.f1, .bool n.f2.f0, .bool n.f2.f1, .bool n.f2.f2, .bool n.f2.f3, .int .i64 n.f2.f4, .int .i64 n.f2.f5, .string n.f2.f6, .string n.f2.f7, .int .u32 n.f3, .int .u32 n.f4] #[.string hd, .string s] #[.bool false] #[.int .u32 t.f4] #[.int .i64 0] #[.int .i64 0] := (D.putQ rfl).putQ rfl
  generalize ((w6.setCell ⟨gQ, 0, none⟩ (.string hd)).setCell ⟨gQ, 1, none⟩ (.string s)) = w7 at D2_ ⊢
  clear D hQ0 hQ1 fQ0 fQ1
  have hN0 : w7.cell? ⟨gN, 0, none⟩ = some (.int .i64 n.f0) := (blk_cell D2_.bN 0).trans rfl
  by_cases h3 : n.f0 = 3
  · rw [if_pos h3] at hz
    obtain ⟨⟨z1, z2⟩, hs, hz⟩ := Option.bind_eq_some_iff.mp hz
    obtain rfl := Option.some.inj hz
    have HS := Aside0.mk hs
    clear hs
    have e3 : (n.f0 == 3) = true := beq_iff_eq.mpr h3
    clear h3
    have hQ0 : w7.cell? ⟨gQ, 0, none⟩ = some (.string hd) := (blk_cell D2_.bQ 0).trans rfl
    have fQ0 := blk_frozen D2_.bQ 0
    refine Hand.wp_part 8 (by kernel_rfl) (fun K hK => ?_)
    conv => arg 2; whnf
    go_wp2_with (go_at_call 25; (with_reducible refine (fields_Set.calls hd 15 (⟨#[1]⟩ : ByteArray) z1 z2 _ HS.out).mono ?_); rintro e w8 ⟨rfl, ⟨nd, rfl⟩⟩)
    exact login_Step.w9 k t n g h d s r z1 q1 q2 _ _ _ _ _ _ _ _ _ _ _ _ _ _ _ _ _ _ _ _ _ _ _ _ _ _ _ _ _ _ _ _ _ _ _ _ _ _ gT gP gN gQ gO gS gC gD gx w0 _ HG (DD.putQ (cQ := #[.string hd, .string s]) (D2_.below (pw_below_drewN (Below.refl _ _) _)) rfl) HQ.out HR.out
  · rw [if_neg h3] at hz
    obtain rfl := Option.some.inj hz
    have e3 : (n.f0 == 3) = false := beq_eq_false_iff_ne.mpr h3
    clear h3
    refine Hand.wp_part 8 (by kernel_rfl) (fun K hK => ?_)
    conv => arg 2; whnf
    go_wp2
    exact login_Step.w9 k t n g h d s r hd q1 q2 _ _ _ _ _ _ _ _ _ _ _ _ _ _ _ _ _ _ _ _ _ _ _ _ _ _ _ _ _ _ _ _ _ _ _ _ _ _ gT gP gN gQ gO gS gC gD gx w0 w7 HG D2_ HQ.out HR.out
set_option maxHeartbeats 4000000 in
set_option maxRecDepth 100000 in
theorem step_calls (k : Nat) (t : S27) (g h d : ByteArray) (r : S27 × S35 × Bool) (w : World) (hG : Glob w) (hf : stp k t g h d = some r) :
    Calls Tryz.prog 9 #[.agg #[.int .i64 t.f0, .bool t.f1, .bool t.f2.f0, .bool t.f2.f1, .bool t.f2.f2, .bool t.f2.f3, .int .i64 t.f2.f4, .int .i64 t.f2.f5, .string t.f2.f6, .string t.f2.f7, .int .u32 t.f3, .int .u32 t.f4], .string g, .agg #[.string h, .string d]] w fun e w' => e = .returned (.tuple #[.agg #[.int .i64 r.1.f0, .bool r.1.f1, .bool r.1.f2.f0, .bool r.1.f2.f1, .bool r.1.f2.f2, .bool r.1.f2.f3, .int .i64 r.1.f2.f4, .int .i64 r.1.f2.f5, .string r.1.f2.f6, .string r.1.f2.f7, .int .u32 r.1.f3, .int .u32 r.1.f4], .agg #[.string r.2.1.f0, .string r.2.1.f1], .bool r.2.2]) ∧ Below w.heap.size w w' := by
  have hu1 := Tryz.underlying35
  have hu3 := Tryz.underlying27
  have hu4 := Tryz.underlying24
  have hu5 := Tryz.underlying55
  have hu6 := Tryz.underlying61
  have HG := Aside0.mk hG
  clear hG
  unfold stp at hf
  obtain ⟨s, hs, hf⟩ := Option.bind_eq_some_iff.mp hf
  have HS := Aside0.mk hs
  clear hs
  have hmf : ∀ (fn : Fn) (first cap : Array Value) (w : World), (Instr.makeFunc fn first cap).run Tryz.prog w = .ok (.func fn first cap) w := fun _ _ _ _ => rfl
  go_enter_defers Tryz.func9, Tryz.ntmps9
  apply Hand.wp_whole
  refine Hand.wp_part 0 (by kernel_rfl) (fun K hK => ?_)
  conv => arg 2; whnf
  go_wp2
  refine Hand.wp_part 1 (by kernel_rfl) (fun K hK => ?_)
  conv => arg 2; whnf
  go_wp2
  refine Hand.wp_part 2 (by kernel_rfl) (fun K hK => ?_)
  conv => arg 2; whnf
  go_wp2
  refine Hand.wp_part 3 (by kernel_rfl) (fun K hK => ?_)
  conv => arg 2; whnf
  go_wp2
  refine Hand.at_world (fun w' => DD w w' (w.heap.size) (w.heap.size + 1) (w.heap.size + 1 + 1) (w.heap.size + 1 + 1 + 1) (w.heap.size + 1 + 1 + 1 + 1) (w.heap.size + 1 + 1 + 1 + 1 + 1) (w.heap.size + 1 + 1 + 1 + 1 + 1 + 1) (w.heap.size + 1 + 1 + 1 + 1 + 1 + 1 + 1) #[.int .i64 t.f0, .bool t.f1, .bool t.f2.f0, .bool t.f2.f1, .bool t.f2.f2, .bool t.f2.f3, .int .i64 t.f2.f4, .int .i64 t.f2.f5, .string t.f2.f6, .string t.f2.f7, .int .u32 t.f3, .int .u32 t.f4] #[.string h, .string d] #[.int .i64 0, .bool false, .bool false, .bool false, .bool false, .bool false, .int .i64 0, .int .i64 0, .string (⟨#[]⟩ : ByteArray), .string (⟨#[]⟩ : ByteArray), .int .u32 0, .int .u32 0] #[.string (⟨#[]⟩ : ByteArray), .string (⟨#[]⟩ : ByteArray)] #[.bool false] #[.int .u32 t.f4] #[.int .i64 0] #[.int .i64 0]) (DD.start w _ _ _ _ _ _ _ _) ?_
  obtain ⟨gT, hT⟩ : ∃ g_, w.heap.size = g_ := ⟨_, rfl⟩
  obtain ⟨gP, hP⟩ : ∃ g_, w.heap.size + 1 = g_ := ⟨_, rfl⟩
  obtain ⟨gN, hN⟩ : ∃ g_, w.heap.size + 1 + 1 = g_ := ⟨_, rfl⟩
  obtain ⟨gQ, hQ⟩ : ∃ g_, w.heap.size + 1 + 1 + 1 = g_ := ⟨_, rfl⟩
  obtain ⟨gO, hO⟩ : ∃ g_, w.heap.size + 1 + 1 + 1 + 1 = g_ := ⟨_, rfl⟩
  obtain ⟨gS, hS⟩ : ∃ g_, w.heap.size + 1 + 1 + 1 + 1 + 1 = g_ := ⟨_, rfl⟩
  obtain ⟨gC, hC⟩ : ∃ g_, w.heap.size + 1 + 1 + 1 + 1 + 1 + 1 = g_ := ⟨_, rfl⟩
  obtain ⟨gD, hD⟩ : ∃ g_, w.heap.size + 1 + 1 + 1 + 1 + 1 + 1 + 1 = g_ := ⟨_, rfl⟩
  rw [hD, hC, hS, hO, hQ, hN, hP, hT]
  clear hmf hT hP hN hQ hO hS hC hD
  rintro w1 D
  have hT0 : w1.cell? ⟨gT, 0, none⟩ = some (.int .i64 t.f0) := (blk_cell D.bT 0).trans rfl
  have hT1 : w1.cell? ⟨gT, 1, none⟩ = some (.bool t.f1) := (blk_cell D.bT 1).trans rfl
  have hT2 : w1.cell? ⟨gT, 2, none⟩ = some (.bool t.f2.f0) := (blk_cell D.bT 2).trans rfl
  have hT3 : w1.cell? ⟨gT, 3, none⟩ = some (.bool t.f2.f1) := (blk_cell D.bT 3).trans rfl
  have hT4 : w1.cell? ⟨gT, 4, none⟩ = some (.bool t.f2.f2) := (blk_cell D.bT 4).trans rfl
  have hT5 : w1.cell? ⟨gT, 5, none⟩ = some (.bool t.f2.f3) := (blk_cell D.bT 5).trans rfl
  have hT6 : w1.cell? ⟨gT, 6, none⟩ = some (.int .i64 t.f2.f4) := (blk_cell D.bT 6).trans rfl
  have hT7 : w1.cell? ⟨gT, 7, none⟩ = some (.int .i64 t.f2.f5) := (blk_cell D.bT 7).trans rfl
  have hT8 : w1.cell? ⟨gT, 8, none⟩ = some (.string t.f2.f6) := (blk_cell D.bT 8).trans rfl
  have hT9 : w1.cell? ⟨gT, 9, none⟩ = some (.string t.f2.f7) := (blk_cell D.bT 9).trans rfl
  have hT10 : w1.cell? ⟨gT, 10, none⟩ = some (.int .u32 t.f3) := (blk_cell D.bT 10).trans rfl
  have hT11 : w1.cell? ⟨gT, 11, none⟩ = some (.int .u32 t.f4) := (blk_cell D.bT 11).trans rfl
  have hP0 : w1.cell? ⟨gP, 0, none⟩ = some (.string h) := (blk_cell D.bP 0).trans rfl
  have hP1 : w1.cell? ⟨gP, 1, none⟩ = some (.string d) := (blk_cell D.bP 1).trans rfl
  rcases s with ⟨xc, xd⟩ | ⟨n, ⟨on, st, nx, first⟩, txt⟩
  · unfold stp_no at hf
    obtain ⟨tag, hT, hf⟩ := Option.bind_eq_some_iff.mp hf
    obtain ⟨hd, hH, hf⟩ := Option.bind_eq_some_iff.mp hf
    obtain ⟨⟨q1, q2⟩, hq, hf⟩ := Option.bind_eq_some_iff.mp hf
    obtain rfl := Option.some.inj hf
    have HT := Aside0.mk hT
    have HH := Aside0.mk hH
    have HQ := Aside0.mk hq
    clear hT hH hq hf
    refine Hand.wp_part 4 (by kernel_rfl) (fun K hK => ?_)
    conv => arg 2; whnf
    go_wp2_with (go_at_call 24; (with_reducible refine (login_stepped.calls k t g h d (.inl (xc, xd)) _ (Glob.keep HG.out D.hb) HS.out).mono ?_); rintro e w2 ⟨he, hb⟩; obtain rfl : e = .panicked [refV xc xd] := he; have n0_ := D.below hb; clear hb D hT0 hT1 hT2 hT3 hT4 hT5 hT6 hT7 hT8 hT9 hT10 hT11 hP0 hP1; have D := n0_; clear n0_)
    refine leaves_cons (f := 19) (args := #[.pointer (some ⟨gC, 0, none⟩), .pointer (some ⟨gD, 0, none⟩), .pointer (some ⟨gO, 0, none⟩), .pointer (some ⟨gT, 0, none⟩), .pointer (some ⟨gN, 0, none⟩), .pointer (some ⟨gQ, 0, none⟩), .pointer (some ⟨gP, 0, none⟩), .pointer (some ⟨gS, 0, none⟩)]) (by simp) (by simp [go_sem]) ?_
    refine (step1_caught k t h d (⟨#[]⟩ : ByteArray) (⟨#[]⟩ : ByteArray) hd q1 q2 false t.f4 0 0 xc xd tag gT gP gN gQ gO gS gC gD w w2 HG D HT.out HH.out HQ.out).mono ?_
    rintro e u' w4 ⟨rfl, rfl, D⟩
    exact ⟨_, results_ccb rfl _ _ gN gQ gO 27 35 4 _ _ false (0, 0) (0, 0) _ _ rfl D.bN hu3 rfl (by kernel_rfl) rfl D.bQ hu1 rfl (by kernel_rfl) rfl D.bO Tryz.underlying4, rfl, D.hb⟩
  · unfold stp_yes at hf
    obtain ⟨tag, hT, hf⟩ := Option.bind_eq_some_iff.mp hf
    obtain ⟨hd, hH, hf⟩ := Option.bind_eq_some_iff.mp hf
    obtain ⟨hd2, hz, hf⟩ := Option.bind_eq_some_iff.mp hf
    obtain ⟨⟨q1, q2⟩, hq, hf⟩ := Option.bind_eq_some_iff.mp hf
    have hr := Option.some.inj hf
    clear hf
    dsimp only at hT hH hz hq hr
    have HT := Aside0.mk hT
    have HH := Aside0.mk hH
    have HZ := Aside0.mk hz
    have HQ := Aside0.mk hq
    have HR := Aside0.mk hr
    clear hT hH hz hq hr
    refine Hand.wp_part 4 (by kernel_rfl) (fun K hK => ?_)
    conv => arg 2; whnf
    go_wp2_with (first
      | (go_at_call 24; (with_reducible refine (login_stepped.calls k t g h d (.inr (n, (on, st, nx, first), txt)) _ (Glob.keep HG.out D.hb) HS.out).mono ?_); rintro e w2 ⟨he, hb⟩; obtain rfl : e = .returned (.tuple #[.agg #[.int .i64 n.f0, .bool n.f1, .bool n.f2.f0, .bool n.f2.f1, .bool n.f2.f2, .bool n.f2.f3, .int .i64 n.f2.f4, .int .i64 n.f2.f5, .string n.f2.f6, .string n.f2.f7, .int .u32 n.f3, .int .u32 n.f4], .agg #[.bool on, .int .i64 st, .int .i64 nx, .int .u32 first], .string txt]) := he; have n0_ := D.below hb; clear hb D hT0 hT1 hT2 hT3 hT4 hT5 hT6 hT7 hT8 hT9 hT10 hT11 hP0 hP1; have D := n0_; clear n0_)
      | ((with_reducible refine gate_dst (N := 12) rfl ?_); refine box_event ?hg (N := 12) ?hd (cs := #[.bool false, .int .i64 0, .int .i64 0, .int .u32 0]) (t := 61) ?hr ?_; (case hd => rfl); (case hg => rfl); (case hr => first | (go_simp; done) | (go_simp; rfl)); intro gx hg w3 hbox hb; have hx : gD < gx := (by rw [hg]; exact blk_lt D.bD); have n0_ := D.below hb; clear D hb hg; have D := n0_; clear n0_; have hN0 : w3.cell? ⟨gN, 0, none⟩ = some (.int .i64 0) := (blk_cell D.bN 0).trans rfl; have hN1 : w3.cell? ⟨gN, 1, none⟩ = some (.bool false) := (blk_cell D.bN 1).trans rfl; have hN2 : w3.cell? ⟨gN, 2, none⟩ = some (.bool false) := (blk_cell D.bN 2).trans rfl; have hN3 : w3.cell? ⟨gN, 3, none⟩ = some (.bool false) := (blk_cell D.bN 3).trans rfl; have hN4 : w3.cell? ⟨gN, 4, none⟩ = some (.bool false) := (blk_cell D.bN 4).trans rfl; have hN5 : w3.cell? ⟨gN, 5, none⟩ = some (.bool false) := (blk_cell D.bN 5).trans rfl; have hN6 : w3.cell? ⟨gN, 6, none⟩ = some (.int .i64 0) := (blk_cell D.bN 6).trans rfl; have hN7 : w3.cell? ⟨gN, 7, none⟩ = some (.int .i64 0) := (blk_cell D.bN 7).trans rfl; have hN8 : w3.cell? ⟨gN, 8, none⟩ = some (.string (⟨#[]⟩ : ByteArray)) := (blk_cell D.bN 8).trans rfl; have hN9 : w3.cell? ⟨gN, 9, none⟩ = some (.string (⟨#[]⟩ : ByteArray)) := (blk_cell D.bN 9).trans rfl; have hN10 : w3.cell? ⟨gN, 10, none⟩ = some (.int .u32 0) := (blk_cell D.bN 10).trans rfl; have hN11 : w3.cell? ⟨gN, 11, none⟩ = some (.int .u32 0) := (blk_cell D.bN 11).trans rfl; have fN0 := blk_frozen D.bN 0; have fN1 := blk_frozen D.bN 1; have fN2 := blk_frozen D.bN 2; have fN3 := blk_frozen D.bN 3; have fN4 := blk_frozen D.bN 4; have fN5 := blk_frozen D.bN 5; have fN6 := blk_frozen D.bN 6; have fN7 := blk_frozen D.bN 7; have fN8 := blk_frozen D.bN 8; have fN9 := blk_frozen D.bN 9; have fN10 := blk_frozen D.bN 10; have fN11 := blk_frozen D.bN 11; have hX0 : w3.cell? ⟨gx, 0, none⟩ = some (.bool false) := (blk_cell hbox 0).trans rfl; have hX1 : w3.cell? ⟨gx, 1, none⟩ = some (.int .i64 0) := (blk_cell hbox 1).trans rfl; have hX2 : w3.cell? ⟨gx, 2, none⟩ = some (.int .i64 0) := (blk_cell hbox 2).trans rfl; have hX3 : w3.cell? ⟨gx, 3, none⟩ = some (.int .u32 0) := (blk_cell hbox 3).trans rfl; have fX0 := blk_frozen hbox 0; have fX1 := blk_frozen hbox 1; have fX2 := blk_frozen hbox 2; have fX3 := blk_frozen hbox 3; have x1 : gN ≠ gx := (by have := D.oQ; have := D.oO; have := D.oS; have := D.oC; have := D.oD; omega); have x2 := x1.symm))
    have D2_ : DD w ((((((((((((((((w3.setCell ⟨gN, 0, none⟩ (.int .i64 n.f0)).setCell ⟨gN, 1, none⟩ (.bool n.f1)).setCell ⟨gN, 2, none⟩ (.bool n.f2.f0)).setCell ⟨gN, 3, none⟩ (.bool n.f2.f1)).setCell ⟨gN, 4, none⟩ (.bool n.f2.f2)).setCell ⟨gN, 5, none⟩ (.bool n.f2.f3)).setCell ⟨gN, 6, none⟩ (.int .i64 n.f2.f4)).setCell ⟨gN, 7, none⟩ (.int .i64 n.f2.f5)).setCell ⟨gN, 8, none⟩ (.string n.f2.f6)).setCell ⟨gN, 9, none⟩ (.string n.f2.f7)).setCell ⟨gN, 10, none⟩ (.int .u32 n.f3)).setCell ⟨gN, 11, none⟩ (.int .u32 n.f4)).setCell ⟨gx, 0, none⟩ (.bool on)).setCell ⟨gx, 1, none⟩ (.int .i64 st)).setCell ⟨gx, 2, none⟩ (.int .i64 nx)).setCell ⟨gx, 3, none⟩ (.int .u32 first)) gT gP gN gQ gO gS gC gD #[.int .i64 t.f0, .bool t.f1, .bool t.f2.f0, .bool t.f2.f1, .bool t.f2.f2, .bool t.f2.f3, .int .i64 t.f2.f4, .int .i64 t.f2.f5, .string t.f2.f6, .string t.f2.f7, .int .u32 t.f3, .int .u32 t.f4] #[.string h, .string d] #[.int .i64 n.f0, .bool n.f1, .bool n.f2.f0, .bool n.f2.f1, .bool n.f2.f2, .bool n.f2.f3, .int .i64 n.f2.f4, .int .i64 n.f2.f5, .string n.f2.f6, .string n.f2.f7, .int .u32 n.f3, .int .u32 n.f4] #[.string (⟨#[]⟩ : ByteArray), .string (⟨#[]⟩ : ByteArray)] #[.bool false] #[.int .u32 t.f4] #[.int .i64 0] #[.int .i64 0] := by
      refine DD.far ?_ hx
      refine DD.far ?_ hx
      refine DD.far ?_ hx
      refine DD.far ?_ hx
      refine DD.putN (cN := #[.int .i64 n.f0, .bool n.f1, .bool n.f2.f0, .bool n.f2.f1, .bool n.f2.f2, .bool n.f2.f3, .int .i64 n.f2.f4, .int .i64 n.f2.f5, .string n.f2.f6, .string n.f2.f7, .int .u32 n.f3, .int .u32 0]) ?_ rfl
      refine DD.putN (cN := #[.int .i64 n.f0, .bool n.f1, .bool n.f2.f0, .bool n.f2.f1, .bool n.f2.f2, .bool n.f2.f3, .int .i64 n.f2.f4, .int .i64 n.f2.f5, .string n.f2.f6, .string n.f2.f7, .int .u32 0, .int .u32 0]) ?_ rfl
      refine DD.putN (cN := #[.int .i64 n.f0, .bool n.f1, .bool n.f2.f0, .bool n.f2.f1, .bool n.f2.f2, .bool n.f2.f3, .int .i64 n.f2.f4, .int .i64 n.f2.f5, .string n.f2.f6, .string (⟨#[]⟩ : ByteArray), .int .u32 0, .int .u32 0]) ?_ rfl
      refine DD.putN (cN := #[.int .i64 n.f0, .bool n.f1, .bool n.f2.f0, .bool n.f2.f1, .bool n.f2.f2, .bool n.f2.f3, .int .i64 n.f2.f4, .int .i64 n.f2.f5, .string (⟨#[]⟩ : ByteArray), .string (⟨#[]⟩ : ByteArray), .int .u32 0, .int .u32 0]) ?_ rfl
      refine DD.putN (cN := #[.int .i64 n.f0, .bool n.f1, .bool n.f2.f0, .bool n.f2.f1, .bool n.f2.f2, .bool n.f2.f3, .int .i64 n.f2.f4, .int .i64 0, .string (⟨#[]⟩ : ByteArray), .string (⟨#[]⟩ : ByteArray), .int .u32 0, .int .u32 0]) ?_ rfl
      refine DD.putN (cN := #[.int .i64 n.f0, .bool n.f1, .bool n.f2.f0, .bool n.f2.f1, .bool n.f2.f2, .bool n.f2.f3, .int .i64 0, .int .i64 0, .string (⟨#[]⟩ : ByteArray), .string (⟨#[]⟩ : ByteArray), .int .u32 0, .int .u32 0]) ?_ rfl
      refine DD.putN (cN := #[.int .i64 n.f0, .bool n.f1, .bool n.f2.f0, .bool n.f2.f1, .bool n.f2.f2, .bool false, .int .i64 0, .int .i64 0, .string (⟨#[]⟩ : ByteArray), .string (⟨#[]⟩ : ByteArray), .int .u32 0, .int .u32 0]) ?_ rfl
      refine DD.putN (cN := #[.int .i64 n.f0, .bool n.f1, .bool n.f2.f0, .bool n.f2.f1, .bool false, .bool false, .int .i64 0, .int .i64 0, .string (⟨#[]⟩ : ByteArray), .string (⟨#[]⟩ : ByteArray), .int .u32 0, .int .u32 0]) ?_ rfl
      refine DD.putN (cN := #[.int .i64 n.f0, .bool n.f1, .bool n.f2.f0, .bool false, .bool false, .bool false, .int .i64 0, .int .i64 0, .string (⟨#[]⟩ : ByteArray), .string (⟨#[]⟩ : ByteArray), .int .u32 0, .int .u32 0]) ?_ rfl
      refine DD.putN (cN := #[.int .i64 n.f0, .bool n.f1, .bool false, .bool false, .bool false, .bool false, .int .i64 0, .int .i64 0, .string (⟨#[]⟩ : ByteArray), .string (⟨#[]⟩ : ByteArray), .int .u32 0, .int .u32 0]) ?_ rfl
      refine DD.putN (cN := #[.int .i64 n.f0, .bool false, .bool false, .bool false, .bool false, .bool false, .int .i64 0, .int .i64 0, .string (⟨#[]⟩ : ByteArray), .string (⟨#[]⟩ : ByteArray), .int .u32 0, .int .u32 0]) ?_ rfl
      refine DD.putN (cN := #[.int .i64 0, .bool false, .bool false, .bool false, .bool false, .bool false, .int .i64 0, .int .i64 0, .string (⟨#[]⟩ : ByteArray), .string (⟨#[]⟩ : ByteArray), .int .u32 0, .int .u32 0]) ?_ rfl
      exact D
    have BX : ((((((((((((((((w3.setCell ⟨gN, 0, none⟩ (.int .i64 n.f0)).setCell ⟨gN, 1, none⟩ (.bool n.f1)).setCell ⟨gN, 2, none⟩ (.bool n.f2.f0)).setCell ⟨gN, 3, none⟩ (.bool n.f2.f1)).setCell ⟨gN, 4, none⟩ (.bool n.f2.f2)).setCell ⟨gN, 5, none⟩ (.bool n.f2.f3)).setCell ⟨gN, 6, none⟩ (.int .i64 n.f2.f4)).setCell ⟨gN, 7, none⟩ (.int .i64 n.f2.f5)).setCell ⟨gN, 8, none⟩ (.string n.f2.f6)).setCell ⟨gN, 9, none⟩ (.string n.f2.f7)).setCell ⟨gN, 10, none⟩ (.int .u32 n.f3)).setCell ⟨gN, 11, none⟩ (.int .u32 n.f4)).setCell ⟨gx, 0, none⟩ (.bool on)).setCell ⟨gx, 1, none⟩ (.int .i64 st)).setCell ⟨gx, 2, none⟩ (.int .i64 nx)).setCell ⟨gx, 3, none⟩ (.int .u32 first)).heap[gx]? = some (.cells #[.bool on, .int .i64 st, .int .i64 nx, .int .u32 first] 61 (0, 0)) := by
      refine blk_put (cs := #[.bool on, .int .i64 st, .int .i64 nx, .int .u32 0]) ?_ 3 _ rfl
      refine blk_put (cs := #[.bool on, .int .i64 st, .int .i64 0, .int .u32 0]) ?_ 2 _ rfl
      refine blk_put (cs := #[.bool on, .int .i64 0, .int .i64 0, .int .u32 0]) ?_ 1 _ rfl
      refine blk_put (cs := #[.bool false, .int .i64 0, .int .i64 0, .int .u32 0]) ?_ 0 _ rfl
      with_reducible repeat refine blk_far ?_ x2 _
      exact hbox
    generalize ((((((((((((((((w3.setCell ⟨gN, 0, none⟩ (.int .i64 n.f0)).setCell ⟨gN, 1, none⟩ (.bool n.f1)).setCell ⟨gN, 2, none⟩ (.bool n.f2.f0)).setCell ⟨gN, 3, none⟩ (.bool n.f2.f1)).setCell ⟨gN, 4, none⟩ (.bool n.f2.f2)).setCell ⟨gN, 5, none⟩ (.bool n.f2.f3)).setCell ⟨gN, 6, none⟩ (.int .i64 n.f2.f4)).setCell ⟨gN, 7, none⟩ (.int .i64 n.f2.f5)).setCell ⟨gN, 8, none⟩ (.string n.f2.f6)).setCell ⟨gN, 9, none⟩ (.string n.f2.f7)).setCell ⟨gN, 10, none⟩ (.int .u32 n.f3)).setCell ⟨gN, 11, none⟩ (.int .u32 n.f4)).setCell ⟨gx, 0, none⟩ (.bool on)).setCell ⟨gx, 1, none⟩ (.int .i64 st)).setCell ⟨gx, 2, none⟩ (.int .i64 nx)).setCell ⟨gx, 3, none⟩ (.int .u32 first)) = w4 at D2_ BX ⊢
    clear D hbox x1 x2 hN0 fN0 hN1 fN1 hN2 fN2 hN3 fN3 hN4 fN4 hN5 fN5 hN6 fN6 hN7 fN7 hN8 fN8 hN9 fN9 hN10 fN10 hN11 fN11 hX0 fX0 hX1 fX1 hX2 fX2 hX3 fX3
    have D := D2_
    clear D2_
    have hx0 : w4.cell? ⟨gx, 0, none⟩ = some (.bool on) := (blk_cell BX 0).trans rfl
    have hx1 : w4.cell? ⟨gx, 1, none⟩ = some (.int .i64 st) := (blk_cell BX 1).trans rfl
    have hx2 : w4.cell? ⟨gx, 2, none⟩ = some (.int .i64 nx) := (blk_cell BX 2).trans rfl
    clear BX
    refine Hand.wp_part 5 (by kernel_rfl) (fun K hK => ?_)
    conv => arg 2; whnf
    go_wp2
    cases on with
    | false =>
      have HH2 : Aside0 (ipdu_Head.f k 35 false (wrap64 (4 * st)) tag = some hd) := ⟨HH.out⟩
      refine Hand.wp_part 6 (by kernel_rfl) (fun K hK => ?_)
      conv => arg 2; whnf
      go_wp2
      exact login_Step.w7 k t n g h d txt r hd hd2 q1 q2 _ tag _ _ _ _ _ _ _ _ _ _ _ _ _ _ _ _ _ _ _ _ _ gT gP gN gQ gO gS gC gD gx w w4 HG D HT.out HH2.out HZ.out HQ.out HR.out
    | true =>
      have HH2 : Aside0 (ipdu_Head.f k 35 false (wrap64 (wrap64 (4 * st) + wrap64 (128 + nx))) tag = some hd) := ⟨HH.out⟩
      refine Hand.wp_part 6 (by kernel_rfl) (fun K hK => ?_)
      conv => arg 2; whnf
      go_wp2
      exact login_Step.w7 k t n g h d txt r hd hd2 q1 q2 _ tag _ _ _ _ _ _ _ _ _ _ _ _ _ _ _ _ _ _ _ _ _ gT gP gN gQ gO gS gC gD gx w w4 HG D HT.out HH2.out HZ.out HQ.out HR.out
set_option maxHeartbeats 4000000 in
set_option maxRecDepth 100000 in
theorem login_stepped.mono : ∀ t g h d k, LeO (login_stepped.f k t g h d) (login_stepped.f (k + 1) t g h d) := by
  intro t g h d k
  unfold login_stepped.f
  refine LeO.bind (LeO.refl _) (fun u => LeO.ite (LeO.bind (ipdu_Num.mono _ _ _ _) (fun first => LeO.ite ?_ (LeO.refl _))) (LeO.refl _))
  unfold login_stepped.s2 login_stepped.s3 login_stepped.s4
  exact LeO.ite (LeO.refl _) (LeO.ite (LeO.refl _) (LeO.bind (keys_Parse.mono _ _) (fun l => LeO.refl _)))
set_option maxRecDepth 100000 in
theorem stp.mono : ∀ t g h d k, LeO (stp k t g h d) (stp (k + 1) t g h d) := by
  intro t g h d k
  unfold stp
  refine LeO.bind (login_stepped.mono _ _ _ _ _) (fun r => ?_)
  rcases r with x | x
  · exact LeO.bind (ipdu_Tag.mono _ _ _) (fun _ => LeO.bind (ipdu_Head.mono _ _ _ _ _) (fun _ => LeO.bind (login_numbered.mono _ _ _ _ _ _ _ _ _) (fun _ => LeO.refl _)))
  · exact LeO.bind (ipdu_Tag.mono _ _ _) (fun _ => LeO.bind (ipdu_Head.mono _ _ _ _ _) (fun _ => LeO.bind (LeO.refl _) (fun _ => LeO.bind (login_numbered.mono _ _ _ _ _ _ _ _ _) (fun _ => LeO.refl _))))
def login_Step.f (k : Nat) (a0_0 : Int) (a0_1 : Bool) (a0_2 : Bool) (a0_3 : Bool) (a0_4 : Bool) (a0_5 : Bool) (a0_6 : Int) (a0_7 : Int) (a0_8 : ByteArray) (a0_9 : ByteArray) (a0_10 : Int) (a0_11 : Int) (a1 : ByteArray) (a2_0 : ByteArray) (a2_1 : ByteArray) : Option (Int × Bool × Bool × Bool × Bool × Bool × Int × Int × ByteArray × ByteArray × Int × Int × ByteArray × ByteArray × Bool) := (stp k ⟨a0_0, a0_1, ⟨a0_2, a0_3, a0_4, a0_5, a0_6, a0_7, a0_8, a0_9⟩, a0_10, a0_11⟩ a1 a2_0 a2_1).bind fun r => some (r.1.f0, r.1.f1, r.1.f2.f0, r.1.f2.f1, r.1.f2.f2, r.1.f2.f3, r.1.f2.f4, r.1.f2.f5, r.1.f2.f6, r.1.f2.f7, r.1.f3, r.1.f4, r.2.1.f0, r.2.1.f1, r.2.2)
set_option maxHeartbeats 4000000 in
set_option maxRecDepth 100000 in
theorem login_Step.mono : ∀ a0 a1 a2 a3 a4 a5 a6 a7 a8 a9 a10 a11 a12 a13 a14 k, LeO (login_Step.f k a0 a1 a2 a3 a4 a5 a6 a7 a8 a9 a10 a11 a12 a13 a14) (login_Step.f (k + 1) a0 a1 a2 a3 a4 a5 a6 a7 a8 a9 a10 a11 a12 a13 a14) := fun _ _ _ _ _ _ _ _ _ _ _ _ _ _ _ _ => LeO.bind (stp.mono _ _ _ _ _) (fun _ => LeO.refl _)
set_option maxHeartbeats 4000000 in
set_option maxRecDepth 100000 in
theorem login_Step.calls (k : Nat) (a0_0 : Int) (a0_1 : Bool) (a0_2 : Bool) (a0_3 : Bool) (a0_4 : Bool) (a0_5 : Bool) (a0_6 : Int) (a0_7 : Int) (a0_8 : ByteArray) (a0_9 : ByteArray) (a0_10 : Int) (a0_11 : Int) (a1 : ByteArray) (a2_0 : ByteArray) (a2_1 : ByteArray) (r1 : Int) (r2 : Bool) (r3 : Bool) (r4 : Bool) (r5 : Bool) (r6 : Bool) (r7 : Int) (r8 : Int) (r9 : ByteArray) (r10 : ByteArray) (r11 : Int) (r12 : Int) (r13 : ByteArray) (r14 : ByteArray) (r15 : Bool) (w : World) (hG : Glob w) (h : login_Step.f k a0_0 a0_1 a0_2 a0_3 a0_4 a0_5 a0_6 a0_7 a0_8 a0_9 a0_10 a0_11 a1 a2_0 a2_1 = some (r1, r2, r3, r4, r5, r6, r7, r8, r9, r10, r11, r12, r13, r14, r15)) :
    Calls Tryz.prog 9 #[.agg #[.int .i64 a0_0, .bool a0_1, .bool a0_2, .bool a0_3, .bool a0_4, .bool a0_5, .int .i64 a0_6, .int .i64 a0_7, .string a0_8, .string a0_9, .int .u32 a0_10, .int .u32 a0_11], .string a1, .agg #[.string a2_0, .string a2_1]] w fun e w' => e = .returned (.tuple #[.agg #[.int .i64 r1, .bool r2, .bool r3, .bool r4, .bool r5, .bool r6, .int .i64 r7, .int .i64 r8, .string r9, .string r10, .int .u32 r11, .int .u32 r12], .agg #[.string r13, .string r14], .bool r15]) ∧ Below w.heap.size w w' := by
  unfold login_Step.f at h
  obtain ⟨r, hs, h⟩ := Option.bind_eq_some_iff.mp h
  simp only [Option.some.injEq, Prod.mk.injEq] at h
  obtain ⟨rfl, rfl, rfl, rfl, rfl, rfl, rfl, rfl, rfl, rfl, rfl, rfl, rfl, rfl, rfl⟩ := h
  have hc := step_calls k ⟨a0_0, a0_1, ⟨a0_2, a0_3, a0_4, a0_5, a0_6, a0_7, a0_8, a0_9⟩, a0_10, a0_11⟩ a1 a2_0 a2_1 r w hG hs
  dsimp only at hc
  exact hc
def headgateref01_there.f (a0 : ByteArray) (a1 : Int) (a2 : Int) : Option (Bool) := if a1 ≥ 0 then (if a2 ≥ 0 then (if a1 ≤ (a0.size : Int) then (some (decide (a2 ≤ (wrap64 ((a0.size : Int) - a1))))) else (some false)) else (some false)) else (some false)
set_option maxHeartbeats 8000000 in
set_option maxRecDepth 100000 in
theorem headgateref01_there.calls (a0 : ByteArray) (a1 : Int) (a2 : Int) (r : Bool) (w : World) (h : headgateref01_there.f a0 a1 a2 = some r) :
    Calls Tryz.prog 58 #[.string a0, .int .i64 a1, .int .i64 a2] w fun e w' => e = .returned (.bool r) ∧ Drawn0 w w' := by
  have H : (if a1 ≥ 0 then (if a2 ≥ 0 then (if a1 ≤ (a0.size : Int) then (some (decide (a2 ≤ (wrap64 ((a0.size : Int) - a1))))) else (some false)) else (some false)) else (some false)) = some r := h
  clear h
  by_cases c4 : a1 ≥ 0
  · rw [if_pos c4] at H
    have c4b0 : decide (0 ≤ a1) = true := decide_eq_true c4
    clear c4
    by_cases c5 : a2 ≥ 0
    · rw [if_pos c5] at H
      have c5b0 : decide (0 ≤ a2) = true := decide_eq_true c5
      clear c5
      by_cases c6 : a1 ≤ (a0.size : Int)
      · rw [if_pos c6] at H
        have c6b0 : decide (a1 ≤ (a0.size : Int)) = true := decide_eq_true c6
        clear c6
        obtain rfl := Option.some.inj H
        go_enter Tryz.func58, Tryz.ntmps58
        go_wp2
        go_ret
        exact ⟨by first | rfl | (simp; done) | (simp [*]; done), by repeat (first | exact Drawn0.refl _ | apply Drawn0.step)⟩
      · rw [if_neg c6] at H
        have c6b0 : decide (a1 ≤ (a0.size : Int)) = false := decide_eq_false c6
        clear c6
        obtain rfl := Option.some.inj H
        go_enter Tryz.func58, Tryz.ntmps58
        go_wp2
        go_ret
        exact ⟨by first | rfl | (simp; done) | (simp [*]; done), by repeat (first | exact Drawn0.refl _ | apply Drawn0.step)⟩
    · rw [if_neg c5] at H
      have c5b0 : decide (0 ≤ a2) = false := decide_eq_false c5
      clear c5
      obtain rfl := Option.some.inj H
      go_enter Tryz.func58, Tryz.ntmps58
      go_wp2
      go_ret
      exact ⟨by first | rfl | (simp; done) | (simp [*]; done), by repeat (first | exact Drawn0.refl _ | apply Drawn0.step)⟩
  · rw [if_neg c4] at H
    have c4b0 : decide (0 ≤ a1) = false := decide_eq_false c4
    clear c4
    obtain rfl := Option.some.inj H
    go_enter Tryz.func58, Tryz.ntmps58
    go_wp2
    go_ret
    exact ⟨by first | rfl | (simp; done) | (simp [*]; done), by repeat (first | exact Drawn0.refl _ | apply Drawn0.step)⟩
end Go.Proofs.YthglbmihbmneaaaGreatDoor.P
