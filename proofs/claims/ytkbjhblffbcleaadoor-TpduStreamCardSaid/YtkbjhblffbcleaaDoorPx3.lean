-- written by this session's patched copy of the printer (wip/tools/patch_print.py); Lean checks it
import Derived.Test.YtkbjhblffbcleaaDoorPx0
import Derived.Test.YtkbjhblffbcleaaDoorPx1
import Derived.Test.YtkbjhblffbcleaaDoorPx2
namespace Go.Proofs.YtkbjhblffbcleaaDoor.P
open Go.RowKit Go.Proofs.YtkbjhblffbcleaaDoorW.PrintWords Go.Proofs.YtkbjhblffbcleaaDoorW.PrintLast Go.Proofs.YtkbjhblffbcleaaDoorW.PrintMore
attribute [local go_sem] max2_int min2_int max_two min_two max_three min_three max_four min_four   -- for this text's walks alone
set_option linter.unusedVariables false
set_option linter.unusedSimpArgs false
set_option linter.unnecessarySimpa false

/-! ### tpdu_Get: function 9 -/
/-- From where data are known to be whole on. -/
def tpdu_Get.t14 (k : Nat) (s : ByteArray) (t0 fl : Int) (Hd D : ByteArray) (lo : Int) (md : Bool) : Option (Int × Int × ByteArray × ByteArray × Int × Int) :=
  if md = true then (if 0 ≤ wrap64 (lo - 4) ∧ wrap64 (lo - 4) ≤ lo ∧ lo ≤ (s.size : Int) then (crc_Right.f k D (s.extract (wrap64 (lo - 4)).toNat lo.toNat)).bind fun b => some (t0, fl, Hd, D, lo, if b = true then 0 else 51) else none) else some (t0, fl, Hd, D, lo, 0)
def tpdu_Get.t11 (k : Nat) (s : ByteArray) (fl n e at' lo : Int) (md : Bool) : Option (Int × Int × ByteArray × ByteArray × Int × Int) :=
  if (s.size : Int) < lo then some (0, 0, (⟨#[]⟩ : ByteArray), (⟨#[]⟩ : ByteArray), 0, 0)
  else if 0 < s.size ∧ 8 ≤ e ∧ e ≤ (s.size : Int) then
    (if 0 < n then (if 0 ≤ at' ∧ at' ≤ wrap64 (at' + n) ∧ wrap64 (at' + n) ≤ (s.size : Int) then tpdu_Get.t14 k s (wrap64 (bt s 0)) fl (s.extract 8 e.toNat) (s.extract at'.toNat (wrap64 (at' + n)).toNat) lo md else none)
      else tpdu_Get.t14 k s (wrap64 (bt s 0)) fl (s.extract 8 e.toNat) (⟨#[]⟩ : ByteArray) lo md)
  else none
def tpdu_Get.t10 (k : Nat) (s : ByteArray) (fl n e at' lo : Int) (mh md : Bool) : Option (Int × Int × ByteArray × ByteArray × Int × Int) :=
  if mh = true then (if wrap64 (e + 4) ≤ (s.size : Int) then (if 0 ≤ e ∧ e ≤ (s.size : Int) ∧ e ≤ wrap64 (e + 4) then (crc_Right.f k (s.extract 0 e.toNat) (s.extract e.toNat (wrap64 (e + 4)).toNat)).bind fun b => if b = true then tpdu_Get.t11 k s fl n e at' lo md else some (0, 0, (⟨#[]⟩ : ByteArray), (⟨#[]⟩ : ByteArray), 0, 201) else none)
    else tpdu_Get.t11 k s fl n e at' lo md) else tpdu_Get.t11 k s fl n e at' lo md
def tpdu_Get.t9 (k : Nat) (s : ByteArray) (u n fl z x e at' lo : Int) (mh md : Bool) : Option (Int × Int × ByteArray × ByteArray × Int × Int) :=
  if z = 0 then some (0, 0, (⟨#[]⟩ : ByteArray), (⟨#[]⟩ : ByteArray), 0, 200) else if n < 0 then some (0, 0, (⟨#[]⟩ : ByteArray), (⟨#[]⟩ : ByteArray), 0, 200) else if x < n then some (0, 0, (⟨#[]⟩ : ByteArray), (⟨#[]⟩ : ByteArray), 0, 200) else if lo = wrap64 u then
    (if 3 < s.size then (tpdu_measured_flags.f e at' lo mh md fl).bind fun g =>
      if wrap64 (bt s 1) = g then (if wrap64 (bt s 2) = e then (if wrap64 (bt s 3) = at' then tpdu_Get.t10 k s fl n e at' lo mh md else some (0, 0, (⟨#[]⟩ : ByteArray), (⟨#[]⟩ : ByteArray), 0, 200)) else some (0, 0, (⟨#[]⟩ : ByteArray), (⟨#[]⟩ : ByteArray), 0, 200)) else some (0, 0, (⟨#[]⟩ : ByteArray), (⟨#[]⟩ : ByteArray), 0, 200) else none)
    else some (0, 0, (⟨#[]⟩ : ByteArray), (⟨#[]⟩ : ByteArray), 0, 200)
def tpdu_Get.t7 (k : Nat) (s : ByteArray) (h d : Bool) (u n z x : Int) (b : Bool) : Option (Int × Int × ByteArray × ByteArray × Int × Int) :=
  if 3 < s.size then (tpdu_form_measure.f z x b (if n < 0 then 0 else n) h d).bind fun m => tpdu_Get.t9 k s u n (Go.bits .and .i64 (wrap64 (bt s 1)) 12) z x m.1 m.2.1 m.2.2.1 m.2.2.2.1 m.2.2.2.2 else none
def tpdu_Get.f (k : Nat) (s : ByteArray) (h d : Bool) : Option (Int × Int × ByteArray × ByteArray × Int × Int) :=
  if (s.size : Int) < 8 then some (0, 0, (⟨#[]⟩ : ByteArray), (⟨#[]⟩ : ByteArray), 0, 0) else
  (tpdu_formOf.f (wrap64 (bt s 0))).bind fun F => (fields_Little.f k s 4 4).bind fun L => (tpdu_form_measure.f F.1 F.2.1 F.2.2 0 h d).bind fun m =>
  if 0 < wrap64 (wrap64 L.1 - m.2.2.1) then (tpdu_form_measure.f F.1 F.2.1 F.2.2 1 h d).bind fun m1 => tpdu_Get.t7 k s h d L.1 (wrap64 (wrap64 (wrap64 L.1 - m1.2.2.1) + 1)) F.1 F.2.1 F.2.2
    else tpdu_Get.t7 k s h d L.1 (wrap64 (wrap64 L.1 - m.2.2.1)) F.1 F.2.1 F.2.2
set_option maxHeartbeats 4000000 in
set_option maxRecDepth 100000 in
theorem tpdu_Get.w14 (k : Nat) (s : ByteArray) (h d : Bool) (u n fl e at' lo : Int) (ub mh md : Bool) (r1 r2 : Int) (r3 r4 : ByteArray) (r5 r6 : Int) (t0 : Int) (Hd D : ByteArray) (c16 c17 c18 c19 c20 c21 c22 c23 c24 c25 c26 c27 c28 c29 c30 c31 c32 c33 c34 c35 c36 c37 c38 c39 c40 c41 c42 c43 c44 c45 c46 c47 c48 c49 c50 c51 c52 c53 c54 c55 c56 c57 c58 c59 c60 c61 c62 c63 c64 c65 c66 c67 c68 c69 c70 c71 c72 c73 c74 c75 c76 c77 c78 c79 c80 c81 c82 c83 c84 c85 c86 c87 c88 c89 c90 c91 c92 c93 c94 c95 c96 c97 c98 c99 c100 c101 c102 c103 c104 c105 c106 c107 c108 c109 c110 c111 c112 c113 c114 c115 c116 c117 c118 c119 c120 c121 c122 c123 c124 c125 c126 c127 c128 c129 c130 c131 c132 c133 c134 c135 c136 c137 c138 c139 c140 c141 c142 c143 c144 c145 c146 c147 c148 c149 c150 c151 c152 c153 c154 c155 c156 : Value) (gp gf ge gm : Nat) (w0 w : World) (HG : Aside0 (Glob w0))
    (BKp : Aside0 (w.heap[gp]? = some (.cells #[.int .i64 t0, .int .i64 fl, .string Hd, .string D] 24 (0, 0)))) (BKm : Aside0 (w.heap[gm]? = some (.cells #[.int .i64 e, .int .i64 at', .int .i64 lo, .bool mh, .bool md] 54 (0, 0)))) (NE : Aside0 (gp ≠ gm)) (GE : Aside0 (w0.heap.size ≤ gp)) (HB : Aside0 (Below w0.heap.size w0 w))
    (hf : tpdu_Get.t14 k s t0 fl Hd D lo md = some (r1, r2, r3, r4, r5, r6)) :
    Code.wp Tryd.prog (Hand.dropSeq 14 ((Tryd.f9.body).getD .skip)) (bodyPost Tryd.prog Tryd.f9 fun e_ w' => e_ = .returned (.tuple #[.agg #[.int .i64 r1, .int .i64 r2, .string r3, .string r4], .int .i64 r5, .int .i64 r6]) ∧ Below w0.heap.size w0 w') ⟨#[.string s, .bool h, .bool d, undef, undef, undef, .pointer (some ⟨gp, 0, none⟩), .int .i64 0, .int .i64 0, .pointer (some ⟨gf, 0, none⟩), .int .u64 u, .bool ub, .pointer (some ⟨ge, 0, none⟩), .int .i64 n, .pointer (some ⟨gm, 0, none⟩), .int .i64 fl, c16, c17, c18, c19, c20, c21, c22, c23, c24, c25, c26, c27, c28, c29, c30, c31, c32, c33, c34, c35, c36, c37, c38, c39, c40, c41, c42, c43, c44, c45, c46, c47, c48, c49, c50, c51, c52, c53, c54, c55, c56, c57, c58, c59, c60, c61, c62, c63, c64, c65, c66, c67, c68, c69, c70, c71, c72, c73, c74, c75, c76, c77, c78, c79, c80, c81, c82, c83, c84, c85, c86, c87, c88, c89, c90, c91, c92, c93, c94, c95, c96, c97, c98, c99, c100, c101, c102, c103, c104, c105, c106, c107, c108, c109, c110, c111, c112, c113, c114, c115, c116, c117, c118, c119, c120, c121, c122, c123, c124, c125, c126, c127, c128, c129, c130, c131, c132, c133, c134, c135, c136, c137, c138, c139, c140, c141, c142, c143, c144, c145, c146, c147, c148, c149, c150, c151, c152, c153, c154, c155, c156, undef, undef, undef, undef, undef, undef, undef, undef, undef, undef, undef, undef, undef, undef, undef, undef, undef, undef, undef, undef, undef], []⟩ w := by
  have hu24 := Tryd.underlying24
  have hu54 := Tryd.underlying54
  unfold tpdu_Get.t14 at hf
  cases md with
  | false =>
    rw [if_neg (by decide)] at hf
    simp only [Option.some.injEq, Prod.mk.injEq] at hf
    obtain ⟨rfl, rfl, rfl, rfl, rfl, rfl⟩ := hf
    refine Hand.wp_part 14 (by kernel_rfl) (fun K hK => ?_)
    conv => arg 2; whnf
    go_wp2
    have n0_ := Aside0.mk (blk_drew BKp.out)
    have n1_ := Aside0.mk (blk_drew BKm.out)
    have nb_ := Aside0.mk (below_drew1 HB.out)
    clear HB BKp BKm
    have BKp := n0_
    have BKm := n1_
    have HB := nb_
    clear nb_ n0_ n1_
    refine start_ (n := 15) (S := fun w' => w'.cell? ⟨gp, 3, none⟩ = some (.string D) ∧ w'.cell? ⟨gm, 2, none⟩ = some (.int .i64 lo) ∧ w'.cell? ⟨gm, 4, none⟩ = some (.bool false)) (ds := []) #[false, false, false, false, false, false, false, false, false, false, false, false, false, false, false] (by kernel_rfl) rfl rfl ⟨(blk_cell BKp.out 3).trans rfl, (blk_cell BKm.out 2).trans rfl, (blk_cell BKm.out 4).trans rfl⟩ (fun hHeld => ?_)
    generalize w.drew = w1 at HB hHeld BKp BKm ⊢
    refine qon_ 0 (some 157) (dB 15 1) ?_
    refine qtk_ 1 (some 158) (dB 15 3) hHeld ?_
    refine qon_ 2 (some 159) (dB 15 7) ?_
    refine qof_ 3 (some 160) (dB 15 15) ?_
    refine qof_ 4 (some 161) (dB 15 31) ?_
    refine qof_ 5 (some 162) (dB 15 63) ?_
    refine qof_ 6 (some 163) (dB 15 127) ?_
    refine qof_ 7 (some 164) (dB 15 255) ?_
    refine qof_ 8 (some 165) (dB 15 511) ?_
    refine qof_ 9 (some 166) (dB 15 1023) ?_
    refine qof_ 10 (some 167) (dB 15 2047) ?_
    refine qof_ 11 (some 168) (dB 15 4095) ?_
    refine qof_ 12 (some 169) (dB 15 8191) ?_
    refine qof_ 13 (some 170) (dB 15 16383) ?_
    refine qon_ 14 (some 171) (dB 15 32767) ?_
    refine done_ (by kernel_rfl) ?_
    go_wp2
    conv => arg 2; whnf
    go_wp2
    have n0_ := Aside0.mk (blk_drew BKp.out)
    have n1_ := Aside0.mk (blk_drew BKm.out)
    have nb_ := Aside0.mk (below_drew1 HB.out)
    clear HB BKp BKm
    have BKp := n0_
    have BKm := n1_
    have HB := nb_
    clear nb_ n0_ n1_
    refine start_ (n := 6) (S := fun w' => w'.cell? ⟨gp, 0, none⟩ = some (.int .i64 t0) ∧ w'.cell? ⟨gp, 1, none⟩ = some (.int .i64 fl) ∧ w'.cell? ⟨gp, 2, none⟩ = some (.string Hd) ∧ w'.cell? ⟨gp, 3, none⟩ = some (.string D) ∧ w'.cell? ⟨gm, 2, none⟩ = some (.int .i64 lo)) (ds := []) #[false, false, false, false, false, false] (by kernel_rfl) rfl rfl ⟨(blk_cell BKp.out 0).trans rfl, (blk_cell BKp.out 1).trans rfl, (blk_cell BKp.out 2).trans rfl, (blk_cell BKp.out 3).trans rfl, (blk_cell BKm.out 2).trans rfl⟩ (fun hHeld => ?_)
    generalize w1.drew = w2 at HB hHeld BKp BKm ⊢
    refine qon_ 1 (some 176) (dB 6 2) ?_
    refine qtk_ 0 (some 175) (dB 6 3) hHeld ?_
    refine qtk_ 2 (some 177) (dB 6 7) hHeld ?_
    refine one_ (i := 3) (N := none) (dB 6 15) rfl rfl (by kernel_rfl) (by decide) (fun K hK => ?_)
    have hcp0 : w2.cell? ⟨gp, 0, none⟩ = some (.int .i64 t0) := (blk_cell BKp.out 0).trans rfl
    have hcp1 : w2.cell? ⟨gp, 1, none⟩ = some (.int .i64 fl) := (blk_cell BKp.out 1).trans rfl
    have hcp2 : w2.cell? ⟨gp, 2, none⟩ = some (.string Hd) := (blk_cell BKp.out 2).trans rfl
    have hcp3 : w2.cell? ⟨gp, 3, none⟩ = some (.string D) := (blk_cell BKp.out 3).trans rfl
    have hfp0 := blk_frozen BKp.out 0
    have hfp1 := blk_frozen BKp.out 1
    have hfp2 := blk_frozen BKp.out 2
    have hfp3 := blk_frozen BKp.out 3
    refine skip_ (w1 := ?_) (by rfl) rfl ?_ ?_
    rotate_left
    ·go_simp
     rfl
    refine hK.out _ _ ⟨(cell_again (cell_again (cell_again (cell_again hHeld.1)))), (cell_again (cell_again (cell_again (cell_again hHeld.2.1)))), (cell_again (cell_again (cell_again (cell_again hHeld.2.2.1)))), (cell_again (cell_again (cell_again (cell_again hHeld.2.2.2.1)))), ((cell_far (p := ⟨gp, _, none⟩) NE.out.symm _).trans (((cell_far (p := ⟨gp, _, none⟩) NE.out.symm _).trans (((cell_far (p := ⟨gp, _, none⟩) NE.out.symm _).trans (((cell_far (p := ⟨gp, _, none⟩) NE.out.symm _).trans (hHeld.2.2.2.2))))))))⟩ (fun hHeld => ?_)
    clear hK K
    refine qon_ 4 (some 7) (dB 6 31) ?_
    refine qon_ 5 (some 8) (dB 6 63) ?_
    refine done_ (by kernel_rfl) ?_
    go_wp2
    refine bodyPost_ret (results_ctt rfl _ _ gp 24 #[.int .i64 t0, .int .i64 fl, .string Hd, .string D] (0, 0) _ rfl (blk_put (blk_put (blk_put (blk_put BKp.out 0 _ rfl) 1 _ rfl) 2 _ rfl) 3 _ rfl) hu24 rfl (by kernel_rfl)) rfl ?_
    exact ⟨rfl, (below_set (below_set (below_set (below_set HB.out GE.out) GE.out) GE.out) GE.out)⟩
  | true =>
    rw [if_pos rfl] at hf
    by_cases c1 : 0 ≤ wrap64 (lo - 4) ∧ wrap64 (lo - 4) ≤ lo ∧ lo ≤ (s.size : Int)
    · rw [if_pos c1] at hf
      obtain ⟨q1, q2, q3⟩ := c1
      replace hf := Option.bind_eq_some_iff.mp hf
      obtain ⟨b, hR, hf⟩ := hf
      have HR := Aside0.mk hR
      clear hR
      simp only [Option.some.injEq, Prod.mk.injEq] at hf
      obtain ⟨rfl, rfl, rfl, rfl, rfl, rfl⟩ := hf
      obtain ⟨j, hj⟩ : ∃ j, wrap64 (lo - 4) = j := ⟨_, rfl⟩
      rw [hj] at q1 q2 HR
      have hjw : IntKind.i64.wrap (lo - 4) = j := (i64_w _).trans hj
      have q1b := decide_eq_true q1
      have q2b := decide_eq_true q2
      have q3b := decide_eq_true q3
      have q1t := eq_true q1
      have q2t := eq_true q2
      have q3t := eq_true q3
      refine Hand.wp_part 14 (by kernel_rfl) (fun K hK => ?_)
      conv => arg 2; whnf
      go_wp2
      have n0_ := Aside0.mk (blk_drew BKp.out)
      have n1_ := Aside0.mk (blk_drew BKm.out)
      have nb_ := Aside0.mk (below_drew1 HB.out)
      clear HB BKp BKm
      have BKp := n0_
      have BKm := n1_
      have HB := nb_
      clear nb_ n0_ n1_
      refine start_ (n := 15) (S := fun w' => w'.cell? ⟨gp, 3, none⟩ = some (.string D) ∧ w'.cell? ⟨gm, 2, none⟩ = some (.int .i64 lo) ∧ w'.cell? ⟨gm, 4, none⟩ = some (.bool true)) (ds := []) #[false, false, false, false, false, false, false, false, false, false, false, false, false, false, false] (by kernel_rfl) rfl rfl ⟨(blk_cell BKp.out 3).trans rfl, (blk_cell BKm.out 2).trans rfl, (blk_cell BKm.out 4).trans rfl⟩ (fun hHeld => ?_)
      generalize w.drew = w1 at HB hHeld BKp BKm ⊢
      refine qon_ 0 (some 157) (dB 15 1) ?_
      refine qtk_ 1 (some 158) (dB 15 3) hHeld ?_
      refine qon_ 2 (some 159) (dB 15 7) ?_
      refine qon_ 3 (some 160) (dB 15 15) ?_
      refine qon_ 5 (some 162) (dB 15 47) ?_
      refine qon_ 6 (some 163) (dB 15 111) ?_
      refine qon_ 9 (some 166) (dB 15 623) ?_
      refine qtk_ 4 (some 161) (dB 15 639) hHeld ?_
      refine qtk_ 7 (some 164) (dB 15 767) hHeld ?_
      refine qon_ 8 (some 165) (dB 15 1023) ?_
      refine qtk_ 10 (some 167) (dB 15 2047) hHeld ?_
      refine qon_ 11 (some 168) (dB 15 4095) ?_
      refine one_ (i := 12) (N := some 169) (dB 15 8191) rfl rfl (by kernel_rfl) (by decide) (fun K hK => ?_)
      refine goes_ Tryd.func21 (by kernel_rfl) rfl #[.string D, .string (s.extract j.toNat lo.toNat)] (by rfl) rfl rfl (by simp only [List.map_toArray, List.map_cons, List.map_nil]; rfl) ?_
      with_reducible refine (crc_Right.calls k D (s.extract j.toNat lo.toNat) b _ (Glob.keep HG.out HB.out) HR.out).mono ?_
      rintro e_ w2 ⟨rfl, hb⟩
      have n1_ := Aside0.mk (blk_below BKp.out hb)
      have n2_ := Aside0.mk (blk_below BKm.out hb)
      have n3_ := Aside0.mk (below_step HB.out hb)
      clear BKp BKm HB hb
      have BKp := n1_
      have BKm := n2_
      have HB := n3_
      clear n1_ n2_ n3_
      refine ⟨_, rfl, ?_⟩
      refine hK.out _ _ ⟨(blk_cell BKp.out 3).trans rfl, (blk_cell BKm.out 2).trans rfl, (blk_cell BKm.out 4).trans rfl⟩ (fun hHeld => ?_)
      clear hK K
      refine norm_ (a' := ?_) ?_ ?_
      rotate_left
      ·show Act.put _ (some 169) _ = _
       simp only [Act.put, la_, lb_, lc_, i64_w, i32_w]
       rfl
      refine qon_ 13 (some 170) (dB 15 16383) ?_
      refine qon_ 14 (some 171) (dB 15 32767) ?_
      refine done_ (by kernel_rfl) ?_
      cases b
      · go_wp2
        have n0_ := Aside0.mk (blk_drew BKp.out)
        have n1_ := Aside0.mk (blk_drew BKm.out)
        have nb_ := Aside0.mk (below_drew1 HB.out)
        clear HB BKp BKm
        have BKp := n0_
        have BKm := n1_
        have HB := nb_
        clear nb_ n0_ n1_
        refine start_ (n := 6) (S := fun w' => w'.cell? ⟨gp, 0, none⟩ = some (.int .i64 t0) ∧ w'.cell? ⟨gp, 1, none⟩ = some (.int .i64 fl) ∧ w'.cell? ⟨gp, 2, none⟩ = some (.string Hd) ∧ w'.cell? ⟨gp, 3, none⟩ = some (.string D) ∧ w'.cell? ⟨gm, 2, none⟩ = some (.int .i64 lo)) (ds := []) #[false, false, false, false, false, false] (by kernel_rfl) rfl rfl ⟨(blk_cell BKp.out 0).trans rfl, (blk_cell BKp.out 1).trans rfl, (blk_cell BKp.out 2).trans rfl, (blk_cell BKp.out 3).trans rfl, (blk_cell BKm.out 2).trans rfl⟩ (fun hHeld => ?_)
        generalize w2.drew = w3 at HB hHeld BKp BKm ⊢
        refine qon_ 1 (some 173) (dB 6 2) ?_
        refine qtk_ 0 (some 172) (dB 6 3) hHeld ?_
        refine qtk_ 2 (some 174) (dB 6 7) hHeld ?_
        refine one_ (i := 3) (N := none) (dB 6 15) rfl rfl (by kernel_rfl) (by decide) (fun K hK => ?_)
        have hcp0 : w3.cell? ⟨gp, 0, none⟩ = some (.int .i64 t0) := (blk_cell BKp.out 0).trans rfl
        have hcp1 : w3.cell? ⟨gp, 1, none⟩ = some (.int .i64 fl) := (blk_cell BKp.out 1).trans rfl
        have hcp2 : w3.cell? ⟨gp, 2, none⟩ = some (.string Hd) := (blk_cell BKp.out 2).trans rfl
        have hcp3 : w3.cell? ⟨gp, 3, none⟩ = some (.string D) := (blk_cell BKp.out 3).trans rfl
        have hfp0 := blk_frozen BKp.out 0
        have hfp1 := blk_frozen BKp.out 1
        have hfp2 := blk_frozen BKp.out 2
        have hfp3 := blk_frozen BKp.out 3
        refine skip_ (w1 := ?_) (by rfl) rfl ?_ ?_
        rotate_left
        ·go_simp
         rfl
        refine hK.out _ _ ⟨(cell_again (cell_again (cell_again (cell_again hHeld.1)))), (cell_again (cell_again (cell_again (cell_again hHeld.2.1)))), (cell_again (cell_again (cell_again (cell_again hHeld.2.2.1)))), (cell_again (cell_again (cell_again (cell_again hHeld.2.2.2.1)))), ((cell_far (p := ⟨gp, _, none⟩) NE.out.symm _).trans (((cell_far (p := ⟨gp, _, none⟩) NE.out.symm _).trans (((cell_far (p := ⟨gp, _, none⟩) NE.out.symm _).trans (((cell_far (p := ⟨gp, _, none⟩) NE.out.symm _).trans (hHeld.2.2.2.2))))))))⟩ (fun hHeld => ?_)
        clear hK K
        refine qon_ 4 (some 7) (dB 6 31) ?_
        refine qon_ 5 (some 8) (dB 6 63) ?_
        refine done_ (by kernel_rfl) ?_
        go_wp2
        refine bodyPost_ret (results_ctt rfl _ _ gp 24 #[.int .i64 t0, .int .i64 fl, .string Hd, .string D] (0, 0) _ rfl (blk_put (blk_put (blk_put (blk_put BKp.out 0 _ rfl) 1 _ rfl) 2 _ rfl) 3 _ rfl) hu24 rfl (by kernel_rfl)) rfl ?_
        exact ⟨rfl, (below_set (below_set (below_set (below_set HB.out GE.out) GE.out) GE.out) GE.out)⟩
      · go_wp2
        conv => arg 2; whnf
        go_wp2
        have n0_ := Aside0.mk (blk_drew BKp.out)
        have n1_ := Aside0.mk (blk_drew BKm.out)
        have nb_ := Aside0.mk (below_drew1 HB.out)
        clear HB BKp BKm
        have BKp := n0_
        have BKm := n1_
        have HB := nb_
        clear nb_ n0_ n1_
        refine start_ (n := 6) (S := fun w' => w'.cell? ⟨gp, 0, none⟩ = some (.int .i64 t0) ∧ w'.cell? ⟨gp, 1, none⟩ = some (.int .i64 fl) ∧ w'.cell? ⟨gp, 2, none⟩ = some (.string Hd) ∧ w'.cell? ⟨gp, 3, none⟩ = some (.string D) ∧ w'.cell? ⟨gm, 2, none⟩ = some (.int .i64 lo)) (ds := []) #[false, false, false, false, false, false] (by kernel_rfl) rfl rfl ⟨(blk_cell BKp.out 0).trans rfl, (blk_cell BKp.out 1).trans rfl, (blk_cell BKp.out 2).trans rfl, (blk_cell BKp.out 3).trans rfl, (blk_cell BKm.out 2).trans rfl⟩ (fun hHeld => ?_)
        generalize w2.drew = w3 at HB hHeld BKp BKm ⊢
        refine qon_ 1 (some 176) (dB 6 2) ?_
        refine qtk_ 0 (some 175) (dB 6 3) hHeld ?_
        refine qtk_ 2 (some 177) (dB 6 7) hHeld ?_
        refine one_ (i := 3) (N := none) (dB 6 15) rfl rfl (by kernel_rfl) (by decide) (fun K hK => ?_)
        have hcp0 : w3.cell? ⟨gp, 0, none⟩ = some (.int .i64 t0) := (blk_cell BKp.out 0).trans rfl
        have hcp1 : w3.cell? ⟨gp, 1, none⟩ = some (.int .i64 fl) := (blk_cell BKp.out 1).trans rfl
        have hcp2 : w3.cell? ⟨gp, 2, none⟩ = some (.string Hd) := (blk_cell BKp.out 2).trans rfl
        have hcp3 : w3.cell? ⟨gp, 3, none⟩ = some (.string D) := (blk_cell BKp.out 3).trans rfl
        have hfp0 := blk_frozen BKp.out 0
        have hfp1 := blk_frozen BKp.out 1
        have hfp2 := blk_frozen BKp.out 2
        have hfp3 := blk_frozen BKp.out 3
        refine skip_ (w1 := ?_) (by rfl) rfl ?_ ?_
        rotate_left
        ·go_simp
         rfl
        refine hK.out _ _ ⟨(cell_again (cell_again (cell_again (cell_again hHeld.1)))), (cell_again (cell_again (cell_again (cell_again hHeld.2.1)))), (cell_again (cell_again (cell_again (cell_again hHeld.2.2.1)))), (cell_again (cell_again (cell_again (cell_again hHeld.2.2.2.1)))), ((cell_far (p := ⟨gp, _, none⟩) NE.out.symm _).trans (((cell_far (p := ⟨gp, _, none⟩) NE.out.symm _).trans (((cell_far (p := ⟨gp, _, none⟩) NE.out.symm _).trans (((cell_far (p := ⟨gp, _, none⟩) NE.out.symm _).trans (hHeld.2.2.2.2))))))))⟩ (fun hHeld => ?_)
        clear hK K
        refine qon_ 4 (some 7) (dB 6 31) ?_
        refine qon_ 5 (some 8) (dB 6 63) ?_
        refine done_ (by kernel_rfl) ?_
        go_wp2
        refine bodyPost_ret (results_ctt rfl _ _ gp 24 #[.int .i64 t0, .int .i64 fl, .string Hd, .string D] (0, 0) _ rfl (blk_put (blk_put (blk_put (blk_put BKp.out 0 _ rfl) 1 _ rfl) 2 _ rfl) 3 _ rfl) hu24 rfl (by kernel_rfl)) rfl ?_
        exact ⟨rfl, (below_set (below_set (below_set (below_set HB.out GE.out) GE.out) GE.out) GE.out)⟩
    · rw [if_neg c1] at hf
      cases hf
set_option maxHeartbeats 4000000 in
set_option maxRecDepth 100000 in
theorem tpdu_Get.w11 (k : Nat) (s : ByteArray) (h d : Bool) (u n fl e at' lo : Int) (ub mh md : Bool) (r1 r2 : Int) (r3 r4 : ByteArray) (r5 r6 : Int) (c16 c17 c18 c19 c20 c21 c22 c23 c24 c25 c26 c27 c28 c29 c30 c31 c32 c33 c34 c35 c36 c37 c38 c39 c40 c41 c42 c43 c44 c45 c46 c47 c48 c49 c50 c51 c52 c53 c54 c55 c56 c57 c58 c59 c60 c61 c62 c63 c64 c65 c66 c67 c68 c69 c70 c71 c72 c73 c74 c75 c76 c77 c78 c79 c80 c81 c82 c83 c84 c85 c86 c87 c88 c89 c90 c91 c92 c93 c94 c95 c96 c97 c98 c99 c100 c101 c102 c103 c104 c105 c106 c107 c108 c109 c110 c111 c112 c113 c114 c115 c116 c117 c118 c119 c120 c121 c122 c123 c124 c125 c126 c127 c128 c129 : Value) (gp gf ge gm : Nat) (w0 w : World) (HG : Aside0 (Glob w0))
    (BKp : Aside0 (w.heap[gp]? = some (.cells #[.int .i64 0, .int .i64 0, .string (⟨#[]⟩ : ByteArray), .string (⟨#[]⟩ : ByteArray)] 24 (0, 0)))) (BKm : Aside0 (w.heap[gm]? = some (.cells #[.int .i64 e, .int .i64 at', .int .i64 lo, .bool mh, .bool md] 54 (0, 0)))) (NE : Aside0 (gp ≠ gm)) (GE : Aside0 (w0.heap.size ≤ gp)) (HB : Aside0 (Below w0.heap.size w0 w))
    (hf : tpdu_Get.t11 k s fl n e at' lo md = some (r1, r2, r3, r4, r5, r6)) :
    Code.wp Tryd.prog (Hand.dropSeq 11 ((Tryd.f9.body).getD .skip)) (bodyPost Tryd.prog Tryd.f9 fun e_ w' => e_ = .returned (.tuple #[.agg #[.int .i64 r1, .int .i64 r2, .string r3, .string r4], .int .i64 r5, .int .i64 r6]) ∧ Below w0.heap.size w0 w') ⟨#[.string s, .bool h, .bool d, undef, undef, undef, .pointer (some ⟨gp, 0, none⟩), .int .i64 0, .int .i64 0, .pointer (some ⟨gf, 0, none⟩), .int .u64 u, .bool ub, .pointer (some ⟨ge, 0, none⟩), .int .i64 n, .pointer (some ⟨gm, 0, none⟩), .int .i64 fl, c16, c17, c18, c19, c20, c21, c22, c23, c24, c25, c26, c27, c28, c29, c30, c31, c32, c33, c34, c35, c36, c37, c38, c39, c40, c41, c42, c43, c44, c45, c46, c47, c48, c49, c50, c51, c52, c53, c54, c55, c56, c57, c58, c59, c60, c61, c62, c63, c64, c65, c66, c67, c68, c69, c70, c71, c72, c73, c74, c75, c76, c77, c78, c79, c80, c81, c82, c83, c84, c85, c86, c87, c88, c89, c90, c91, c92, c93, c94, c95, c96, c97, c98, c99, c100, c101, c102, c103, c104, c105, c106, c107, c108, c109, c110, c111, c112, c113, c114, c115, c116, c117, c118, c119, c120, c121, c122, c123, c124, c125, c126, c127, c128, c129, undef, undef, undef, undef, undef, undef, undef, undef, undef, undef, undef, undef, undef, undef, undef, undef, undef, undef, undef, undef, undef, undef, undef, undef, undef, undef, undef, undef, undef, undef, undef, undef, undef, undef, undef, undef, undef, undef, undef, undef, undef, undef, undef, undef, undef, undef, undef, undef], []⟩ w := by
  have hu24 := Tryd.underlying24
  have hu54 := Tryd.underlying54
  unfold tpdu_Get.t11 at hf
  have hcp0 : w.cell? ⟨gp, 0, none⟩ = some (.int .i64 0) := (blk_cell BKp.out 0).trans rfl
  have hcp1 : w.cell? ⟨gp, 1, none⟩ = some (.int .i64 0) := (blk_cell BKp.out 1).trans rfl
  have hcp2 : w.cell? ⟨gp, 2, none⟩ = some (.string (⟨#[]⟩ : ByteArray)) := (blk_cell BKp.out 2).trans rfl
  have hcp3 : w.cell? ⟨gp, 3, none⟩ = some (.string (⟨#[]⟩ : ByteArray)) := (blk_cell BKp.out 3).trans rfl
  have hfp0 := blk_frozen BKp.out 0
  have hfp1 := blk_frozen BKp.out 1
  have hfp2 := blk_frozen BKp.out 2
  have hfp3 := blk_frozen BKp.out 3
  have hcm0 : w.cell? ⟨gm, 0, none⟩ = some (.int .i64 e) := (blk_cell BKm.out 0).trans rfl
  have hcm1 : w.cell? ⟨gm, 1, none⟩ = some (.int .i64 at') := (blk_cell BKm.out 1).trans rfl
  have hcm2 : w.cell? ⟨gm, 2, none⟩ = some (.int .i64 lo) := (blk_cell BKm.out 2).trans rfl
  have hcm3 : w.cell? ⟨gm, 3, none⟩ = some (.bool mh) := (blk_cell BKm.out 3).trans rfl
  have hcm4 : w.cell? ⟨gm, 4, none⟩ = some (.bool md) := (blk_cell BKm.out 4).trans rfl
  have hfm0 := blk_frozen BKm.out 0
  have hfm1 := blk_frozen BKm.out 1
  have hfm2 := blk_frozen BKm.out 2
  have hfm3 := blk_frozen BKm.out 3
  have hfm4 := blk_frozen BKm.out 4
  have nb := NE.out
  have nc := NE.out.symm
  by_cases c1 : (s.size : Int) < lo
  · rw [if_pos c1] at hf
    cases hf
    have d1 : decide ((s.size : Int) < lo) = true := decide_eq_true c1
    refine Hand.wp_part 11 (by kernel_rfl) (fun K hK => ?_)
    conv => arg 2; whnf
    go_wp2
    refine bodyPost_ret (results_ctt rfl _ _ gp 24 #[.int .i64 0, .int .i64 0, .string (⟨#[]⟩ : ByteArray), .string (⟨#[]⟩ : ByteArray)] (0, 0) _ rfl (blk_put (blk_put (blk_put (blk_put BKp.out 0 _ rfl) 1 _ rfl) 2 _ rfl) 3 _ rfl) hu24 rfl (by kernel_rfl)) rfl ?_
    exact ⟨rfl, (below_set (below_set (below_set (below_set HB.out GE.out) GE.out) GE.out) GE.out)⟩
  · rw [if_neg c1] at hf
    have d1 : decide ((s.size : Int) < lo) = false := decide_eq_false c1
    by_cases c2 : 0 < s.size ∧ 8 ≤ e ∧ e ≤ (s.size : Int)
    · rw [if_pos c2] at hf
      obtain ⟨q0', q1, q2⟩ := c2
      have q0 : (0 < s.size) = True := eq_true (by omega)
      have qi0 : (0 < (s.size : Int)) = True := eq_true (by omega)
      have hx0 : ∀ h_ : 0 < s.size, ((s[0]'h_).toNat : Int) = bt s 0 := bt_at s 0
      clear c1
      by_cases c3 : 0 < n
      · have d3 : decide (0 < n) = true := decide_eq_true c3
        rw [if_pos c3] at hf
        by_cases c4 : 0 ≤ at' ∧ at' ≤ wrap64 (at' + n) ∧ wrap64 (at' + n) ≤ (s.size : Int)
        · rw [if_pos c4] at hf
          obtain ⟨q7, q8, q9⟩ := c4
          have HF := Aside0.mk hf
          clear hf
          refine Hand.wp_part 11 (by kernel_rfl) (fun K hK => ?_)
          conv => arg 2; whnf
          go_wp2
          refine Hand.wp_part 12 (by kernel_rfl) (fun K hK => ?_)
          conv => arg 2; whnf
          go_wp2
          go_region
          go_wp2
          refine Hand.wp_part 13 (by kernel_rfl) (fun K hK => ?_)
          conv => arg 2; whnf
          go_wp2
          refine Hand.at_world (fun w' => Aside0 (w'.heap[gp]? = some (.cells #[.int .i64 (wrap64 (bt s 0)), .int .i64 fl, .string (s.extract 8 e.toNat), .string (s.extract at'.toNat (wrap64 (at' + n)).toNat)] 24 (0, 0))) ∧ Aside0 (w'.heap[gm]? = some (.cells #[.int .i64 e, .int .i64 at', .int .i64 lo, .bool mh, .bool md] 54 (0, 0))) ∧ Aside0 (Below w0.heap.size w0 w')) ⟨⟨?_⟩, ⟨?_⟩, ⟨?_⟩⟩ ?_
          · apply Hand.blk_as
            · (repeat (first | (with_reducible apply blk_set) | (with_reducible refine blk_drewN ?_ _) | (with_reducible refine blk_drew ?_))); exact BKp.out
            · rfl
          · (with_reducible repeat (first | refine blk_far ?_ NE.out.symm _ | refine blk_drewN ?_ _ | refine blk_drew ?_)); exact BKm.out
          · (with_reducible repeat (first | refine below_set ?_ GE.out | apply pw_below_drewN | apply below_drew1)); exact HB.out
          clear BKp BKm HB
          rintro w2 ⟨BKp, BKm, HB⟩
          exact tpdu_Get.w14 k s h d u n fl e at' lo ub mh md r1 r2 r3 r4 r5 r6 _ _ _ _ _ _ _ _ _ _ _ _ _ _ _ _ _ _ _ _ _ _ _ _ _ _ _ _ _ _ _ _ _ _ _ _ _ _ _ _ _ _ _ _ _ _ _ _ _ _ _ _ _ _ _ _ _ _ _ _ _ _ _ _ _ _ _ _ _ _ _ _ _ _ _ _ _ _ _ _ _ _ _ _ _ _ _ _ _ _ _ _ _ _ _ _ _ _ _ _ _ _ _ _ _ _ _ _ _ _ _ _ _ _ _ _ _ _ _ _ _ _ _ _ _ _ _ _ _ _ _ _ _ _ _ _ _ _ _ _ _ _ _ _ gp gf ge gm w0 w2 HG BKp BKm NE GE HB HF.out
        · rw [if_neg c4] at hf
          cases hf
      · have d3 : decide (0 < n) = false := decide_eq_false c3
        rw [if_neg c3] at hf
        have HF := Aside0.mk hf
        clear hf
        refine Hand.wp_part 11 (by kernel_rfl) (fun K hK => ?_)
        conv => arg 2; whnf
        go_wp2
        refine Hand.wp_part 12 (by kernel_rfl) (fun K hK => ?_)
        conv => arg 2; whnf
        go_wp2
        go_region
        go_wp2
        refine Hand.wp_part 13 (by kernel_rfl) (fun K hK => ?_)
        conv => arg 2; whnf
        go_wp2
        refine Hand.at_world (fun w' => Aside0 (w'.heap[gp]? = some (.cells #[.int .i64 (wrap64 (bt s 0)), .int .i64 fl, .string (s.extract 8 e.toNat), .string (⟨#[]⟩ : ByteArray)] 24 (0, 0))) ∧ Aside0 (w'.heap[gm]? = some (.cells #[.int .i64 e, .int .i64 at', .int .i64 lo, .bool mh, .bool md] 54 (0, 0))) ∧ Aside0 (Below w0.heap.size w0 w')) ⟨⟨?_⟩, ⟨?_⟩, ⟨?_⟩⟩ ?_
        · apply Hand.blk_as
          · (repeat (first | (with_reducible apply blk_set) | (with_reducible refine blk_drewN ?_ _) | (with_reducible refine blk_drew ?_))); exact BKp.out
          · rfl
        · (with_reducible repeat (first | refine blk_far ?_ NE.out.symm _ | refine blk_drewN ?_ _ | refine blk_drew ?_)); exact BKm.out
        · (with_reducible repeat (first | refine below_set ?_ GE.out | apply pw_below_drewN | apply below_drew1)); exact HB.out
        clear BKp BKm HB
        rintro w2 ⟨BKp, BKm, HB⟩
        exact tpdu_Get.w14 k s h d u n fl e at' lo ub mh md r1 r2 r3 r4 r5 r6 _ _ _ _ _ _ _ _ _ _ _ _ _ _ _ _ _ _ _ _ _ _ _ _ _ _ _ _ _ _ _ _ _ _ _ _ _ _ _ _ _ _ _ _ _ _ _ _ _ _ _ _ _ _ _ _ _ _ _ _ _ _ _ _ _ _ _ _ _ _ _ _ _ _ _ _ _ _ _ _ _ _ _ _ _ _ _ _ _ _ _ _ _ _ _ _ _ _ _ _ _ _ _ _ _ _ _ _ _ _ _ _ _ _ _ _ _ _ _ _ _ _ _ _ _ _ _ _ _ _ _ _ _ _ _ _ _ _ _ _ _ _ _ _ gp gf ge gm w0 w2 HG BKp BKm NE GE HB HF.out
    · rw [if_neg c2] at hf
      cases hf
def tpdu_Get.T13 : Bool × List (List Nat × List Nat) := (true, [([], []), ([0], [0]), ([1], [1]), ([2], [2]), ([3, 2], [2, 3]), ([2], [2]), ([5, 2], [2, 5]), ([6, 2], [2, 6]), ([4, 7, 2], [2, 4, 7]), ([2, 8], [2, 8]), ([9, 2], [9]), ([10], [10]), ([10], [10]), ([12, 10], [10, 12]), ([11, 13, 10], [10, 11, 13]), ([10], [10]), ([10], [10]), ([16, 10], [10, 16]), ([10], [10]), ([18, 10], [10, 18]), ([19, 10], [10, 19]), ([15, 17, 20, 10], [10, 15, 17, 20]), ([14, 21, 10, 10], [10, 14, 21]), ([22, 10], [10, 22]), ([10, 23], [10, 23])])
def tpdu_Get.B13 : List Nat := [0, 1, 3, 7, 15, 7, 39, 103, 255, 511, 1023, 2047, 2047, 6143, 16383, 2047, 2047, 67583, 2047, 264191, 788479, 2066431, 4194303, 8388607, 16777215]
theorem tpdu_Get.tab13 : rtab .any (opsOf Tryd.f9 13) = tpdu_Get.T13 := by kernel_rfl
theorem tpdu_Get.bits13 : waitsOk tpdu_Get.T13.2 tpdu_Get.B13 = true := by kernel_rfl
def tpdu_Get.T11 : Bool × List (List Nat × List Nat) := (true, [([], []), ([0], [0]), ([1], [1]), ([2], [2]), ([3], [3]), ([4, 3], [3, 4]), ([3, 5], [3, 5]), ([6, 3], [6]), ([7], [7]), ([7], [7]), ([9, 7], [7, 9]), ([8, 10, 7], [7, 8, 10]), ([7, 11], [7, 11]), ([12, 7], [12]), ([13], [13]), ([14, 13], [13, 14]), ([13], [13]), ([16, 13], [13, 16]), ([15, 17, 13], [13, 15, 17]), ([13, 18], [13, 18]), ([19, 13], [19]), ([20], [20]), ([21, 20], [20, 21]), ([22, 20], [20, 22]), ([20], [20]), ([20], [20]), ([24, 25, 20, 20], [20, 24, 25]), ([23, 26, 20], [20, 23, 26]), ([20, 27], [20, 27]), ([28, 26], [28]), ([29], [29]), ([30, 29], [29, 30]), ([31, 29], [29, 31]), ([29], [29]), ([33, 29], [29, 33]), ([32, 34, 29], [29, 32, 34]), ([29, 35], [29, 35]), ([36, 29], [36]), ([37], [37]), ([38, 37], [37, 38]), ([39, 37], [37, 39]), ([37], [37]), ([41, 37], [37, 41]), ([40, 42, 37], [37, 40, 42]), ([37, 43], [37, 43])])
def tpdu_Get.B11 : List Nat := [0, 1, 3, 7, 15, 31, 63, 127, 255, 255, 767, 2047, 4095, 8191, 16383, 32767, 16383, 81919, 262143, 524287, 1048575, 2097151, 4194303, 8388607, 2097151, 2097151, 52428799, 134217727, 268435455, 536870911, 1073741823, 2147483647, 4294967295, 1073741823, 9663676415, 34359738367, 68719476735, 137438953471, 274877906943, 549755813887, 1099511627775, 274877906943, 2473901162495, 8796093022207, 17592186044415]
theorem tpdu_Get.tab11 : rtab .any (opsOf Tryd.f9 11) = tpdu_Get.T11 := by kernel_rfl
theorem tpdu_Get.bits11 : waitsOk tpdu_Get.T11.2 tpdu_Get.B11 = true := by kernel_rfl
set_option maxHeartbeats 4000000 in
set_option maxRecDepth 100000 in
theorem tpdu_Get.w10 (k : Nat) (s : ByteArray) (h d : Bool) (u n fl e at' lo : Int) (ub mh md : Bool) (r1 r2 : Int) (r3 r4 : ByteArray) (r5 r6 : Int) (c16 c17 c18 c19 c20 c21 c22 c23 c24 c25 c26 c27 c28 c29 c30 c31 c32 c33 c34 c35 c36 c37 c38 c39 c40 c41 c42 c43 c44 c45 c46 c47 c48 c49 c50 c51 c52 c53 c54 c55 c56 c57 c58 c59 c60 c61 c62 c63 c64 c65 c66 c67 c68 c69 c70 c71 c72 c73 c74 c75 c76 c77 c78 c79 c80 c81 c82 c83 c84 c85 c86 c87 c88 c89 c90 c91 c92 c93 c94 c95 c96 c97 c98 c99 c100 c101 c102 c103 : Value) (gp gf ge gm : Nat) (w0 w : World) (HG : Aside0 (Glob w0))
    (BKp : Aside0 (w.heap[gp]? = some (.cells #[.int .i64 0, .int .i64 0, .string (⟨#[]⟩ : ByteArray), .string (⟨#[]⟩ : ByteArray)] 24 (0, 0)))) (BKm : Aside0 (w.heap[gm]? = some (.cells #[.int .i64 e, .int .i64 at', .int .i64 lo, .bool mh, .bool md] 54 (0, 0)))) (NE : Aside0 (gp ≠ gm)) (GE : Aside0 (w0.heap.size ≤ gp)) (HB : Aside0 (Below w0.heap.size w0 w))
    (hf : tpdu_Get.t10 k s fl n e at' lo mh md = some (r1, r2, r3, r4, r5, r6)) :
    Code.wp Tryd.prog (Hand.dropSeq 10 ((Tryd.f9.body).getD .skip)) (bodyPost Tryd.prog Tryd.f9 fun e_ w' => e_ = .returned (.tuple #[.agg #[.int .i64 r1, .int .i64 r2, .string r3, .string r4], .int .i64 r5, .int .i64 r6]) ∧ Below w0.heap.size w0 w') ⟨#[.string s, .bool h, .bool d, undef, undef, undef, .pointer (some ⟨gp, 0, none⟩), .int .i64 0, .int .i64 0, .pointer (some ⟨gf, 0, none⟩), .int .u64 u, .bool ub, .pointer (some ⟨ge, 0, none⟩), .int .i64 n, .pointer (some ⟨gm, 0, none⟩), .int .i64 fl, c16, c17, c18, c19, c20, c21, c22, c23, c24, c25, c26, c27, c28, c29, c30, c31, c32, c33, c34, c35, c36, c37, c38, c39, c40, c41, c42, c43, c44, c45, c46, c47, c48, c49, c50, c51, c52, c53, c54, c55, c56, c57, c58, c59, c60, c61, c62, c63, c64, c65, c66, c67, c68, c69, c70, c71, c72, c73, c74, c75, c76, c77, c78, c79, c80, c81, c82, c83, c84, c85, c86, c87, c88, c89, c90, c91, c92, c93, c94, c95, c96, c97, c98, c99, c100, c101, c102, c103, undef, undef, undef, undef, undef, undef, undef, undef, undef, undef, undef, undef, undef, undef, undef, undef, undef, undef, undef, undef, undef, undef, undef, undef, undef, undef, undef, undef, undef, undef, undef, undef, undef, undef, undef, undef, undef, undef, undef, undef, undef, undef, undef, undef, undef, undef, undef, undef, undef, undef, undef, undef, undef, undef, undef, undef, undef, undef, undef, undef, undef, undef, undef, undef, undef, undef, undef, undef, undef, undef, undef, undef, undef, undef], []⟩ w := by
  have hu24 := Tryd.underlying24
  have hu54 := Tryd.underlying54
  unfold tpdu_Get.t10 at hf
  cases mh with
  | false =>
    rw [if_neg (by decide)] at hf
    have HF := Aside0.mk hf
    clear hf
    refine Hand.wp_part 10 (by kernel_rfl) (fun K hK => ?_)
    conv => arg 2; whnf
    go_wp2
    have n0_ := Aside0.mk (blk_drew BKp.out)
    have n1_ := Aside0.mk (blk_drew BKm.out)
    have nb_ := Aside0.mk (below_drew1 HB.out)
    clear HB BKp BKm
    have BKp := n0_
    have BKm := n1_
    have HB := nb_
    clear nb_ n0_ n1_
    refine start_ (n := 25) (S := fun w' => w'.cell? ⟨gm, 0, none⟩ = some (.int .i64 e) ∧ w'.cell? ⟨gm, 3, none⟩ = some (.bool false)) (ds := []) #[false, false, false, false, false, false, false, false, false, false, false, false, false, false, false, false, false, false, false, false, false, false, false, false, false] (by kernel_rfl) rfl rfl ⟨(blk_cell BKm.out 0).trans rfl, (blk_cell BKm.out 3).trans rfl⟩ (fun hHeld => ?_)
    generalize w.drew = w1 at HB hHeld BKp BKm ⊢
    refine with_tabW tpdu_Get.tab13 tpdu_Get.bits13 (fun HT_ HW_ => ?_)
    refine pon_ 0 (some 105) (dB 25 1) HT_.out ?_
    refine ptk_ 1 (some 106) (dB 25 3) HT_.out HW_.out hHeld ?_
    refine pon_ 2 (some 107) (dB 25 7) HT_.out ?_
    refine pof_ 3 (some 108) (dB 25 15) HT_.out ?_
    refine pof_ 4 (some 109) (dB 25 31) HT_.out ?_
    refine pof_ 5 (some 110) (dB 25 63) HT_.out ?_
    refine pof_ 6 (some 111) (dB 25 127) HT_.out ?_
    refine pof_ 7 (some 112) (dB 25 255) HT_.out ?_
    refine pof_ 8 (some 113) (dB 25 511) HT_.out ?_
    refine pon_ 9 (some 114) (dB 25 1023) HT_.out ?_
    refine pon_ 10 (some 115) (dB 25 2047) HT_.out ?_
    refine pof_ 11 (some 116) (dB 25 4095) HT_.out ?_
    refine pof_ 12 (some 117) (dB 25 8191) HT_.out ?_
    refine pof_ 13 (some 118) (dB 25 16383) HT_.out ?_
    refine pof_ 14 (some 119) (dB 25 32767) HT_.out ?_
    refine pof_ 15 (some 120) (dB 25 65535) HT_.out ?_
    refine pof_ 16 (some 121) (dB 25 131071) HT_.out ?_
    refine pof_ 17 (some 122) (dB 25 262143) HT_.out ?_
    refine pof_ 18 (some 123) (dB 25 524287) HT_.out ?_
    refine pof_ 19 (some 124) (dB 25 1048575) HT_.out ?_
    refine pof_ 20 (some 125) (dB 25 2097151) HT_.out ?_
    refine pof_ 21 (some 126) (dB 25 4194303) HT_.out ?_
    refine pof_ 22 (some 127) (dB 25 8388607) HT_.out ?_
    refine pof_ 23 (some 128) (dB 25 16777215) HT_.out ?_
    refine pon_ 24 (some 129) (dB 25 33554431) HT_.out ?_
    refine done_ (done_of HT_.out (by kernel_rfl)) ?_
    go_wp2
    exact tpdu_Get.w11 k s h d u n fl e at' lo ub _ md r1 r2 r3 r4 r5 r6 _ _ _ _ _ _ _ _ _ _ _ _ _ _ _ _ _ _ _ _ _ _ _ _ _ _ _ _ _ _ _ _ _ _ _ _ _ _ _ _ _ _ _ _ _ _ _ _ _ _ _ _ _ _ _ _ _ _ _ _ _ _ _ _ _ _ _ _ _ _ _ _ _ _ _ _ _ _ _ _ _ _ _ _ _ _ _ _ _ _ _ _ _ _ _ _ _ _ _ _ _ _ _ _ _ _ _ _ _ _ _ _ _ _ gp gf ge gm w0 w1 HG BKp BKm NE GE HB HF.out
  | true =>
    rw [if_pos rfl] at hf
    obtain ⟨j, hj⟩ : ∃ j, wrap64 (e + 4) = j := ⟨_, rfl⟩
    rw [hj] at hf
    have hjw : IntKind.i64.wrap (e + 4) = j := (i64_w _).trans hj
    by_cases c1 : j ≤ (s.size : Int)
    · rw [if_pos c1] at hf
      have c1b := decide_eq_true c1
      by_cases c2 : 0 ≤ e ∧ e ≤ (s.size : Int) ∧ e ≤ j
      · rw [if_pos c2] at hf
        obtain ⟨q1, q2, q3⟩ := c2
        replace hf := Option.bind_eq_some_iff.mp hf
        obtain ⟨b, hR, hf⟩ := hf
        have HR := Aside0.mk hR
        have HF := Aside0.mk hf
        clear hR hf
        have q1b := decide_eq_true q1
        have q2b := decide_eq_true q2
        have q3b := decide_eq_true q3
        have q1t := eq_true q1
        have q2t := eq_true q2
        have q3t := eq_true q3
        have q4t := eq_true c1
        refine Hand.wp_part 10 (by kernel_rfl) (fun K hK => ?_)
        conv => arg 2; whnf
        go_wp2
        have n0_ := Aside0.mk (blk_drew BKp.out)
        have n1_ := Aside0.mk (blk_drew BKm.out)
        have nb_ := Aside0.mk (below_drew1 HB.out)
        clear HB BKp BKm
        have BKp := n0_
        have BKm := n1_
        have HB := nb_
        clear nb_ n0_ n1_
        refine start_ (n := 25) (S := fun w' => w'.cell? ⟨gm, 0, none⟩ = some (.int .i64 e) ∧ w'.cell? ⟨gm, 3, none⟩ = some (.bool true)) (ds := []) #[false, false, false, false, false, false, false, false, false, false, false, false, false, false, false, false, false, false, false, false, false, false, false, false, false] (by kernel_rfl) rfl rfl ⟨(blk_cell BKm.out 0).trans rfl, (blk_cell BKm.out 3).trans rfl⟩ (fun hHeld => ?_)
        generalize w.drew = w1 at HB hHeld BKp BKm ⊢
        refine with_tabW tpdu_Get.tab13 tpdu_Get.bits13 (fun HT_ HW_ => ?_)
        refine pon_ 0 (some 105) (dB 25 1) HT_.out ?_
        refine ptk_ 1 (some 106) (dB 25 3) HT_.out HW_.out hHeld ?_
        refine pon_ 2 (some 107) (dB 25 7) HT_.out ?_
        refine pon_ 3 (some 108) (dB 25 15) HT_.out ?_
        refine pon_ 4 (some 109) (dB 25 31) HT_.out ?_
        refine pon_ 5 (some 110) (dB 25 63) HT_.out ?_
        refine ptk_ 6 (some 111) (dB 25 127) HT_.out HW_.out hHeld ?_
        refine pon_ 7 (some 112) (dB 25 255) HT_.out ?_
        refine pon_ 8 (some 113) (dB 25 511) HT_.out ?_
        refine pon_ 9 (some 114) (dB 25 1023) HT_.out ?_
        refine pon_ 10 (some 115) (dB 25 2047) HT_.out ?_
        refine pon_ 11 (some 116) (dB 25 4095) HT_.out ?_
        refine pon_ 12 (some 117) (dB 25 8191) HT_.out ?_
        refine pon_ 15 (some 120) (dB 25 40959) HT_.out ?_
        refine pon_ 16 (some 121) (dB 25 106495) HT_.out ?_
        refine pon_ 18 (some 123) (dB 25 368639) HT_.out ?_
        refine ptk_ 13 (some 118) (dB 25 376831) HT_.out HW_.out hHeld ?_
        refine pon_ 14 (some 119) (dB 25 393215) HT_.out ?_
        refine ptk_ 17 (some 122) (dB 25 524287) HT_.out HW_.out hHeld ?_
        refine ptk_ 19 (some 124) (dB 25 1048575) HT_.out HW_.out hHeld ?_
        refine pon_ 20 (some 125) (dB 25 2097151) HT_.out ?_
        refine pon_ 21 (some 126) (dB 25 4194303) HT_.out ?_
        refine one_ (i := 22) (N := some 127) (dB 25 8388607) rfl rfl (one_of HT_.out (by kernel_rfl)) (by decide) (fun K hK => ?_)
        refine goes_ Tryd.func21 (by kernel_rfl) rfl #[.string (s.extract 0 e.toNat), .string (s.extract e.toNat j.toNat)] (by rfl) rfl rfl (by simp only [List.map_toArray, List.map_cons, List.map_nil]; rfl) ?_
        with_reducible refine (crc_Right.calls k (s.extract 0 e.toNat) (s.extract e.toNat j.toNat) b _ (Glob.keep HG.out HB.out) HR.out).mono ?_
        rintro e_ w2 ⟨rfl, hb⟩
        have n0_ := Aside0.mk (blk_below BKp.out hb)
        have n1_ := Aside0.mk (blk_below BKm.out hb)
        have nb_ := Aside0.mk (below_step HB.out hb)
        clear HB hb BKp BKm
        have BKp := n0_
        have BKm := n1_
        have HB := nb_
        clear nb_ n0_ n1_
        refine ⟨_, rfl, ?_⟩
        refine hK.out _ _ ⟨(blk_cell BKm.out 0).trans rfl, (blk_cell BKm.out 3).trans rfl⟩ (fun hHeld => ?_)
        clear hK K
        refine norm_ (a' := ?_) ?_ ?_
        rotate_left
        ·show Act.put _ (some 127) _ = _
         simp only [Act.put, la_, lb_, lc_, i64_w, i32_w]
         rfl
        refine pon_ 23 (some 128) (dB 25 16777215) HT_.out ?_
        refine pon_ 24 (some 129) (dB 25 33554431) HT_.out ?_
        refine done_ (done_of HT_.out (by kernel_rfl)) ?_
        cases b
        · have hf := HF.out
          rw [if_neg (by decide)] at hf
          cases hf
          have hcp0 : w2.cell? ⟨gp, 0, none⟩ = some (.int .i64 0) := (blk_cell BKp.out 0).trans rfl
          have hcp1 : w2.cell? ⟨gp, 1, none⟩ = some (.int .i64 0) := (blk_cell BKp.out 1).trans rfl
          have hcp2 : w2.cell? ⟨gp, 2, none⟩ = some (.string (⟨#[]⟩ : ByteArray)) := (blk_cell BKp.out 2).trans rfl
          have hcp3 : w2.cell? ⟨gp, 3, none⟩ = some (.string (⟨#[]⟩ : ByteArray)) := (blk_cell BKp.out 3).trans rfl
          have hfp0 := blk_frozen BKp.out 0
          have hfp1 := blk_frozen BKp.out 1
          have hfp2 := blk_frozen BKp.out 2
          have hfp3 := blk_frozen BKp.out 3
          go_wp2
          refine bodyPost_ret (results_ctt rfl _ _ gp 24 #[.int .i64 0, .int .i64 0, .string (⟨#[]⟩ : ByteArray), .string (⟨#[]⟩ : ByteArray)] (0, 0) _ rfl (blk_put (blk_put (blk_put (blk_put BKp.out 0 _ rfl) 1 _ rfl) 2 _ rfl) 3 _ rfl) hu24 rfl (by kernel_rfl)) rfl ?_
          exact ⟨rfl, (below_set (below_set (below_set (below_set HB.out GE.out) GE.out) GE.out) GE.out)⟩
        · have hf := HF.out
          rw [if_pos rfl] at hf
          clear HF
          have HF := Aside0.mk hf
          clear hf
          go_wp2
          exact tpdu_Get.w11 k s h d u n fl e at' lo ub _ md r1 r2 r3 r4 r5 r6 _ _ _ _ _ _ _ _ _ _ _ _ _ _ _ _ _ _ _ _ _ _ _ _ _ _ _ _ _ _ _ _ _ _ _ _ _ _ _ _ _ _ _ _ _ _ _ _ _ _ _ _ _ _ _ _ _ _ _ _ _ _ _ _ _ _ _ _ _ _ _ _ _ _ _ _ _ _ _ _ _ _ _ _ _ _ _ _ _ _ _ _ _ _ _ _ _ _ _ _ _ _ _ _ _ _ _ _ _ _ _ _ _ _ gp gf ge gm w0 w2 HG BKp BKm NE GE HB HF.out
      · rw [if_neg c2] at hf
        cases hf
    · rw [if_neg c1] at hf
      have c1b := decide_eq_false c1
      have HF := Aside0.mk hf
      clear hf
      refine Hand.wp_part 10 (by kernel_rfl) (fun K hK => ?_)
      conv => arg 2; whnf
      go_wp2
      have n0_ := Aside0.mk (blk_drew BKp.out)
      have n1_ := Aside0.mk (blk_drew BKm.out)
      have nb_ := Aside0.mk (below_drew1 HB.out)
      clear HB BKp BKm
      have BKp := n0_
      have BKm := n1_
      have HB := nb_
      clear nb_ n0_ n1_
      refine start_ (n := 25) (S := fun w' => w'.cell? ⟨gm, 0, none⟩ = some (.int .i64 e) ∧ w'.cell? ⟨gm, 3, none⟩ = some (.bool true)) (ds := []) #[false, false, false, false, false, false, false, false, false, false, false, false, false, false, false, false, false, false, false, false, false, false, false, false, false] (by kernel_rfl) rfl rfl ⟨(blk_cell BKm.out 0).trans rfl, (blk_cell BKm.out 3).trans rfl⟩ (fun hHeld => ?_)
      generalize w.drew = w1 at HB hHeld BKp BKm ⊢
      refine with_tabW tpdu_Get.tab13 tpdu_Get.bits13 (fun HT_ HW_ => ?_)
      refine pon_ 0 (some 105) (dB 25 1) HT_.out ?_
      refine ptk_ 1 (some 106) (dB 25 3) HT_.out HW_.out hHeld ?_
      refine pon_ 2 (some 107) (dB 25 7) HT_.out ?_
      refine pon_ 3 (some 108) (dB 25 15) HT_.out ?_
      refine pon_ 4 (some 109) (dB 25 31) HT_.out ?_
      refine pon_ 5 (some 110) (dB 25 63) HT_.out ?_
      refine ptk_ 6 (some 111) (dB 25 127) HT_.out HW_.out hHeld ?_
      refine pon_ 7 (some 112) (dB 25 255) HT_.out ?_
      refine pon_ 8 (some 113) (dB 25 511) HT_.out ?_
      refine pon_ 9 (some 114) (dB 25 1023) HT_.out ?_
      refine pon_ 10 (some 115) (dB 25 2047) HT_.out ?_
      refine pof_ 11 (some 116) (dB 25 4095) HT_.out ?_
      refine pof_ 12 (some 117) (dB 25 8191) HT_.out ?_
      refine pof_ 13 (some 118) (dB 25 16383) HT_.out ?_
      refine pof_ 14 (some 119) (dB 25 32767) HT_.out ?_
      refine pof_ 15 (some 120) (dB 25 65535) HT_.out ?_
      refine pof_ 16 (some 121) (dB 25 131071) HT_.out ?_
      refine pof_ 17 (some 122) (dB 25 262143) HT_.out ?_
      refine pof_ 18 (some 123) (dB 25 524287) HT_.out ?_
      refine pof_ 19 (some 124) (dB 25 1048575) HT_.out ?_
      refine pof_ 20 (some 125) (dB 25 2097151) HT_.out ?_
      refine pof_ 21 (some 126) (dB 25 4194303) HT_.out ?_
      refine pof_ 22 (some 127) (dB 25 8388607) HT_.out ?_
      refine pof_ 23 (some 128) (dB 25 16777215) HT_.out ?_
      refine pon_ 24 (some 129) (dB 25 33554431) HT_.out ?_
      refine done_ (done_of HT_.out (by kernel_rfl)) ?_
      go_wp2
      exact tpdu_Get.w11 k s h d u n fl e at' lo ub _ md r1 r2 r3 r4 r5 r6 _ _ _ _ _ _ _ _ _ _ _ _ _ _ _ _ _ _ _ _ _ _ _ _ _ _ _ _ _ _ _ _ _ _ _ _ _ _ _ _ _ _ _ _ _ _ _ _ _ _ _ _ _ _ _ _ _ _ _ _ _ _ _ _ _ _ _ _ _ _ _ _ _ _ _ _ _ _ _ _ _ _ _ _ _ _ _ _ _ _ _ _ _ _ _ _ _ _ _ _ _ _ _ _ _ _ _ _ _ _ _ _ _ _ gp gf ge gm w0 w1 HG BKp BKm NE GE HB HF.out
set_option maxHeartbeats 4000000 in
set_option maxRecDepth 100000 in
theorem tpdu_Get.w9 (k : Nat) (s : ByteArray) (h d : Bool) (u n fl z x e at' lo : Int) (ub b mh md : Bool) (r1 r2 : Int) (r3 r4 : ByteArray) (r5 r6 : Int) (c16 c17 c18 c19 c20 c21 c22 c23 c24 c25 c26 c27 c28 c29 c30 c31 c32 c33 c34 c35 c36 c37 c38 c39 c40 c41 c42 c43 c44 c45 c46 c47 c48 c49 c50 c51 c52 c53 c54 c55 c56 c57 c58 : Value) (gp gf ge gm : Nat) (w0 w : World) (HG : Aside0 (Glob w0))
    (BKp : Aside0 (w.heap[gp]? = some (.cells #[.int .i64 0, .int .i64 0, .string (⟨#[]⟩ : ByteArray), .string (⟨#[]⟩ : ByteArray)] 24 (0, 0)))) (BKf : Aside0 (w.heap[gf]? = some (.cells #[.int .i64 z, .int .i64 x, .bool b] 48 (0, 0)))) (BKm : Aside0 (w.heap[gm]? = some (.cells #[.int .i64 e, .int .i64 at', .int .i64 lo, .bool mh, .bool md] 54 (0, 0)))) (NE : Aside0 (gp ≠ gm)) (GE : Aside0 (w0.heap.size ≤ gp)) (HB : Aside0 (Below w0.heap.size w0 w))
    (hf : tpdu_Get.t9 k s u n fl z x e at' lo mh md = some (r1, r2, r3, r4, r5, r6)) :
    Code.wp Tryd.prog (Hand.dropSeq 9 ((Tryd.f9.body).getD .skip)) (bodyPost Tryd.prog Tryd.f9 fun e_ w' => e_ = .returned (.tuple #[.agg #[.int .i64 r1, .int .i64 r2, .string r3, .string r4], .int .i64 r5, .int .i64 r6]) ∧ Below w0.heap.size w0 w') ⟨#[.string s, .bool h, .bool d, undef, undef, undef, .pointer (some ⟨gp, 0, none⟩), .int .i64 0, .int .i64 0, .pointer (some ⟨gf, 0, none⟩), .int .u64 u, .bool ub, .pointer (some ⟨ge, 0, none⟩), .int .i64 n, .pointer (some ⟨gm, 0, none⟩), .int .i64 fl, c16, c17, c18, c19, c20, c21, c22, c23, c24, c25, c26, c27, c28, c29, c30, c31, c32, c33, c34, c35, c36, c37, c38, c39, c40, c41, c42, c43, c44, c45, c46, c47, c48, c49, c50, c51, c52, c53, c54, c55, c56, c57, c58, undef, undef, undef, undef, undef, undef, undef, undef, undef, undef, undef, undef, undef, undef, undef, undef, undef, undef, undef, undef, undef, undef, undef, undef, undef, undef, undef, undef, undef, undef, undef, undef, undef, undef, undef, undef, undef, undef, undef, undef, undef, undef, undef, undef, undef, undef, undef, undef, undef, undef, undef, undef, undef, undef, undef, undef, undef, undef, undef, undef, undef, undef, undef, undef, undef, undef, undef, undef, undef, undef, undef, undef, undef, undef, undef, undef, undef, undef, undef, undef, undef, undef, undef, undef, undef, undef, undef, undef, undef, undef, undef, undef, undef, undef, undef, undef, undef, undef, undef, undef, undef, undef, undef, undef, undef, undef, undef, undef, undef, undef, undef, undef, undef, undef, undef, undef, undef, undef, undef], []⟩ w := by
  have hu24 := Tryd.underlying24
  have hu54 := Tryd.underlying54
  have hu48 := Tryd.underlying48
  unfold tpdu_Get.t9 at hf
  by_cases c0 : z = 0
  · rw [if_pos c0] at hf
    have c0b : (z == 0) = true := beq_iff_eq.mpr c0
    cases hf
    refine Hand.wp_part 9 (by kernel_rfl) (fun K hK => ?_)
    conv => arg 2; whnf
    go_wp2
    have n0_ := Aside0.mk (blk_drew BKp.out)
    have n1_ := Aside0.mk (blk_drew BKf.out)
    have n2_ := Aside0.mk (blk_drew BKm.out)
    have nb_ := Aside0.mk (below_drew1 HB.out)
    clear HB BKp BKf BKm
    have BKp := n0_
    have BKf := n1_
    have BKm := n2_
    have HB := nb_
    clear nb_ n0_ n1_ n2_
    refine start_ (n := 45) (S := fun w' => w'.cell? ⟨gf, 0, none⟩ = some (.int .i64 z) ∧ w'.cell? ⟨gf, 1, none⟩ = some (.int .i64 x) ∧ w'.cell? ⟨gm, 0, none⟩ = some (.int .i64 e) ∧ w'.cell? ⟨gm, 1, none⟩ = some (.int .i64 at') ∧ w'.cell? ⟨gm, 2, none⟩ = some (.int .i64 lo) ∧ w'.cell? ⟨gm, 3, none⟩ = some (.bool mh) ∧ w'.cell? ⟨gm, 4, none⟩ = some (.bool md)) (ds := []) #[false, false, false, false, false, false, false, false, false, false, false, false, false, false, false, false, false, false, false, false, false, false, false, false, false, false, false, false, false, false, false, false, false, false, false, false, false, false, false, false, false, false, false, false, false] (by kernel_rfl) rfl rfl ⟨(blk_cell BKf.out 0).trans rfl, (blk_cell BKf.out 1).trans rfl, (blk_cell BKm.out 0).trans rfl, (blk_cell BKm.out 1).trans rfl, (blk_cell BKm.out 2).trans rfl, (blk_cell BKm.out 3).trans rfl, (blk_cell BKm.out 4).trans rfl⟩ (fun hHeld => ?_)
    generalize w.drew = w1 at HB hHeld BKp BKf BKm ⊢
    refine with_tabW tpdu_Get.tab11 tpdu_Get.bits11 (fun HT_ HW_ => ?_)
    refine pon_ 0 (some 59) (dB 45 1) HT_.out ?_
    refine ptk_ 1 (some 60) (dB 45 3) HT_.out HW_.out hHeld ?_
    refine pon_ 2 (some 61) (dB 45 7) HT_.out ?_
    refine pon_ 3 (some 62) (dB 45 15) HT_.out ?_
    refine pof_ 4 (some 63) (dB 45 31) HT_.out ?_
    refine pof_ 5 (some 64) (dB 45 63) HT_.out ?_
    refine pon_ 6 (some 65) (dB 45 127) HT_.out ?_
    refine pon_ 7 (some 66) (dB 45 255) HT_.out ?_
    refine pof_ 8 (some 67) (dB 45 511) HT_.out ?_
    refine pof_ 9 (some 68) (dB 45 1023) HT_.out ?_
    refine pof_ 10 (some 69) (dB 45 2047) HT_.out ?_
    refine pof_ 11 (some 70) (dB 45 4095) HT_.out ?_
    refine pon_ 12 (some 71) (dB 45 8191) HT_.out ?_
    refine pon_ 13 (some 72) (dB 45 16383) HT_.out ?_
    refine pof_ 14 (some 73) (dB 45 32767) HT_.out ?_
    refine pof_ 15 (some 74) (dB 45 65535) HT_.out ?_
    refine pof_ 16 (some 75) (dB 45 131071) HT_.out ?_
    refine pof_ 17 (some 76) (dB 45 262143) HT_.out ?_
    refine pof_ 18 (some 77) (dB 45 524287) HT_.out ?_
    refine pon_ 19 (some 78) (dB 45 1048575) HT_.out ?_
    refine pon_ 20 (some 79) (dB 45 2097151) HT_.out ?_
    refine pof_ 21 (some 80) (dB 45 4194303) HT_.out ?_
    refine pof_ 22 (some 81) (dB 45 8388607) HT_.out ?_
    refine pof_ 23 (some 82) (dB 45 16777215) HT_.out ?_
    refine pof_ 24 (some 83) (dB 45 33554431) HT_.out ?_
    refine pof_ 25 (some 84) (dB 45 67108863) HT_.out ?_
    refine pof_ 26 (some 85) (dB 45 134217727) HT_.out ?_
    refine pof_ 27 (some 86) (dB 45 268435455) HT_.out ?_
    refine pon_ 28 (some 87) (dB 45 536870911) HT_.out ?_
    refine pon_ 29 (some 88) (dB 45 1073741823) HT_.out ?_
    refine pof_ 30 (some 89) (dB 45 2147483647) HT_.out ?_
    refine pof_ 31 (some 90) (dB 45 4294967295) HT_.out ?_
    refine pof_ 32 (some 91) (dB 45 8589934591) HT_.out ?_
    refine pof_ 33 (some 92) (dB 45 17179869183) HT_.out ?_
    refine pof_ 34 (some 93) (dB 45 34359738367) HT_.out ?_
    refine pof_ 35 (some 94) (dB 45 68719476735) HT_.out ?_
    refine pon_ 36 (some 95) (dB 45 137438953471) HT_.out ?_
    refine pon_ 37 (some 96) (dB 45 274877906943) HT_.out ?_
    refine pof_ 38 (some 97) (dB 45 549755813887) HT_.out ?_
    refine pof_ 39 (some 98) (dB 45 1099511627775) HT_.out ?_
    refine pof_ 40 (some 99) (dB 45 2199023255551) HT_.out ?_
    refine pof_ 41 (some 100) (dB 45 4398046511103) HT_.out ?_
    refine pof_ 42 (some 101) (dB 45 8796093022207) HT_.out ?_
    refine pof_ 43 (some 102) (dB 45 17592186044415) HT_.out ?_
    refine pon_ 44 (some 103) (dB 45 35184372088831) HT_.out ?_
    refine done_ (done_of HT_.out (by kernel_rfl)) ?_
    have hcp0 : w1.cell? ⟨gp, 0, none⟩ = some (.int .i64 0) := (blk_cell BKp.out 0).trans rfl
    have hcp1 : w1.cell? ⟨gp, 1, none⟩ = some (.int .i64 0) := (blk_cell BKp.out 1).trans rfl
    have hcp2 : w1.cell? ⟨gp, 2, none⟩ = some (.string (⟨#[]⟩ : ByteArray)) := (blk_cell BKp.out 2).trans rfl
    have hcp3 : w1.cell? ⟨gp, 3, none⟩ = some (.string (⟨#[]⟩ : ByteArray)) := (blk_cell BKp.out 3).trans rfl
    have hfp0 := blk_frozen BKp.out 0
    have hfp1 := blk_frozen BKp.out 1
    have hfp2 := blk_frozen BKp.out 2
    have hfp3 := blk_frozen BKp.out 3
    go_wp2
    refine bodyPost_ret (results_ctt rfl _ _ gp 24 #[.int .i64 0, .int .i64 0, .string (⟨#[]⟩ : ByteArray), .string (⟨#[]⟩ : ByteArray)] (0, 0) _ rfl (blk_put (blk_put (blk_put (blk_put BKp.out 0 _ rfl) 1 _ rfl) 2 _ rfl) 3 _ rfl) hu24 rfl (by kernel_rfl)) rfl ?_
    exact ⟨rfl, (below_set (below_set (below_set (below_set HB.out GE.out) GE.out) GE.out) GE.out)⟩
  · rw [if_neg c0] at hf
    have c0b : (z == 0) = false := beq_eq_false_iff_ne.mpr c0
    by_cases c1 : n < 0
    · rw [if_pos c1] at hf
      have c1b := decide_eq_true c1
      cases hf
      refine Hand.wp_part 9 (by kernel_rfl) (fun K hK => ?_)
      conv => arg 2; whnf
      go_wp2
      have n0_ := Aside0.mk (blk_drew BKp.out)
      have n1_ := Aside0.mk (blk_drew BKf.out)
      have n2_ := Aside0.mk (blk_drew BKm.out)
      have nb_ := Aside0.mk (below_drew1 HB.out)
      clear HB BKp BKf BKm
      have BKp := n0_
      have BKf := n1_
      have BKm := n2_
      have HB := nb_
      clear nb_ n0_ n1_ n2_
      refine start_ (n := 45) (S := fun w' => w'.cell? ⟨gf, 0, none⟩ = some (.int .i64 z) ∧ w'.cell? ⟨gf, 1, none⟩ = some (.int .i64 x) ∧ w'.cell? ⟨gm, 0, none⟩ = some (.int .i64 e) ∧ w'.cell? ⟨gm, 1, none⟩ = some (.int .i64 at') ∧ w'.cell? ⟨gm, 2, none⟩ = some (.int .i64 lo) ∧ w'.cell? ⟨gm, 3, none⟩ = some (.bool mh) ∧ w'.cell? ⟨gm, 4, none⟩ = some (.bool md)) (ds := []) #[false, false, false, false, false, false, false, false, false, false, false, false, false, false, false, false, false, false, false, false, false, false, false, false, false, false, false, false, false, false, false, false, false, false, false, false, false, false, false, false, false, false, false, false, false] (by kernel_rfl) rfl rfl ⟨(blk_cell BKf.out 0).trans rfl, (blk_cell BKf.out 1).trans rfl, (blk_cell BKm.out 0).trans rfl, (blk_cell BKm.out 1).trans rfl, (blk_cell BKm.out 2).trans rfl, (blk_cell BKm.out 3).trans rfl, (blk_cell BKm.out 4).trans rfl⟩ (fun hHeld => ?_)
      generalize w.drew = w1 at HB hHeld BKp BKf BKm ⊢
      refine with_tabW tpdu_Get.tab11 tpdu_Get.bits11 (fun HT_ HW_ => ?_)
      refine pon_ 0 (some 59) (dB 45 1) HT_.out ?_
      refine ptk_ 1 (some 60) (dB 45 3) HT_.out HW_.out hHeld ?_
      refine pon_ 2 (some 61) (dB 45 7) HT_.out ?_
      refine pon_ 3 (some 62) (dB 45 15) HT_.out ?_
      refine pon_ 4 (some 63) (dB 45 31) HT_.out ?_
      refine pon_ 5 (some 64) (dB 45 63) HT_.out ?_
      refine pon_ 6 (some 65) (dB 45 127) HT_.out ?_
      refine pon_ 7 (some 66) (dB 45 255) HT_.out ?_
      refine pof_ 8 (some 67) (dB 45 511) HT_.out ?_
      refine pof_ 9 (some 68) (dB 45 1023) HT_.out ?_
      refine pof_ 10 (some 69) (dB 45 2047) HT_.out ?_
      refine pof_ 11 (some 70) (dB 45 4095) HT_.out ?_
      refine pon_ 12 (some 71) (dB 45 8191) HT_.out ?_
      refine pon_ 13 (some 72) (dB 45 16383) HT_.out ?_
      refine pof_ 14 (some 73) (dB 45 32767) HT_.out ?_
      refine pof_ 15 (some 74) (dB 45 65535) HT_.out ?_
      refine pof_ 16 (some 75) (dB 45 131071) HT_.out ?_
      refine pof_ 17 (some 76) (dB 45 262143) HT_.out ?_
      refine pof_ 18 (some 77) (dB 45 524287) HT_.out ?_
      refine pon_ 19 (some 78) (dB 45 1048575) HT_.out ?_
      refine pon_ 20 (some 79) (dB 45 2097151) HT_.out ?_
      refine pof_ 21 (some 80) (dB 45 4194303) HT_.out ?_
      refine pof_ 22 (some 81) (dB 45 8388607) HT_.out ?_
      refine pof_ 23 (some 82) (dB 45 16777215) HT_.out ?_
      refine pof_ 24 (some 83) (dB 45 33554431) HT_.out ?_
      refine pof_ 25 (some 84) (dB 45 67108863) HT_.out ?_
      refine pof_ 26 (some 85) (dB 45 134217727) HT_.out ?_
      refine pof_ 27 (some 86) (dB 45 268435455) HT_.out ?_
      refine pon_ 28 (some 87) (dB 45 536870911) HT_.out ?_
      refine pon_ 29 (some 88) (dB 45 1073741823) HT_.out ?_
      refine pof_ 30 (some 89) (dB 45 2147483647) HT_.out ?_
      refine pof_ 31 (some 90) (dB 45 4294967295) HT_.out ?_
      refine pof_ 32 (some 91) (dB 45 8589934591) HT_.out ?_
      refine pof_ 33 (some 92) (dB 45 17179869183) HT_.out ?_
      refine pof_ 34 (some 93) (dB 45 34359738367) HT_.out ?_
      refine pof_ 35 (some 94) (dB 45 68719476735) HT_.out ?_
      refine pon_ 36 (some 95) (dB 45 137438953471) HT_.out ?_
      refine pon_ 37 (some 96) (dB 45 274877906943) HT_.out ?_
      refine pof_ 38 (some 97) (dB 45 549755813887) HT_.out ?_
      refine pof_ 39 (some 98) (dB 45 1099511627775) HT_.out ?_
      refine pof_ 40 (some 99) (dB 45 2199023255551) HT_.out ?_
      refine pof_ 41 (some 100) (dB 45 4398046511103) HT_.out ?_
      refine pof_ 42 (some 101) (dB 45 8796093022207) HT_.out ?_
      refine pof_ 43 (some 102) (dB 45 17592186044415) HT_.out ?_
      refine pon_ 44 (some 103) (dB 45 35184372088831) HT_.out ?_
      refine done_ (done_of HT_.out (by kernel_rfl)) ?_
      have hcp0 : w1.cell? ⟨gp, 0, none⟩ = some (.int .i64 0) := (blk_cell BKp.out 0).trans rfl
      have hcp1 : w1.cell? ⟨gp, 1, none⟩ = some (.int .i64 0) := (blk_cell BKp.out 1).trans rfl
      have hcp2 : w1.cell? ⟨gp, 2, none⟩ = some (.string (⟨#[]⟩ : ByteArray)) := (blk_cell BKp.out 2).trans rfl
      have hcp3 : w1.cell? ⟨gp, 3, none⟩ = some (.string (⟨#[]⟩ : ByteArray)) := (blk_cell BKp.out 3).trans rfl
      have hfp0 := blk_frozen BKp.out 0
      have hfp1 := blk_frozen BKp.out 1
      have hfp2 := blk_frozen BKp.out 2
      have hfp3 := blk_frozen BKp.out 3
      go_wp2
      refine bodyPost_ret (results_ctt rfl _ _ gp 24 #[.int .i64 0, .int .i64 0, .string (⟨#[]⟩ : ByteArray), .string (⟨#[]⟩ : ByteArray)] (0, 0) _ rfl (blk_put (blk_put (blk_put (blk_put BKp.out 0 _ rfl) 1 _ rfl) 2 _ rfl) 3 _ rfl) hu24 rfl (by kernel_rfl)) rfl ?_
      exact ⟨rfl, (below_set (below_set (below_set (below_set HB.out GE.out) GE.out) GE.out) GE.out)⟩
    · rw [if_neg c1] at hf
      have c1b := decide_eq_false c1
      by_cases c2 : x < n
      · rw [if_pos c2] at hf
        have c2b := decide_eq_true c2
        cases hf
        refine Hand.wp_part 9 (by kernel_rfl) (fun K hK => ?_)
        conv => arg 2; whnf
        go_wp2
        have n0_ := Aside0.mk (blk_drew BKp.out)
        have n1_ := Aside0.mk (blk_drew BKf.out)
        have n2_ := Aside0.mk (blk_drew BKm.out)
        have nb_ := Aside0.mk (below_drew1 HB.out)
        clear HB BKp BKf BKm
        have BKp := n0_
        have BKf := n1_
        have BKm := n2_
        have HB := nb_
        clear nb_ n0_ n1_ n2_
        refine start_ (n := 45) (S := fun w' => w'.cell? ⟨gf, 0, none⟩ = some (.int .i64 z) ∧ w'.cell? ⟨gf, 1, none⟩ = some (.int .i64 x) ∧ w'.cell? ⟨gm, 0, none⟩ = some (.int .i64 e) ∧ w'.cell? ⟨gm, 1, none⟩ = some (.int .i64 at') ∧ w'.cell? ⟨gm, 2, none⟩ = some (.int .i64 lo) ∧ w'.cell? ⟨gm, 3, none⟩ = some (.bool mh) ∧ w'.cell? ⟨gm, 4, none⟩ = some (.bool md)) (ds := []) #[false, false, false, false, false, false, false, false, false, false, false, false, false, false, false, false, false, false, false, false, false, false, false, false, false, false, false, false, false, false, false, false, false, false, false, false, false, false, false, false, false, false, false, false, false] (by kernel_rfl) rfl rfl ⟨(blk_cell BKf.out 0).trans rfl, (blk_cell BKf.out 1).trans rfl, (blk_cell BKm.out 0).trans rfl, (blk_cell BKm.out 1).trans rfl, (blk_cell BKm.out 2).trans rfl, (blk_cell BKm.out 3).trans rfl, (blk_cell BKm.out 4).trans rfl⟩ (fun hHeld => ?_)
        generalize w.drew = w1 at HB hHeld BKp BKf BKm ⊢
        refine with_tabW tpdu_Get.tab11 tpdu_Get.bits11 (fun HT_ HW_ => ?_)
        refine pon_ 0 (some 59) (dB 45 1) HT_.out ?_
        refine ptk_ 1 (some 60) (dB 45 3) HT_.out HW_.out hHeld ?_
        refine pon_ 2 (some 61) (dB 45 7) HT_.out ?_
        refine pon_ 3 (some 62) (dB 45 15) HT_.out ?_
        refine pon_ 4 (some 63) (dB 45 31) HT_.out ?_
        refine pon_ 5 (some 64) (dB 45 63) HT_.out ?_
        refine pon_ 6 (some 65) (dB 45 127) HT_.out ?_
        refine pon_ 7 (some 66) (dB 45 255) HT_.out ?_
        refine pon_ 8 (some 67) (dB 45 511) HT_.out ?_
        refine pon_ 9 (some 68) (dB 45 1023) HT_.out ?_
        refine ptk_ 10 (some 69) (dB 45 2047) HT_.out HW_.out hHeld ?_
        refine pon_ 11 (some 70) (dB 45 4095) HT_.out ?_
        refine pon_ 12 (some 71) (dB 45 8191) HT_.out ?_
        refine pon_ 13 (some 72) (dB 45 16383) HT_.out ?_
        refine pof_ 14 (some 73) (dB 45 32767) HT_.out ?_
        refine pof_ 15 (some 74) (dB 45 65535) HT_.out ?_
        refine pof_ 16 (some 75) (dB 45 131071) HT_.out ?_
        refine pof_ 17 (some 76) (dB 45 262143) HT_.out ?_
        refine pof_ 18 (some 77) (dB 45 524287) HT_.out ?_
        refine pon_ 19 (some 78) (dB 45 1048575) HT_.out ?_
        refine pon_ 20 (some 79) (dB 45 2097151) HT_.out ?_
        refine pof_ 21 (some 80) (dB 45 4194303) HT_.out ?_
        refine pof_ 22 (some 81) (dB 45 8388607) HT_.out ?_
        refine pof_ 23 (some 82) (dB 45 16777215) HT_.out ?_
        refine pof_ 24 (some 83) (dB 45 33554431) HT_.out ?_
        refine pof_ 25 (some 84) (dB 45 67108863) HT_.out ?_
        refine pof_ 26 (some 85) (dB 45 134217727) HT_.out ?_
        refine pof_ 27 (some 86) (dB 45 268435455) HT_.out ?_
        refine pon_ 28 (some 87) (dB 45 536870911) HT_.out ?_
        refine pon_ 29 (some 88) (dB 45 1073741823) HT_.out ?_
        refine pof_ 30 (some 89) (dB 45 2147483647) HT_.out ?_
        refine pof_ 31 (some 90) (dB 45 4294967295) HT_.out ?_
        refine pof_ 32 (some 91) (dB 45 8589934591) HT_.out ?_
        refine pof_ 33 (some 92) (dB 45 17179869183) HT_.out ?_
        refine pof_ 34 (some 93) (dB 45 34359738367) HT_.out ?_
        refine pof_ 35 (some 94) (dB 45 68719476735) HT_.out ?_
        refine pon_ 36 (some 95) (dB 45 137438953471) HT_.out ?_
        refine pon_ 37 (some 96) (dB 45 274877906943) HT_.out ?_
        refine pof_ 38 (some 97) (dB 45 549755813887) HT_.out ?_
        refine pof_ 39 (some 98) (dB 45 1099511627775) HT_.out ?_
        refine pof_ 40 (some 99) (dB 45 2199023255551) HT_.out ?_
        refine pof_ 41 (some 100) (dB 45 4398046511103) HT_.out ?_
        refine pof_ 42 (some 101) (dB 45 8796093022207) HT_.out ?_
        refine pof_ 43 (some 102) (dB 45 17592186044415) HT_.out ?_
        refine pon_ 44 (some 103) (dB 45 35184372088831) HT_.out ?_
        refine done_ (done_of HT_.out (by kernel_rfl)) ?_
        have hcp0 : w1.cell? ⟨gp, 0, none⟩ = some (.int .i64 0) := (blk_cell BKp.out 0).trans rfl
        have hcp1 : w1.cell? ⟨gp, 1, none⟩ = some (.int .i64 0) := (blk_cell BKp.out 1).trans rfl
        have hcp2 : w1.cell? ⟨gp, 2, none⟩ = some (.string (⟨#[]⟩ : ByteArray)) := (blk_cell BKp.out 2).trans rfl
        have hcp3 : w1.cell? ⟨gp, 3, none⟩ = some (.string (⟨#[]⟩ : ByteArray)) := (blk_cell BKp.out 3).trans rfl
        have hfp0 := blk_frozen BKp.out 0
        have hfp1 := blk_frozen BKp.out 1
        have hfp2 := blk_frozen BKp.out 2
        have hfp3 := blk_frozen BKp.out 3
        go_wp2
        refine bodyPost_ret (results_ctt rfl _ _ gp 24 #[.int .i64 0, .int .i64 0, .string (⟨#[]⟩ : ByteArray), .string (⟨#[]⟩ : ByteArray)] (0, 0) _ rfl (blk_put (blk_put (blk_put (blk_put BKp.out 0 _ rfl) 1 _ rfl) 2 _ rfl) 3 _ rfl) hu24 rfl (by kernel_rfl)) rfl ?_
        exact ⟨rfl, (below_set (below_set (below_set (below_set HB.out GE.out) GE.out) GE.out) GE.out)⟩
      · rw [if_neg c2] at hf
        have c2b := decide_eq_false c2
        by_cases c3 : lo = wrap64 u
        · rw [if_pos c3] at hf
          have c3b : (lo != wrap64 u) = false := bne_eq_false_iff_eq.mpr c3
          by_cases h3 : 3 < s.size
          · rw [if_pos h3] at hf
            replace hf := Option.bind_eq_some_iff.mp hf
            obtain ⟨g, hR, hf⟩ := hf
            have HR := Aside0.mk hR
            clear hR c3
            have q1 : (1 < s.size) = True := eq_true (by omega)
            have qi1 : (1 < (s.size : Int)) = True := eq_true (by omega)
            have hx1 : ∀ h_ : 1 < s.size, ((s[1]'h_).toNat : Int) = bt s 1 := bt_at s 1
            have q2 : (2 < s.size) = True := eq_true (by omega)
            have qi2 : (2 < (s.size : Int)) = True := eq_true (by omega)
            have hx2 : ∀ h_ : 2 < s.size, ((s[2]'h_).toNat : Int) = bt s 2 := bt_at s 2
            have q3 : (3 < s.size) = True := eq_true (by omega)
            have qi3 : (3 < (s.size : Int)) = True := eq_true (by omega)
            have hx3 : ∀ h_ : 3 < s.size, ((s[3]'h_).toNat : Int) = bt s 3 := bt_at s 3
            by_cases c4 : wrap64 (bt s 1) = g
            · rw [if_pos c4] at hf
              have c4b : (wrap64 (bt s 1) != g) = false := bne_eq_false_iff_eq.mpr c4
              by_cases c5 : wrap64 (bt s 2) = e
              · rw [if_pos c5] at hf
                have c5b : (wrap64 (bt s 2) != e) = false := bne_eq_false_iff_eq.mpr c5
                by_cases c6 : wrap64 (bt s 3) = at'
                · rw [if_pos c6] at hf
                  have c6b : (wrap64 (bt s 3) != at') = false := bne_eq_false_iff_eq.mpr c6
                  have HF := Aside0.mk hf
                  clear hf c4 c5 c6
                  refine Hand.wp_part 9 (by kernel_rfl) (fun K hK => ?_)
                  conv => arg 2; whnf
                  go_wp2
                  have n0_ := Aside0.mk (blk_drew BKp.out)
                  have n1_ := Aside0.mk (blk_drew BKf.out)
                  have n2_ := Aside0.mk (blk_drew BKm.out)
                  have nb_ := Aside0.mk (below_drew1 HB.out)
                  clear HB BKp BKf BKm
                  have BKp := n0_
                  have BKf := n1_
                  have BKm := n2_
                  have HB := nb_
                  clear nb_ n0_ n1_ n2_
                  refine start_ (n := 45) (S := fun w' => w'.cell? ⟨gf, 0, none⟩ = some (.int .i64 z) ∧ w'.cell? ⟨gf, 1, none⟩ = some (.int .i64 x) ∧ w'.cell? ⟨gm, 0, none⟩ = some (.int .i64 e) ∧ w'.cell? ⟨gm, 1, none⟩ = some (.int .i64 at') ∧ w'.cell? ⟨gm, 2, none⟩ = some (.int .i64 lo) ∧ w'.cell? ⟨gm, 3, none⟩ = some (.bool mh) ∧ w'.cell? ⟨gm, 4, none⟩ = some (.bool md)) (ds := []) #[false, false, false, false, false, false, false, false, false, false, false, false, false, false, false, false, false, false, false, false, false, false, false, false, false, false, false, false, false, false, false, false, false, false, false, false, false, false, false, false, false, false, false, false, false] (by kernel_rfl) rfl rfl ⟨(blk_cell BKf.out 0).trans rfl, (blk_cell BKf.out 1).trans rfl, (blk_cell BKm.out 0).trans rfl, (blk_cell BKm.out 1).trans rfl, (blk_cell BKm.out 2).trans rfl, (blk_cell BKm.out 3).trans rfl, (blk_cell BKm.out 4).trans rfl⟩ (fun hHeld => ?_)
                  generalize w.drew = w1 at HB hHeld BKp BKf BKm ⊢
                  refine with_tabW tpdu_Get.tab11 tpdu_Get.bits11 (fun HT_ HW_ => ?_)
                  refine pon_ 0 (some 59) (dB 45 1) HT_.out ?_
                  refine ptk_ 1 (some 60) (dB 45 3) HT_.out HW_.out hHeld ?_
                  refine pon_ 2 (some 61) (dB 45 7) HT_.out ?_
                  refine pon_ 3 (some 62) (dB 45 15) HT_.out ?_
                  refine pon_ 4 (some 63) (dB 45 31) HT_.out ?_
                  refine pon_ 5 (some 64) (dB 45 63) HT_.out ?_
                  refine pon_ 6 (some 65) (dB 45 127) HT_.out ?_
                  refine pon_ 7 (some 66) (dB 45 255) HT_.out ?_
                  refine pon_ 8 (some 67) (dB 45 511) HT_.out ?_
                  refine pon_ 9 (some 68) (dB 45 1023) HT_.out ?_
                  refine ptk_ 10 (some 69) (dB 45 2047) HT_.out HW_.out hHeld ?_
                  refine pon_ 11 (some 70) (dB 45 4095) HT_.out ?_
                  refine pon_ 12 (some 71) (dB 45 8191) HT_.out ?_
                  refine pon_ 13 (some 72) (dB 45 16383) HT_.out ?_
                  refine pon_ 14 (some 73) (dB 45 32767) HT_.out ?_
                  refine pon_ 16 (some 75) (dB 45 98303) HT_.out ?_
                  refine pon_ 17 (some 76) (dB 45 229375) HT_.out ?_
                  refine ptk_ 15 (some 74) (dB 45 262143) HT_.out HW_.out hHeld ?_
                  refine pon_ 18 (some 77) (dB 45 524287) HT_.out ?_
                  refine pon_ 19 (some 78) (dB 45 1048575) HT_.out ?_
                  refine pon_ 20 (some 79) (dB 45 2097151) HT_.out ?_
                  refine pon_ 21 (some 80) (dB 45 4194303) HT_.out ?_
                  refine pon_ 25 (some 84) (dB 45 37748735) HT_.out ?_
                  refine ptk_ 22 (some 81) (dB 45 41943039) HT_.out HW_.out hHeld ?_
                  refine pon_ 23 (some 82) (dB 45 50331647) HT_.out ?_
                  refine ptk_ 24 (some 83) (dB 45 67108863) HT_.out HW_.out hHeld ?_
                  refine one_ (i := 26) (N := some 85) (dB 45 134217727) rfl rfl (one_of HT_.out (by kernel_rfl)) (by decide) (fun K hK => ?_)
                  refine goes_ Tryd.func20 (by kernel_rfl) rfl #[.agg #[.int .i64 e, .int .i64 at', .int .i64 lo, .bool mh, .bool md], .int .i64 fl] (by rfl) rfl rfl (by simp only [List.map_toArray, List.map_cons, List.map_nil]; rfl) ?_
                  with_reducible refine (tpdu_measured_flags.calls e at' lo mh md fl g _ HR.out).mono ?_
                  rintro e_ w2 ⟨rfl, hb⟩
                  have n0_ := Aside0.mk (blk_below BKp.out hb)
                  have n1_ := Aside0.mk (blk_below BKf.out hb)
                  have n2_ := Aside0.mk (blk_below BKm.out hb)
                  have nb_ := Aside0.mk (below_step HB.out hb)
                  clear HB hb BKp BKf BKm
                  have BKp := n0_
                  have BKf := n1_
                  have BKm := n2_
                  have HB := nb_
                  clear nb_ n0_ n1_ n2_
                  refine ⟨_, rfl, ?_⟩
                  refine hK.out _ _ ⟨(blk_cell BKf.out 0).trans rfl, (blk_cell BKf.out 1).trans rfl, (blk_cell BKm.out 0).trans rfl, (blk_cell BKm.out 1).trans rfl, (blk_cell BKm.out 2).trans rfl, (blk_cell BKm.out 3).trans rfl, (blk_cell BKm.out 4).trans rfl⟩ (fun hHeld => ?_)
                  clear hK K
                  refine norm_ (a' := ?_) ?_ ?_
                  rotate_left
                  ·show Act.put _ (some 85) _ = _
                   simp only [Act.put, la_, lb_, lc_, i64_w, i32_w]
                   rfl
                  refine pon_ 27 (some 86) (dB 45 268435455) HT_.out ?_
                  refine pon_ 28 (some 87) (dB 45 536870911) HT_.out ?_
                  refine pon_ 29 (some 88) (dB 45 1073741823) HT_.out ?_
                  refine pon_ 30 (some 89) (dB 45 2147483647) HT_.out ?_
                  refine pon_ 33 (some 92) (dB 45 10737418239) HT_.out ?_
                  refine ptk_ 31 (some 90) (dB 45 12884901887) HT_.out HW_.out hHeld ?_
                  refine pon_ 32 (some 91) (dB 45 17179869183) HT_.out ?_
                  refine ptk_ 34 (some 93) (dB 45 34359738367) HT_.out HW_.out hHeld ?_
                  refine pon_ 35 (some 94) (dB 45 68719476735) HT_.out ?_
                  refine pon_ 36 (some 95) (dB 45 137438953471) HT_.out ?_
                  refine pon_ 37 (some 96) (dB 45 274877906943) HT_.out ?_
                  refine pon_ 38 (some 97) (dB 45 549755813887) HT_.out ?_
                  refine pon_ 41 (some 100) (dB 45 2748779069439) HT_.out ?_
                  refine ptk_ 39 (some 98) (dB 45 3298534883327) HT_.out HW_.out hHeld ?_
                  refine pon_ 40 (some 99) (dB 45 4398046511103) HT_.out ?_
                  refine ptk_ 42 (some 101) (dB 45 8796093022207) HT_.out HW_.out hHeld ?_
                  refine pon_ 43 (some 102) (dB 45 17592186044415) HT_.out ?_
                  refine pon_ 44 (some 103) (dB 45 35184372088831) HT_.out ?_
                  refine done_ (done_of HT_.out (by kernel_rfl)) ?_
                  go_wp2
                  exact tpdu_Get.w10 k s h d u n fl e at' lo ub mh md r1 r2 r3 r4 r5 r6 _ _ _ _ _ _ _ _ _ _ _ _ _ _ _ _ _ _ _ _ _ _ _ _ _ _ _ _ _ _ _ _ _ _ _ _ _ _ _ _ _ _ _ _ _ _ _ _ _ _ _ _ _ _ _ _ _ _ _ _ _ _ _ _ _ _ _ _ _ _ _ _ _ _ _ _ _ _ _ _ _ _ _ _ _ _ _ _ gp gf ge gm w0 w2 HG BKp BKm NE GE HB HF.out
                · rw [if_neg c6] at hf
                  have c6b : (wrap64 (bt s 3) != at') = true := bne_iff_ne.mpr c6
                  clear c4 c5 c6
                  cases hf
                  refine Hand.wp_part 9 (by kernel_rfl) (fun K hK => ?_)
                  conv => arg 2; whnf
                  go_wp2
                  have n0_ := Aside0.mk (blk_drew BKp.out)
                  have n1_ := Aside0.mk (blk_drew BKf.out)
                  have n2_ := Aside0.mk (blk_drew BKm.out)
                  have nb_ := Aside0.mk (below_drew1 HB.out)
                  clear HB BKp BKf BKm
                  have BKp := n0_
                  have BKf := n1_
                  have BKm := n2_
                  have HB := nb_
                  clear nb_ n0_ n1_ n2_
                  refine start_ (n := 45) (S := fun w' => w'.cell? ⟨gf, 0, none⟩ = some (.int .i64 z) ∧ w'.cell? ⟨gf, 1, none⟩ = some (.int .i64 x) ∧ w'.cell? ⟨gm, 0, none⟩ = some (.int .i64 e) ∧ w'.cell? ⟨gm, 1, none⟩ = some (.int .i64 at') ∧ w'.cell? ⟨gm, 2, none⟩ = some (.int .i64 lo) ∧ w'.cell? ⟨gm, 3, none⟩ = some (.bool mh) ∧ w'.cell? ⟨gm, 4, none⟩ = some (.bool md)) (ds := []) #[false, false, false, false, false, false, false, false, false, false, false, false, false, false, false, false, false, false, false, false, false, false, false, false, false, false, false, false, false, false, false, false, false, false, false, false, false, false, false, false, false, false, false, false, false] (by kernel_rfl) rfl rfl ⟨(blk_cell BKf.out 0).trans rfl, (blk_cell BKf.out 1).trans rfl, (blk_cell BKm.out 0).trans rfl, (blk_cell BKm.out 1).trans rfl, (blk_cell BKm.out 2).trans rfl, (blk_cell BKm.out 3).trans rfl, (blk_cell BKm.out 4).trans rfl⟩ (fun hHeld => ?_)
                  generalize w.drew = w1 at HB hHeld BKp BKf BKm ⊢
                  refine with_tabW tpdu_Get.tab11 tpdu_Get.bits11 (fun HT_ HW_ => ?_)
                  refine pon_ 0 (some 59) (dB 45 1) HT_.out ?_
                  refine ptk_ 1 (some 60) (dB 45 3) HT_.out HW_.out hHeld ?_
                  refine pon_ 2 (some 61) (dB 45 7) HT_.out ?_
                  refine pon_ 3 (some 62) (dB 45 15) HT_.out ?_
                  refine pon_ 4 (some 63) (dB 45 31) HT_.out ?_
                  refine pon_ 5 (some 64) (dB 45 63) HT_.out ?_
                  refine pon_ 6 (some 65) (dB 45 127) HT_.out ?_
                  refine pon_ 7 (some 66) (dB 45 255) HT_.out ?_
                  refine pon_ 8 (some 67) (dB 45 511) HT_.out ?_
                  refine pon_ 9 (some 68) (dB 45 1023) HT_.out ?_
                  refine ptk_ 10 (some 69) (dB 45 2047) HT_.out HW_.out hHeld ?_
                  refine pon_ 11 (some 70) (dB 45 4095) HT_.out ?_
                  refine pon_ 12 (some 71) (dB 45 8191) HT_.out ?_
                  refine pon_ 13 (some 72) (dB 45 16383) HT_.out ?_
                  refine pon_ 14 (some 73) (dB 45 32767) HT_.out ?_
                  refine pon_ 16 (some 75) (dB 45 98303) HT_.out ?_
                  refine pon_ 17 (some 76) (dB 45 229375) HT_.out ?_
                  refine ptk_ 15 (some 74) (dB 45 262143) HT_.out HW_.out hHeld ?_
                  refine pon_ 18 (some 77) (dB 45 524287) HT_.out ?_
                  refine pon_ 19 (some 78) (dB 45 1048575) HT_.out ?_
                  refine pon_ 20 (some 79) (dB 45 2097151) HT_.out ?_
                  refine pon_ 21 (some 80) (dB 45 4194303) HT_.out ?_
                  refine pon_ 25 (some 84) (dB 45 37748735) HT_.out ?_
                  refine ptk_ 22 (some 81) (dB 45 41943039) HT_.out HW_.out hHeld ?_
                  refine pon_ 23 (some 82) (dB 45 50331647) HT_.out ?_
                  refine ptk_ 24 (some 83) (dB 45 67108863) HT_.out HW_.out hHeld ?_
                  refine one_ (i := 26) (N := some 85) (dB 45 134217727) rfl rfl (one_of HT_.out (by kernel_rfl)) (by decide) (fun K hK => ?_)
                  refine goes_ Tryd.func20 (by kernel_rfl) rfl #[.agg #[.int .i64 e, .int .i64 at', .int .i64 lo, .bool mh, .bool md], .int .i64 fl] (by rfl) rfl rfl (by simp only [List.map_toArray, List.map_cons, List.map_nil]; rfl) ?_
                  with_reducible refine (tpdu_measured_flags.calls e at' lo mh md fl g _ HR.out).mono ?_
                  rintro e_ w2 ⟨rfl, hb⟩
                  have n0_ := Aside0.mk (blk_below BKp.out hb)
                  have n1_ := Aside0.mk (blk_below BKf.out hb)
                  have n2_ := Aside0.mk (blk_below BKm.out hb)
                  have nb_ := Aside0.mk (below_step HB.out hb)
                  clear HB hb BKp BKf BKm
                  have BKp := n0_
                  have BKf := n1_
                  have BKm := n2_
                  have HB := nb_
                  clear nb_ n0_ n1_ n2_
                  refine ⟨_, rfl, ?_⟩
                  refine hK.out _ _ ⟨(blk_cell BKf.out 0).trans rfl, (blk_cell BKf.out 1).trans rfl, (blk_cell BKm.out 0).trans rfl, (blk_cell BKm.out 1).trans rfl, (blk_cell BKm.out 2).trans rfl, (blk_cell BKm.out 3).trans rfl, (blk_cell BKm.out 4).trans rfl⟩ (fun hHeld => ?_)
                  clear hK K
                  refine norm_ (a' := ?_) ?_ ?_
                  rotate_left
                  ·show Act.put _ (some 85) _ = _
                   simp only [Act.put, la_, lb_, lc_, i64_w, i32_w]
                   rfl
                  refine pon_ 27 (some 86) (dB 45 268435455) HT_.out ?_
                  refine pon_ 28 (some 87) (dB 45 536870911) HT_.out ?_
                  refine pon_ 29 (some 88) (dB 45 1073741823) HT_.out ?_
                  refine pon_ 30 (some 89) (dB 45 2147483647) HT_.out ?_
                  refine pon_ 33 (some 92) (dB 45 10737418239) HT_.out ?_
                  refine ptk_ 31 (some 90) (dB 45 12884901887) HT_.out HW_.out hHeld ?_
                  refine pon_ 32 (some 91) (dB 45 17179869183) HT_.out ?_
                  refine ptk_ 34 (some 93) (dB 45 34359738367) HT_.out HW_.out hHeld ?_
                  refine pon_ 35 (some 94) (dB 45 68719476735) HT_.out ?_
                  refine pon_ 36 (some 95) (dB 45 137438953471) HT_.out ?_
                  refine pon_ 37 (some 96) (dB 45 274877906943) HT_.out ?_
                  refine pon_ 38 (some 97) (dB 45 549755813887) HT_.out ?_
                  refine pon_ 41 (some 100) (dB 45 2748779069439) HT_.out ?_
                  refine ptk_ 39 (some 98) (dB 45 3298534883327) HT_.out HW_.out hHeld ?_
                  refine pon_ 40 (some 99) (dB 45 4398046511103) HT_.out ?_
                  refine ptk_ 42 (some 101) (dB 45 8796093022207) HT_.out HW_.out hHeld ?_
                  refine pon_ 43 (some 102) (dB 45 17592186044415) HT_.out ?_
                  refine pon_ 44 (some 103) (dB 45 35184372088831) HT_.out ?_
                  refine done_ (done_of HT_.out (by kernel_rfl)) ?_
                  have hcp0 : w2.cell? ⟨gp, 0, none⟩ = some (.int .i64 0) := (blk_cell BKp.out 0).trans rfl
                  have hcp1 : w2.cell? ⟨gp, 1, none⟩ = some (.int .i64 0) := (blk_cell BKp.out 1).trans rfl
                  have hcp2 : w2.cell? ⟨gp, 2, none⟩ = some (.string (⟨#[]⟩ : ByteArray)) := (blk_cell BKp.out 2).trans rfl
                  have hcp3 : w2.cell? ⟨gp, 3, none⟩ = some (.string (⟨#[]⟩ : ByteArray)) := (blk_cell BKp.out 3).trans rfl
                  have hfp0 := blk_frozen BKp.out 0
                  have hfp1 := blk_frozen BKp.out 1
                  have hfp2 := blk_frozen BKp.out 2
                  have hfp3 := blk_frozen BKp.out 3
                  go_wp2
                  refine bodyPost_ret (results_ctt rfl _ _ gp 24 #[.int .i64 0, .int .i64 0, .string (⟨#[]⟩ : ByteArray), .string (⟨#[]⟩ : ByteArray)] (0, 0) _ rfl (blk_put (blk_put (blk_put (blk_put BKp.out 0 _ rfl) 1 _ rfl) 2 _ rfl) 3 _ rfl) hu24 rfl (by kernel_rfl)) rfl ?_
                  exact ⟨rfl, (below_set (below_set (below_set (below_set HB.out GE.out) GE.out) GE.out) GE.out)⟩
              · rw [if_neg c5] at hf
                have c5b : (wrap64 (bt s 2) != e) = true := bne_iff_ne.mpr c5
                clear c4 c5
                cases hf
                refine Hand.wp_part 9 (by kernel_rfl) (fun K hK => ?_)
                conv => arg 2; whnf
                go_wp2
                have n0_ := Aside0.mk (blk_drew BKp.out)
                have n1_ := Aside0.mk (blk_drew BKf.out)
                have n2_ := Aside0.mk (blk_drew BKm.out)
                have nb_ := Aside0.mk (below_drew1 HB.out)
                clear HB BKp BKf BKm
                have BKp := n0_
                have BKf := n1_
                have BKm := n2_
                have HB := nb_
                clear nb_ n0_ n1_ n2_
                refine start_ (n := 45) (S := fun w' => w'.cell? ⟨gf, 0, none⟩ = some (.int .i64 z) ∧ w'.cell? ⟨gf, 1, none⟩ = some (.int .i64 x) ∧ w'.cell? ⟨gm, 0, none⟩ = some (.int .i64 e) ∧ w'.cell? ⟨gm, 1, none⟩ = some (.int .i64 at') ∧ w'.cell? ⟨gm, 2, none⟩ = some (.int .i64 lo) ∧ w'.cell? ⟨gm, 3, none⟩ = some (.bool mh) ∧ w'.cell? ⟨gm, 4, none⟩ = some (.bool md)) (ds := []) #[false, false, false, false, false, false, false, false, false, false, false, false, false, false, false, false, false, false, false, false, false, false, false, false, false, false, false, false, false, false, false, false, false, false, false, false, false, false, false, false, false, false, false, false, false] (by kernel_rfl) rfl rfl ⟨(blk_cell BKf.out 0).trans rfl, (blk_cell BKf.out 1).trans rfl, (blk_cell BKm.out 0).trans rfl, (blk_cell BKm.out 1).trans rfl, (blk_cell BKm.out 2).trans rfl, (blk_cell BKm.out 3).trans rfl, (blk_cell BKm.out 4).trans rfl⟩ (fun hHeld => ?_)
                generalize w.drew = w1 at HB hHeld BKp BKf BKm ⊢
                refine with_tabW tpdu_Get.tab11 tpdu_Get.bits11 (fun HT_ HW_ => ?_)
                refine pon_ 0 (some 59) (dB 45 1) HT_.out ?_
                refine ptk_ 1 (some 60) (dB 45 3) HT_.out HW_.out hHeld ?_
                refine pon_ 2 (some 61) (dB 45 7) HT_.out ?_
                refine pon_ 3 (some 62) (dB 45 15) HT_.out ?_
                refine pon_ 4 (some 63) (dB 45 31) HT_.out ?_
                refine pon_ 5 (some 64) (dB 45 63) HT_.out ?_
                refine pon_ 6 (some 65) (dB 45 127) HT_.out ?_
                refine pon_ 7 (some 66) (dB 45 255) HT_.out ?_
                refine pon_ 8 (some 67) (dB 45 511) HT_.out ?_
                refine pon_ 9 (some 68) (dB 45 1023) HT_.out ?_
                refine ptk_ 10 (some 69) (dB 45 2047) HT_.out HW_.out hHeld ?_
                refine pon_ 11 (some 70) (dB 45 4095) HT_.out ?_
                refine pon_ 12 (some 71) (dB 45 8191) HT_.out ?_
                refine pon_ 13 (some 72) (dB 45 16383) HT_.out ?_
                refine pon_ 14 (some 73) (dB 45 32767) HT_.out ?_
                refine pon_ 16 (some 75) (dB 45 98303) HT_.out ?_
                refine pon_ 17 (some 76) (dB 45 229375) HT_.out ?_
                refine ptk_ 15 (some 74) (dB 45 262143) HT_.out HW_.out hHeld ?_
                refine pon_ 18 (some 77) (dB 45 524287) HT_.out ?_
                refine pon_ 19 (some 78) (dB 45 1048575) HT_.out ?_
                refine pon_ 20 (some 79) (dB 45 2097151) HT_.out ?_
                refine pon_ 21 (some 80) (dB 45 4194303) HT_.out ?_
                refine pon_ 25 (some 84) (dB 45 37748735) HT_.out ?_
                refine ptk_ 22 (some 81) (dB 45 41943039) HT_.out HW_.out hHeld ?_
                refine pon_ 23 (some 82) (dB 45 50331647) HT_.out ?_
                refine ptk_ 24 (some 83) (dB 45 67108863) HT_.out HW_.out hHeld ?_
                refine one_ (i := 26) (N := some 85) (dB 45 134217727) rfl rfl (one_of HT_.out (by kernel_rfl)) (by decide) (fun K hK => ?_)
                refine goes_ Tryd.func20 (by kernel_rfl) rfl #[.agg #[.int .i64 e, .int .i64 at', .int .i64 lo, .bool mh, .bool md], .int .i64 fl] (by rfl) rfl rfl (by simp only [List.map_toArray, List.map_cons, List.map_nil]; rfl) ?_
                with_reducible refine (tpdu_measured_flags.calls e at' lo mh md fl g _ HR.out).mono ?_
                rintro e_ w2 ⟨rfl, hb⟩
                have n0_ := Aside0.mk (blk_below BKp.out hb)
                have n1_ := Aside0.mk (blk_below BKf.out hb)
                have n2_ := Aside0.mk (blk_below BKm.out hb)
                have nb_ := Aside0.mk (below_step HB.out hb)
                clear HB hb BKp BKf BKm
                have BKp := n0_
                have BKf := n1_
                have BKm := n2_
                have HB := nb_
                clear nb_ n0_ n1_ n2_
                refine ⟨_, rfl, ?_⟩
                refine hK.out _ _ ⟨(blk_cell BKf.out 0).trans rfl, (blk_cell BKf.out 1).trans rfl, (blk_cell BKm.out 0).trans rfl, (blk_cell BKm.out 1).trans rfl, (blk_cell BKm.out 2).trans rfl, (blk_cell BKm.out 3).trans rfl, (blk_cell BKm.out 4).trans rfl⟩ (fun hHeld => ?_)
                clear hK K
                refine norm_ (a' := ?_) ?_ ?_
                rotate_left
                ·show Act.put _ (some 85) _ = _
                 simp only [Act.put, la_, lb_, lc_, i64_w, i32_w]
                 rfl
                refine pon_ 27 (some 86) (dB 45 268435455) HT_.out ?_
                refine pon_ 28 (some 87) (dB 45 536870911) HT_.out ?_
                refine pon_ 29 (some 88) (dB 45 1073741823) HT_.out ?_
                refine pon_ 30 (some 89) (dB 45 2147483647) HT_.out ?_
                refine pon_ 33 (some 92) (dB 45 10737418239) HT_.out ?_
                refine ptk_ 31 (some 90) (dB 45 12884901887) HT_.out HW_.out hHeld ?_
                refine pon_ 32 (some 91) (dB 45 17179869183) HT_.out ?_
                refine ptk_ 34 (some 93) (dB 45 34359738367) HT_.out HW_.out hHeld ?_
                refine pon_ 35 (some 94) (dB 45 68719476735) HT_.out ?_
                refine pon_ 36 (some 95) (dB 45 137438953471) HT_.out ?_
                refine pon_ 37 (some 96) (dB 45 274877906943) HT_.out ?_
                refine pof_ 38 (some 97) (dB 45 549755813887) HT_.out ?_
                refine pof_ 39 (some 98) (dB 45 1099511627775) HT_.out ?_
                refine pof_ 40 (some 99) (dB 45 2199023255551) HT_.out ?_
                refine pof_ 41 (some 100) (dB 45 4398046511103) HT_.out ?_
                refine pof_ 42 (some 101) (dB 45 8796093022207) HT_.out ?_
                refine pof_ 43 (some 102) (dB 45 17592186044415) HT_.out ?_
                refine pon_ 44 (some 103) (dB 45 35184372088831) HT_.out ?_
                refine done_ (done_of HT_.out (by kernel_rfl)) ?_
                have hcp0 : w2.cell? ⟨gp, 0, none⟩ = some (.int .i64 0) := (blk_cell BKp.out 0).trans rfl
                have hcp1 : w2.cell? ⟨gp, 1, none⟩ = some (.int .i64 0) := (blk_cell BKp.out 1).trans rfl
                have hcp2 : w2.cell? ⟨gp, 2, none⟩ = some (.string (⟨#[]⟩ : ByteArray)) := (blk_cell BKp.out 2).trans rfl
                have hcp3 : w2.cell? ⟨gp, 3, none⟩ = some (.string (⟨#[]⟩ : ByteArray)) := (blk_cell BKp.out 3).trans rfl
                have hfp0 := blk_frozen BKp.out 0
                have hfp1 := blk_frozen BKp.out 1
                have hfp2 := blk_frozen BKp.out 2
                have hfp3 := blk_frozen BKp.out 3
                go_wp2
                refine bodyPost_ret (results_ctt rfl _ _ gp 24 #[.int .i64 0, .int .i64 0, .string (⟨#[]⟩ : ByteArray), .string (⟨#[]⟩ : ByteArray)] (0, 0) _ rfl (blk_put (blk_put (blk_put (blk_put BKp.out 0 _ rfl) 1 _ rfl) 2 _ rfl) 3 _ rfl) hu24 rfl (by kernel_rfl)) rfl ?_
                exact ⟨rfl, (below_set (below_set (below_set (below_set HB.out GE.out) GE.out) GE.out) GE.out)⟩
            · rw [if_neg c4] at hf
              have c4b : (wrap64 (bt s 1) != g) = true := bne_iff_ne.mpr c4
              clear c4
              cases hf
              refine Hand.wp_part 9 (by kernel_rfl) (fun K hK => ?_)
              conv => arg 2; whnf
              go_wp2
              have n0_ := Aside0.mk (blk_drew BKp.out)
              have n1_ := Aside0.mk (blk_drew BKf.out)
              have n2_ := Aside0.mk (blk_drew BKm.out)
              have nb_ := Aside0.mk (below_drew1 HB.out)
              clear HB BKp BKf BKm
              have BKp := n0_
              have BKf := n1_
              have BKm := n2_
              have HB := nb_
              clear nb_ n0_ n1_ n2_
              refine start_ (n := 45) (S := fun w' => w'.cell? ⟨gf, 0, none⟩ = some (.int .i64 z) ∧ w'.cell? ⟨gf, 1, none⟩ = some (.int .i64 x) ∧ w'.cell? ⟨gm, 0, none⟩ = some (.int .i64 e) ∧ w'.cell? ⟨gm, 1, none⟩ = some (.int .i64 at') ∧ w'.cell? ⟨gm, 2, none⟩ = some (.int .i64 lo) ∧ w'.cell? ⟨gm, 3, none⟩ = some (.bool mh) ∧ w'.cell? ⟨gm, 4, none⟩ = some (.bool md)) (ds := []) #[false, false, false, false, false, false, false, false, false, false, false, false, false, false, false, false, false, false, false, false, false, false, false, false, false, false, false, false, false, false, false, false, false, false, false, false, false, false, false, false, false, false, false, false, false] (by kernel_rfl) rfl rfl ⟨(blk_cell BKf.out 0).trans rfl, (blk_cell BKf.out 1).trans rfl, (blk_cell BKm.out 0).trans rfl, (blk_cell BKm.out 1).trans rfl, (blk_cell BKm.out 2).trans rfl, (blk_cell BKm.out 3).trans rfl, (blk_cell BKm.out 4).trans rfl⟩ (fun hHeld => ?_)
              generalize w.drew = w1 at HB hHeld BKp BKf BKm ⊢
              refine with_tabW tpdu_Get.tab11 tpdu_Get.bits11 (fun HT_ HW_ => ?_)
              refine pon_ 0 (some 59) (dB 45 1) HT_.out ?_
              refine ptk_ 1 (some 60) (dB 45 3) HT_.out HW_.out hHeld ?_
              refine pon_ 2 (some 61) (dB 45 7) HT_.out ?_
              refine pon_ 3 (some 62) (dB 45 15) HT_.out ?_
              refine pon_ 4 (some 63) (dB 45 31) HT_.out ?_
              refine pon_ 5 (some 64) (dB 45 63) HT_.out ?_
              refine pon_ 6 (some 65) (dB 45 127) HT_.out ?_
              refine pon_ 7 (some 66) (dB 45 255) HT_.out ?_
              refine pon_ 8 (some 67) (dB 45 511) HT_.out ?_
              refine pon_ 9 (some 68) (dB 45 1023) HT_.out ?_
              refine ptk_ 10 (some 69) (dB 45 2047) HT_.out HW_.out hHeld ?_
              refine pon_ 11 (some 70) (dB 45 4095) HT_.out ?_
              refine pon_ 12 (some 71) (dB 45 8191) HT_.out ?_
              refine pon_ 13 (some 72) (dB 45 16383) HT_.out ?_
              refine pon_ 14 (some 73) (dB 45 32767) HT_.out ?_
              refine pon_ 16 (some 75) (dB 45 98303) HT_.out ?_
              refine pon_ 17 (some 76) (dB 45 229375) HT_.out ?_
              refine ptk_ 15 (some 74) (dB 45 262143) HT_.out HW_.out hHeld ?_
              refine pon_ 18 (some 77) (dB 45 524287) HT_.out ?_
              refine pon_ 19 (some 78) (dB 45 1048575) HT_.out ?_
              refine pon_ 20 (some 79) (dB 45 2097151) HT_.out ?_
              refine pon_ 21 (some 80) (dB 45 4194303) HT_.out ?_
              refine pon_ 25 (some 84) (dB 45 37748735) HT_.out ?_
              refine ptk_ 22 (some 81) (dB 45 41943039) HT_.out HW_.out hHeld ?_
              refine pon_ 23 (some 82) (dB 45 50331647) HT_.out ?_
              refine ptk_ 24 (some 83) (dB 45 67108863) HT_.out HW_.out hHeld ?_
              refine one_ (i := 26) (N := some 85) (dB 45 134217727) rfl rfl (one_of HT_.out (by kernel_rfl)) (by decide) (fun K hK => ?_)
              refine goes_ Tryd.func20 (by kernel_rfl) rfl #[.agg #[.int .i64 e, .int .i64 at', .int .i64 lo, .bool mh, .bool md], .int .i64 fl] (by rfl) rfl rfl (by simp only [List.map_toArray, List.map_cons, List.map_nil]; rfl) ?_
              with_reducible refine (tpdu_measured_flags.calls e at' lo mh md fl g _ HR.out).mono ?_
              rintro e_ w2 ⟨rfl, hb⟩
              have n0_ := Aside0.mk (blk_below BKp.out hb)
              have n1_ := Aside0.mk (blk_below BKf.out hb)
              have n2_ := Aside0.mk (blk_below BKm.out hb)
              have nb_ := Aside0.mk (below_step HB.out hb)
              clear HB hb BKp BKf BKm
              have BKp := n0_
              have BKf := n1_
              have BKm := n2_
              have HB := nb_
              clear nb_ n0_ n1_ n2_
              refine ⟨_, rfl, ?_⟩
              refine hK.out _ _ ⟨(blk_cell BKf.out 0).trans rfl, (blk_cell BKf.out 1).trans rfl, (blk_cell BKm.out 0).trans rfl, (blk_cell BKm.out 1).trans rfl, (blk_cell BKm.out 2).trans rfl, (blk_cell BKm.out 3).trans rfl, (blk_cell BKm.out 4).trans rfl⟩ (fun hHeld => ?_)
              clear hK K
              refine norm_ (a' := ?_) ?_ ?_
              rotate_left
              ·show Act.put _ (some 85) _ = _
               simp only [Act.put, la_, lb_, lc_, i64_w, i32_w]
               rfl
              refine pon_ 27 (some 86) (dB 45 268435455) HT_.out ?_
              refine pon_ 28 (some 87) (dB 45 536870911) HT_.out ?_
              refine pon_ 29 (some 88) (dB 45 1073741823) HT_.out ?_
              refine pof_ 30 (some 89) (dB 45 2147483647) HT_.out ?_
              refine pof_ 31 (some 90) (dB 45 4294967295) HT_.out ?_
              refine pof_ 32 (some 91) (dB 45 8589934591) HT_.out ?_
              refine pof_ 33 (some 92) (dB 45 17179869183) HT_.out ?_
              refine pof_ 34 (some 93) (dB 45 34359738367) HT_.out ?_
              refine pof_ 35 (some 94) (dB 45 68719476735) HT_.out ?_
              refine pon_ 36 (some 95) (dB 45 137438953471) HT_.out ?_
              refine pon_ 37 (some 96) (dB 45 274877906943) HT_.out ?_
              refine pof_ 38 (some 97) (dB 45 549755813887) HT_.out ?_
              refine pof_ 39 (some 98) (dB 45 1099511627775) HT_.out ?_
              refine pof_ 40 (some 99) (dB 45 2199023255551) HT_.out ?_
              refine pof_ 41 (some 100) (dB 45 4398046511103) HT_.out ?_
              refine pof_ 42 (some 101) (dB 45 8796093022207) HT_.out ?_
              refine pof_ 43 (some 102) (dB 45 17592186044415) HT_.out ?_
              refine pon_ 44 (some 103) (dB 45 35184372088831) HT_.out ?_
              refine done_ (done_of HT_.out (by kernel_rfl)) ?_
              have hcp0 : w2.cell? ⟨gp, 0, none⟩ = some (.int .i64 0) := (blk_cell BKp.out 0).trans rfl
              have hcp1 : w2.cell? ⟨gp, 1, none⟩ = some (.int .i64 0) := (blk_cell BKp.out 1).trans rfl
              have hcp2 : w2.cell? ⟨gp, 2, none⟩ = some (.string (⟨#[]⟩ : ByteArray)) := (blk_cell BKp.out 2).trans rfl
              have hcp3 : w2.cell? ⟨gp, 3, none⟩ = some (.string (⟨#[]⟩ : ByteArray)) := (blk_cell BKp.out 3).trans rfl
              have hfp0 := blk_frozen BKp.out 0
              have hfp1 := blk_frozen BKp.out 1
              have hfp2 := blk_frozen BKp.out 2
              have hfp3 := blk_frozen BKp.out 3
              go_wp2
              refine bodyPost_ret (results_ctt rfl _ _ gp 24 #[.int .i64 0, .int .i64 0, .string (⟨#[]⟩ : ByteArray), .string (⟨#[]⟩ : ByteArray)] (0, 0) _ rfl (blk_put (blk_put (blk_put (blk_put BKp.out 0 _ rfl) 1 _ rfl) 2 _ rfl) 3 _ rfl) hu24 rfl (by kernel_rfl)) rfl ?_
              exact ⟨rfl, (below_set (below_set (below_set (below_set HB.out GE.out) GE.out) GE.out) GE.out)⟩
          · rw [if_neg h3] at hf
            cases hf
        · rw [if_neg c3] at hf
          have c3b : (lo != wrap64 u) = true := bne_iff_ne.mpr c3
          clear c3
          cases hf
          refine Hand.wp_part 9 (by kernel_rfl) (fun K hK => ?_)
          conv => arg 2; whnf
          go_wp2
          have n0_ := Aside0.mk (blk_drew BKp.out)
          have n1_ := Aside0.mk (blk_drew BKf.out)
          have n2_ := Aside0.mk (blk_drew BKm.out)
          have nb_ := Aside0.mk (below_drew1 HB.out)
          clear HB BKp BKf BKm
          have BKp := n0_
          have BKf := n1_
          have BKm := n2_
          have HB := nb_
          clear nb_ n0_ n1_ n2_
          refine start_ (n := 45) (S := fun w' => w'.cell? ⟨gf, 0, none⟩ = some (.int .i64 z) ∧ w'.cell? ⟨gf, 1, none⟩ = some (.int .i64 x) ∧ w'.cell? ⟨gm, 0, none⟩ = some (.int .i64 e) ∧ w'.cell? ⟨gm, 1, none⟩ = some (.int .i64 at') ∧ w'.cell? ⟨gm, 2, none⟩ = some (.int .i64 lo) ∧ w'.cell? ⟨gm, 3, none⟩ = some (.bool mh) ∧ w'.cell? ⟨gm, 4, none⟩ = some (.bool md)) (ds := []) #[false, false, false, false, false, false, false, false, false, false, false, false, false, false, false, false, false, false, false, false, false, false, false, false, false, false, false, false, false, false, false, false, false, false, false, false, false, false, false, false, false, false, false, false, false] (by kernel_rfl) rfl rfl ⟨(blk_cell BKf.out 0).trans rfl, (blk_cell BKf.out 1).trans rfl, (blk_cell BKm.out 0).trans rfl, (blk_cell BKm.out 1).trans rfl, (blk_cell BKm.out 2).trans rfl, (blk_cell BKm.out 3).trans rfl, (blk_cell BKm.out 4).trans rfl⟩ (fun hHeld => ?_)
          generalize w.drew = w1 at HB hHeld BKp BKf BKm ⊢
          refine with_tabW tpdu_Get.tab11 tpdu_Get.bits11 (fun HT_ HW_ => ?_)
          refine pon_ 0 (some 59) (dB 45 1) HT_.out ?_
          refine ptk_ 1 (some 60) (dB 45 3) HT_.out HW_.out hHeld ?_
          refine pon_ 2 (some 61) (dB 45 7) HT_.out ?_
          refine pon_ 3 (some 62) (dB 45 15) HT_.out ?_
          refine pon_ 4 (some 63) (dB 45 31) HT_.out ?_
          refine pon_ 5 (some 64) (dB 45 63) HT_.out ?_
          refine pon_ 6 (some 65) (dB 45 127) HT_.out ?_
          refine pon_ 7 (some 66) (dB 45 255) HT_.out ?_
          refine pon_ 8 (some 67) (dB 45 511) HT_.out ?_
          refine pon_ 9 (some 68) (dB 45 1023) HT_.out ?_
          refine ptk_ 10 (some 69) (dB 45 2047) HT_.out HW_.out hHeld ?_
          refine pon_ 11 (some 70) (dB 45 4095) HT_.out ?_
          refine pon_ 12 (some 71) (dB 45 8191) HT_.out ?_
          refine pon_ 13 (some 72) (dB 45 16383) HT_.out ?_
          refine pon_ 14 (some 73) (dB 45 32767) HT_.out ?_
          refine pon_ 16 (some 75) (dB 45 98303) HT_.out ?_
          refine pon_ 17 (some 76) (dB 45 229375) HT_.out ?_
          refine ptk_ 15 (some 74) (dB 45 262143) HT_.out HW_.out hHeld ?_
          refine pon_ 18 (some 77) (dB 45 524287) HT_.out ?_
          refine pon_ 19 (some 78) (dB 45 1048575) HT_.out ?_
          refine pon_ 20 (some 79) (dB 45 2097151) HT_.out ?_
          refine pof_ 21 (some 80) (dB 45 4194303) HT_.out ?_
          refine pof_ 22 (some 81) (dB 45 8388607) HT_.out ?_
          refine pof_ 23 (some 82) (dB 45 16777215) HT_.out ?_
          refine pof_ 24 (some 83) (dB 45 33554431) HT_.out ?_
          refine pof_ 25 (some 84) (dB 45 67108863) HT_.out ?_
          refine pof_ 26 (some 85) (dB 45 134217727) HT_.out ?_
          refine pof_ 27 (some 86) (dB 45 268435455) HT_.out ?_
          refine pon_ 28 (some 87) (dB 45 536870911) HT_.out ?_
          refine pon_ 29 (some 88) (dB 45 1073741823) HT_.out ?_
          refine pof_ 30 (some 89) (dB 45 2147483647) HT_.out ?_
          refine pof_ 31 (some 90) (dB 45 4294967295) HT_.out ?_
          refine pof_ 32 (some 91) (dB 45 8589934591) HT_.out ?_
          refine pof_ 33 (some 92) (dB 45 17179869183) HT_.out ?_
          refine pof_ 34 (some 93) (dB 45 34359738367) HT_.out ?_
          refine pof_ 35 (some 94) (dB 45 68719476735) HT_.out ?_
          refine pon_ 36 (some 95) (dB 45 137438953471) HT_.out ?_
          refine pon_ 37 (some 96) (dB 45 274877906943) HT_.out ?_
          refine pof_ 38 (some 97) (dB 45 549755813887) HT_.out ?_
          refine pof_ 39 (some 98) (dB 45 1099511627775) HT_.out ?_
          refine pof_ 40 (some 99) (dB 45 2199023255551) HT_.out ?_
          refine pof_ 41 (some 100) (dB 45 4398046511103) HT_.out ?_
          refine pof_ 42 (some 101) (dB 45 8796093022207) HT_.out ?_
          refine pof_ 43 (some 102) (dB 45 17592186044415) HT_.out ?_
          refine pon_ 44 (some 103) (dB 45 35184372088831) HT_.out ?_
          refine done_ (done_of HT_.out (by kernel_rfl)) ?_
          have hcp0 : w1.cell? ⟨gp, 0, none⟩ = some (.int .i64 0) := (blk_cell BKp.out 0).trans rfl
          have hcp1 : w1.cell? ⟨gp, 1, none⟩ = some (.int .i64 0) := (blk_cell BKp.out 1).trans rfl
          have hcp2 : w1.cell? ⟨gp, 2, none⟩ = some (.string (⟨#[]⟩ : ByteArray)) := (blk_cell BKp.out 2).trans rfl
          have hcp3 : w1.cell? ⟨gp, 3, none⟩ = some (.string (⟨#[]⟩ : ByteArray)) := (blk_cell BKp.out 3).trans rfl
          have hfp0 := blk_frozen BKp.out 0
          have hfp1 := blk_frozen BKp.out 1
          have hfp2 := blk_frozen BKp.out 2
          have hfp3 := blk_frozen BKp.out 3
          go_wp2
          refine bodyPost_ret (results_ctt rfl _ _ gp 24 #[.int .i64 0, .int .i64 0, .string (⟨#[]⟩ : ByteArray), .string (⟨#[]⟩ : ByteArray)] (0, 0) _ rfl (blk_put (blk_put (blk_put (blk_put BKp.out 0 _ rfl) 1 _ rfl) 2 _ rfl) 3 _ rfl) hu24 rfl (by kernel_rfl)) rfl ?_
          exact ⟨rfl, (below_set (below_set (below_set (below_set HB.out GE.out) GE.out) GE.out) GE.out)⟩
set_option maxHeartbeats 4000000 in
set_option maxRecDepth 100000 in
theorem tpdu_Get.w7 (k : Nat) (s : ByteArray) (h d : Bool) (u n z x : Int) (ub b : Bool) (r1 r2 : Int) (r3 r4 : ByteArray) (r5 r6 : Int) (c16 c17 c18 c19 c20 c21 c22 c23 c24 c25 c26 c27 c28 c29 c30 c31 c32 c33 c34 c35 c36 c37 c38 c39 c40 c41 c42 c43 c44 c45 c46 c47 c48 : Value) (gp gf ge : Nat) (w0 w : World) (HG : Aside0 (Glob w0))
    (BKp : Aside0 (w.heap[gp]? = some (.cells #[.int .i64 0, .int .i64 0, .string (⟨#[]⟩ : ByteArray), .string (⟨#[]⟩ : ByteArray)] 24 (0, 0)))) (BKf : Aside0 (w.heap[gf]? = some (.cells #[.int .i64 z, .int .i64 x, .bool b] 48 (0, 0)))) (GE : Aside0 (w0.heap.size ≤ gp)) (HB : Aside0 (Below w0.heap.size w0 w))
    (hf : tpdu_Get.t7 k s h d u n z x b = some (r1, r2, r3, r4, r5, r6)) :
    Code.wp Tryd.prog (Hand.dropSeq 7 ((Tryd.f9.body).getD .skip)) (bodyPost Tryd.prog Tryd.f9 fun e_ w' => e_ = .returned (.tuple #[.agg #[.int .i64 r1, .int .i64 r2, .string r3, .string r4], .int .i64 r5, .int .i64 r6]) ∧ Below w0.heap.size w0 w') ⟨#[.string s, .bool h, .bool d, undef, undef, undef, .pointer (some ⟨gp, 0, none⟩), .int .i64 0, .int .i64 0, .pointer (some ⟨gf, 0, none⟩), .int .u64 u, .bool ub, .pointer (some ⟨ge, 0, none⟩), .int .i64 n, undef, undef, c16, c17, c18, c19, c20, c21, c22, c23, c24, c25, c26, c27, c28, c29, c30, c31, c32, c33, c34, c35, c36, c37, c38, c39, c40, c41, c42, c43, c44, c45, c46, c47, c48, undef, undef, undef, undef, undef, undef, undef, undef, undef, undef, undef, undef, undef, undef, undef, undef, undef, undef, undef, undef, undef, undef, undef, undef, undef, undef, undef, undef, undef, undef, undef, undef, undef, undef, undef, undef, undef, undef, undef, undef, undef, undef, undef, undef, undef, undef, undef, undef, undef, undef, undef, undef, undef, undef, undef, undef, undef, undef, undef, undef, undef, undef, undef, undef, undef, undef, undef, undef, undef, undef, undef, undef, undef, undef, undef, undef, undef, undef, undef, undef, undef, undef, undef, undef, undef, undef, undef, undef, undef, undef, undef, undef, undef, undef, undef, undef, undef, undef, undef, undef, undef, undef, undef, undef, undef, undef, undef, undef, undef, undef, undef, undef, undef, undef, undef, undef, undef, undef, undef, undef, undef, undef, undef, undef, undef, undef, undef, undef, undef], []⟩ w := by
  have hu24 := Tryd.underlying24
  have hu54 := Tryd.underlying54
  have hu48 := Tryd.underlying48
  unfold tpdu_Get.t7 at hf
  by_cases h3 : 3 < s.size
  · rw [if_pos h3] at hf
    replace hf := Option.bind_eq_some_iff.mp hf
    obtain ⟨⟨e, at', lo, mh, md⟩, hM, hf⟩ := hf
    dsimp only at hf
    have HF := Aside0.mk hf
    clear hf
    have q1 : (1 < s.size) = True := eq_true (by omega)
    have qi1 : (1 < (s.size : Int)) = True := eq_true (by omega)
    have hx1 : ∀ h_ : 1 < s.size, ((s[1]'h_).toNat : Int) = bt s 1 := bt_at s 1
    have hcf0 : w.cell? ⟨gf, 0, none⟩ = some (.int .i64 z) := (blk_cell BKf.out 0).trans rfl
    have hcf1 : w.cell? ⟨gf, 1, none⟩ = some (.int .i64 x) := (blk_cell BKf.out 1).trans rfl
    have hcf2 : w.cell? ⟨gf, 2, none⟩ = some (.bool b) := (blk_cell BKf.out 2).trans rfl
    have hff0 := blk_frozen BKf.out 0
    have hff1 := blk_frozen BKf.out 1
    have hff2 := blk_frozen BKf.out 2
    by_cases h0 : 0 < n
    · rw [if_neg (show ¬ n < 0 by omega)] at hM
      have HM := Aside0.mk hM
      clear hM
      have t1 := eq_true h0
      have t2 : (n < 0) = False := eq_false (by omega)
      have t3 : (n ≤ 0) = False := eq_false (by omega)
      have t4 : (0 ≤ n) = True := eq_true (by omega)
      refine Hand.wp_part 7 (by kernel_rfl) (fun K hK => ?_)
      conv => arg 2; whnf
      go_wp2_with (first
        | (go_at_call 19; refine (tpdu_form_measure.calls z x b n h d e at' lo mh md _ HM.out).mono ?_; rintro e_ w2 ⟨rfl, hb⟩; have n1_ := Aside0.mk (blk_below BKp.out hb); have n2_ := Aside0.mk (blk_below BKf.out hb); have nb_ := Aside0.mk (below_step HB.out hb); clear hcf0 hff0 hcf1 hff1 hcf2 hff2; clear HB BKp BKf hb; have BKp := n1_; have BKf := n2_; have HB := nb_; clear n1_ n2_ nb_))
      refine Hand.wp_part 8 (by kernel_rfl) (fun K hK => ?_)
      conv => arg 2; whnf
      go_wp2
      exact tpdu_Get.w9 k s h d u n (Go.bits .and .i64 (wrap64 (bt s 1)) 12) z x e at' lo ub b mh md r1 r2 r3 r4 r5 r6 _ _ _ _ _ _ _ _ _ _ _ _ _ _ _ _ _ _ _ _ _ _ _ _ _ _ _ _ _ _ _ _ _ _ _ _ _ _ _ _ _ _ _ gp gf ge w2.heap.size w0 _ HG ⟨blk_alloc BKp.out _⟩ ⟨blk_alloc BKf.out _⟩ ⟨heap_alloc_new w2 _⟩ ⟨Nat.ne_of_lt (blk_lt BKp.out)⟩ GE ⟨below_alloc HB.out _⟩ HF.out
    · by_cases h1 : n < 0
      · rw [if_pos h1] at hM
        have HM := Aside0.mk hM
        clear hM
        have t1 := eq_true h1
        refine Hand.wp_part 7 (by kernel_rfl) (fun K hK => ?_)
        conv => arg 2; whnf
        go_wp2_with (first
          | (go_at_call 19; refine (tpdu_form_measure.calls z x b 0 h d e at' lo mh md _ HM.out).mono ?_; rintro e_ w2 ⟨rfl, hb⟩; have n1_ := Aside0.mk (blk_below BKp.out hb); have n2_ := Aside0.mk (blk_below BKf.out hb); have nb_ := Aside0.mk (below_step HB.out hb); clear hcf0 hff0 hcf1 hff1 hcf2 hff2; clear HB BKp BKf hb; have BKp := n1_; have BKf := n2_; have HB := nb_; clear n1_ n2_ nb_))
        refine Hand.wp_part 8 (by kernel_rfl) (fun K hK => ?_)
        conv => arg 2; whnf
        go_wp2
        exact tpdu_Get.w9 k s h d u n (Go.bits .and .i64 (wrap64 (bt s 1)) 12) z x e at' lo ub b mh md r1 r2 r3 r4 r5 r6 _ _ _ _ _ _ _ _ _ _ _ _ _ _ _ _ _ _ _ _ _ _ _ _ _ _ _ _ _ _ _ _ _ _ _ _ _ _ _ _ _ _ _ gp gf ge w2.heap.size w0 _ HG ⟨blk_alloc BKp.out _⟩ ⟨blk_alloc BKf.out _⟩ ⟨heap_alloc_new w2 _⟩ ⟨Nat.ne_of_lt (blk_lt BKp.out)⟩ GE ⟨below_alloc HB.out _⟩ HF.out
      · obtain rfl : n = 0 := by omega
        rw [if_neg h1] at hM
        have HM := Aside0.mk hM
        clear hM
        refine Hand.wp_part 7 (by kernel_rfl) (fun K hK => ?_)
        conv => arg 2; whnf
        go_wp2_with (first
          | (go_at_call 19; refine (tpdu_form_measure.calls z x b 0 h d e at' lo mh md _ HM.out).mono ?_; rintro e_ w2 ⟨rfl, hb⟩; have n1_ := Aside0.mk (blk_below BKp.out hb); have n2_ := Aside0.mk (blk_below BKf.out hb); have nb_ := Aside0.mk (below_step HB.out hb); clear hcf0 hff0 hcf1 hff1 hcf2 hff2; clear HB BKp BKf hb; have BKp := n1_; have BKf := n2_; have HB := nb_; clear n1_ n2_ nb_))
        refine Hand.wp_part 8 (by kernel_rfl) (fun K hK => ?_)
        conv => arg 2; whnf
        go_wp2
        exact tpdu_Get.w9 k s h d u 0 (Go.bits .and .i64 (wrap64 (bt s 1)) 12) z x e at' lo ub b mh md r1 r2 r3 r4 r5 r6 _ _ _ _ _ _ _ _ _ _ _ _ _ _ _ _ _ _ _ _ _ _ _ _ _ _ _ _ _ _ _ _ _ _ _ _ _ _ _ _ _ _ _ gp gf ge w2.heap.size w0 _ HG ⟨blk_alloc BKp.out _⟩ ⟨blk_alloc BKf.out _⟩ ⟨heap_alloc_new w2 _⟩ ⟨Nat.ne_of_lt (blk_lt BKp.out)⟩ GE ⟨below_alloc HB.out _⟩ HF.out
  · rw [if_neg h3] at hf
    cases hf
set_option maxHeartbeats 4000000 in
set_option maxRecDepth 100000 in
theorem tpdu_Get.calls (k : Nat) (s : ByteArray) (h : Bool) (d : Bool) (r1 r2 : Int) (r3 r4 : ByteArray) (r5 r6 : Int) (w : World) (hG : Glob w) (hf : tpdu_Get.f k s h d = some (r1, r2, r3, r4, r5, r6)) :
    Calls Tryd.prog 9 #[.string s, .bool h, .bool d] w fun e_ w' => e_ = .returned (.tuple #[.agg #[.int .i64 r1, .int .i64 r2, .string r3, .string r4], .int .i64 r5, .int .i64 r6]) ∧ Below w.heap.size w w' := by
  have hu24 := Tryd.underlying24
  have hu54 := Tryd.underlying54
  have hu48 := Tryd.underlying48
  have HG := Aside0.mk hG
  clear hG
  unfold tpdu_Get.f at hf
  have HB := Aside0.mk (Below.refl w.heap.size w)
  by_cases c1 : (s.size : Int) < 8
  · rw [if_pos c1] at hf
    cases hf
    have d1 : decide ((s.size : Int) < 8) = true := decide_eq_true c1
    have d2 : decide (s.size < 8) = true := decide_eq_true (by omega)
    go_enter Tryd.func9, Tryd.ntmps9
    go_wp2
    refine bodyPost_ret (results_ctt rfl _ _ w.heap.size 24 #[.int .i64 0, .int .i64 0, .string (⟨#[]⟩ : ByteArray), .string (⟨#[]⟩ : ByteArray)] (0, 0) _ rfl (heap_alloc_new w _) hu24 rfl (by kernel_rfl)) rfl ?_
    exact ⟨rfl, below_alloc HB.out _⟩
  · rw [if_neg c1] at hf
    have d1 : decide ((s.size : Int) < 8) = false := decide_eq_false c1
    have d2 : decide (s.size < 8) = false := decide_eq_false (by omega)
    replace hf := Option.bind_eq_some_iff.mp hf
    obtain ⟨⟨z, x, b⟩, hF, hf⟩ := hf
    replace hf := Option.bind_eq_some_iff.mp hf
    obtain ⟨⟨u, ub⟩, hL, hf⟩ := hf
    replace hf := Option.bind_eq_some_iff.mp hf
    obtain ⟨⟨e0, a0', lo0, mh0, md0⟩, hM, hf⟩ := hf
    dsimp only at hF hL hM hf
    have A1 := Aside0.mk hF
    have A2 := Aside0.mk hL
    have A3 := Aside0.mk hM
    have HF := Aside0.mk hf
    clear hF hL hM hf
    have q0 : (0 < s.size) = True := eq_true (by omega)
    have qi0 : (0 < (s.size : Int)) = True := eq_true (by omega)
    have hx0 : ∀ h_ : 0 < s.size, ((s[0]'h_).toNat : Int) = bt s 0 := bt_at s 0
    clear c1
    go_enter Tryd.func9, Tryd.ntmps9
    refine Hand.wp_whole (c := (Tryd.f9.body).getD .skip) ?_
    refine Hand.wp_part 0 (by kernel_rfl) (fun K hK => ?_)
    conv => arg 2; whnf
    go_wp2
    refine Hand.wp_part 1 (by kernel_rfl) (fun K hK => ?_)
    conv => arg 2; whnf
    go_wp2
    refine Hand.wp_part 2 (by kernel_rfl) (fun K hK => ?_)
    conv => arg 2; whnf
    go_wp2_with (first
      | (go_at_call 17; refine (tpdu_formOf.calls (wrap64 (bt s 0)) z x b _ (Glob.keep HG.out (below_alloc HB.out _)) A1.out).mono ?_; rintro e_ w1 ⟨rfl, hb⟩; have BKp := Aside0.mk (blk_below (heap_alloc_new w _) hb); have nb_ := Aside0.mk (below_step (below_alloc HB.out _) hb); clear HB hb; have HB := nb_; clear nb_))
    refine Hand.at_world (fun w' => Aside0 (w'.heap[w.heap.size]? = some (.cells #[.int .i64 0, .int .i64 0, .string (⟨#[]⟩ : ByteArray), .string (⟨#[]⟩ : ByteArray)] 24 (0, 0))) ∧ Aside0 (w'.heap[w1.heap.size]? = some (.cells #[.int .i64 z, .int .i64 x, .bool b] 48 (0, 0))) ∧ Aside0 (Below w.heap.size w w')) ⟨⟨blk_alloc BKp.out _⟩, ⟨heap_alloc_new w1 _⟩, ⟨below_alloc HB.out _⟩⟩ ?_
    have GF := Aside0.mk (show w.heap.size ≠ w1.heap.size from Nat.ne_of_lt (blk_lt BKp.out))
    clear BKp HB
    rintro w2 ⟨BKp, BKf, HB⟩
    generalize w1.heap.size = gf at *
    refine Hand.wp_part 3 (by kernel_rfl) (fun K hK => ?_)
    conv => arg 2; whnf
    go_wp2_with (first
      | (go_at_call 18; refine (fields_Little.calls k s 4 4 u ub _ A2.out).mono ?_; rintro e_ w3 ⟨rfl, hb⟩; have n1_ := Aside0.mk (blk_below BKp.out hb); have n2_ := Aside0.mk (blk_below BKf.out hb); have nb_ := Aside0.mk (below_step HB.out hb); clear HB BKp BKf hb; have BKp := n1_; have BKf := n2_; have HB := nb_; clear n1_ n2_ nb_))
    have hcf0 : w3.cell? ⟨gf, 0, none⟩ = some (.int .i64 z) := (blk_cell BKf.out 0).trans rfl
    have hcf1 : w3.cell? ⟨gf, 1, none⟩ = some (.int .i64 x) := (blk_cell BKf.out 1).trans rfl
    have hcf2 : w3.cell? ⟨gf, 2, none⟩ = some (.bool b) := (blk_cell BKf.out 2).trans rfl
    have hff0 := blk_frozen BKf.out 0
    have hff1 := blk_frozen BKf.out 1
    have hff2 := blk_frozen BKf.out 2
    refine Hand.wp_part 4 (by kernel_rfl) (fun K hK => ?_)
    conv => arg 2; whnf
    go_wp2_with (first
      | (go_at_call 19; refine (tpdu_form_measure.calls z x b 0 h d e0 a0' lo0 mh0 md0 _ A3.out).mono ?_; rintro e_ w4 ⟨rfl, hb⟩; have n1_ := Aside0.mk (blk_below BKp.out hb); have n2_ := Aside0.mk (blk_below BKf.out hb); have nb_ := Aside0.mk (below_step HB.out hb); clear hcf0 hff0 hcf1 hff1 hcf2 hff2; clear HB BKp BKf hb; have BKp := n1_; have BKf := n2_; have HB := nb_; clear n1_ n2_ nb_))
    refine Hand.wp_part 5 (by kernel_rfl) (fun K hK => ?_)
    conv => arg 2; whnf
    go_wp2
    refine Hand.at_world (fun w' => Aside0 (w'.heap[w.heap.size]? = some (.cells #[.int .i64 0, .int .i64 0, .string (⟨#[]⟩ : ByteArray), .string (⟨#[]⟩ : ByteArray)] 24 (0, 0))) ∧ Aside0 (w'.heap[gf]? = some (.cells #[.int .i64 z, .int .i64 x, .bool b] 48 (0, 0))) ∧ Aside0 (Below w.heap.size w w')) ⟨⟨blk_alloc BKp.out _⟩, ⟨blk_alloc BKf.out _⟩, ⟨below_alloc HB.out _⟩⟩ ?_
    clear BKp BKf HB
    rintro w5 ⟨BKp, BKf, HB⟩
    generalize w4.heap.size = ge at *
    have hf := HF.out
    clear HF
    obtain ⟨n, hn⟩ : ∃ n, wrap64 (wrap64 u - lo0) = n := ⟨_, rfl⟩
    rw [hn] at hf ⊢
    by_cases c2 : 0 < n
    · rw [if_pos c2] at hf
      have d3 := decide_eq_true c2
      replace hf := Option.bind_eq_some_iff.mp hf
      obtain ⟨⟨e1, a1', lo1, mh1, md1⟩, hM, hf⟩ := hf
      dsimp only at hM hf
      have A4 := Aside0.mk hM
      have HF := Aside0.mk hf
      clear hM hf hn
      have if2 : ∀ (y0 y1 y2 : Int) (y3 y4 : Bool) (W : World), (Instr.field 54 (.agg #[.int .i64 y0, .int .i64 y1, .int .i64 y2, .bool y3, .bool y4]) 2).run Tryd.prog W = .ok (.int .i64 y2) W := fun y0 y1 y2 y3 y4 W => by first | rfl | kernel_rfl
      have hcf0 : w5.cell? ⟨gf, 0, none⟩ = some (.int .i64 z) := (blk_cell BKf.out 0).trans rfl
      have hcf1 : w5.cell? ⟨gf, 1, none⟩ = some (.int .i64 x) := (blk_cell BKf.out 1).trans rfl
      have hcf2 : w5.cell? ⟨gf, 2, none⟩ = some (.bool b) := (blk_cell BKf.out 2).trans rfl
      have hff0 := blk_frozen BKf.out 0
      have hff1 := blk_frozen BKf.out 1
      have hff2 := blk_frozen BKf.out 2
      refine Hand.wp_part 6 (by kernel_rfl) (fun K hK => ?_)
      conv => arg 2; whnf
      go_wp2_with (first
        | (go_at_call 19; refine (tpdu_form_measure.calls z x b 1 h d e1 a1' lo1 mh1 md1 _ A4.out).mono ?_; rintro e_ w6 ⟨rfl, hb⟩; have n1_ := Aside0.mk (blk_below BKp.out hb); have n2_ := Aside0.mk (blk_below BKf.out hb); have nb_ := Aside0.mk (below_step HB.out hb); clear hcf0 hff0 hcf1 hff1 hcf2 hff2; clear HB BKp BKf hb; have BKp := n1_; have BKf := n2_; have HB := nb_; clear n1_ n2_ nb_))
      exact tpdu_Get.w7 k s h d u _ z x ub b r1 r2 r3 r4 r5 r6 _ _ _ _ _ _ _ _ _ _ _ _ _ _ _ _ _ _ _ _ _ _ _ _ _ _ _ _ _ _ _ _ _ w.heap.size gf ge w w6 HG BKp BKf ⟨Nat.le_refl _⟩ HB HF.out
    · rw [if_neg c2] at hf
      have d3 := decide_eq_false c2
      have HF := Aside0.mk hf
      clear hf hn
      refine Hand.wp_part 6 (by kernel_rfl) (fun K hK => ?_)
      conv => arg 2; whnf
      go_wp2
      exact tpdu_Get.w7 k s h d u _ z x ub b r1 r2 r3 r4 r5 r6 _ _ _ _ _ _ _ _ _ _ _ _ _ _ _ _ _ _ _ _ _ _ _ _ _ _ _ _ _ _ _ _ _ w.heap.size gf ge w w5 HG BKp BKf ⟨Nat.le_refl _⟩ HB HF.out
theorem tpdu_Get.t14_mono : ∀ s t0 fl Hd D lo md k, LeO (tpdu_Get.t14 k s t0 fl Hd D lo md) (tpdu_Get.t14 (k + 1) s t0 fl Hd D lo md) := by
  intro s t0 fl Hd D lo md k
  unfold tpdu_Get.t14
  repeat' first
      | (with_reducible exact crc_Right.mono _ _ _)
      | (with_reducible exact LeO.refl _)
      | (with_reducible exact LeO.none _)
      | (with_reducible refine LeO.ite ?_ ?_)
      | (with_reducible refine LeO.bind ?_ (fun _ => ?_))
theorem tpdu_Get.t11_mono : ∀ s fl n e at' lo md k, LeO (tpdu_Get.t11 k s fl n e at' lo md) (tpdu_Get.t11 (k + 1) s fl n e at' lo md) := by
  intro s fl n e at' lo md k
  unfold tpdu_Get.t11
  repeat' first
      | (with_reducible exact tpdu_Get.t14_mono _ _ _ _ _ _ _ _)
      | (with_reducible exact LeO.refl _)
      | (with_reducible exact LeO.none _)
      | (with_reducible refine LeO.ite ?_ ?_)
      | (with_reducible refine LeO.bind ?_ (fun _ => ?_))
theorem tpdu_Get.t10_mono : ∀ s fl n e at' lo mh md k, LeO (tpdu_Get.t10 k s fl n e at' lo mh md) (tpdu_Get.t10 (k + 1) s fl n e at' lo mh md) := by
  intro s fl n e at' lo mh md k
  unfold tpdu_Get.t10
  repeat' first
      | (with_reducible exact tpdu_Get.t11_mono _ _ _ _ _ _ _ _)
      | (with_reducible exact crc_Right.mono _ _ _)
      | (with_reducible exact LeO.refl _)
      | (with_reducible exact LeO.none _)
      | (with_reducible refine LeO.ite ?_ ?_)
      | (with_reducible refine LeO.bind ?_ (fun _ => ?_))
theorem tpdu_Get.t9_mono : ∀ s u n fl z x e at' lo mh md k, LeO (tpdu_Get.t9 k s u n fl z x e at' lo mh md) (tpdu_Get.t9 (k + 1) s u n fl z x e at' lo mh md) := by
  intro s u n fl z x e at' lo mh md k
  unfold tpdu_Get.t9
  repeat' first
      | (with_reducible exact tpdu_Get.t10_mono _ _ _ _ _ _ _ _ _)
      | (with_reducible exact LeO.refl _)
      | (with_reducible exact LeO.none _)
      | (with_reducible refine LeO.ite ?_ ?_)
      | (with_reducible refine LeO.bind ?_ (fun _ => ?_))
theorem tpdu_Get.t7_mono : ∀ s h d u n z x b k, LeO (tpdu_Get.t7 k s h d u n z x b) (tpdu_Get.t7 (k + 1) s h d u n z x b) := by
  intro s h d u n z x b k
  unfold tpdu_Get.t7
  repeat' first
      | (with_reducible exact tpdu_Get.t9_mono _ _ _ _ _ _ _ _ _ _ _ _)
      | (with_reducible exact LeO.refl _)
      | (with_reducible exact LeO.none _)
      | (with_reducible refine LeO.ite ?_ ?_)
      | (with_reducible refine LeO.bind ?_ (fun _ => ?_))
theorem tpdu_Get.mono : ∀ s h d k, LeO (tpdu_Get.f k s h d) (tpdu_Get.f (k + 1) s h d) := by
  intro s h d k
  unfold tpdu_Get.f
  repeat' first
      | (with_reducible exact tpdu_Get.t7_mono _ _ _ _ _ _ _ _ _)
      | (with_reducible exact fields_Little.mono _ _ _ _)
      | (with_reducible exact LeO.refl _)
      | (with_reducible exact LeO.none _)
      | (with_reducible refine LeO.ite ?_ ?_)
      | (with_reducible refine LeO.bind ?_ (fun _ => ?_))

end Go.Proofs.YtkbjhblffbcleaaDoor.P
