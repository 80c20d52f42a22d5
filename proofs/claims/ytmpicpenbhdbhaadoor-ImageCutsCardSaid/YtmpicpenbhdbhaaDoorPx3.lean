-- written by this session's patched copy of the printer (wip/tools/patch_print.py); Lean checks it
import Derived.Test.YtmpicpenbhdbhaaDoorPx0
import Derived.Test.YtmpicpenbhdbhaaDoorPx1
import Derived.Test.YtmpicpenbhdbhaaDoorPx2
namespace Go.Proofs.YtmpicpenbhdbhaaDoor.P
open Go.RowKit Go.Proofs.YtmpicpenbhdbhaaDoorW.PrintWords Go.Proofs.YtmpicpenbhdbhaaDoorW.PrintLast Go.Proofs.YtmpicpenbhdbhaaDoorW.PrintMore
attribute [local go_sem] max2_int min2_int max_two min_two max_three min_three max_four min_four   -- for this text's walks alone
set_option linter.unusedVariables false
set_option linter.unusedSimpArgs false
set_option linter.unnecessarySimpa false

/-! ### image_Encode: function 11 -/
mutual
def image_Encode.j0 : Nat → Int → Int → List (S48) → Int → ByteArray → Int → Bool → Option (ByteArray × Int)
 | 0, _, _, _, _, _, _, _ => none
 | k + 1, x4, x5, x123000, x123001, x123002, x123003, x123004 => (fields_PutBig.f k (IntKind.u64.wrap (x123003)) 4).bind fun t125 => (if 4 + t125.size ≤ 9223372036854775807 then ((some (([(x123001) % 256, (x4) % 256, x5, ((x123000.length : Int)) % 256] : List Int) : List Int)).bind fun y126 => (if ((⟨#[72, 71, 82, 84]⟩ : ByteArray) ++ t125).size + (strOfNums y126).size ≤ 9223372036854775807 then (image_Encode.l0 k (((⟨#[72, 71, 82, 84]⟩ : ByteArray) ++ t125) ++ (strOfNums y126)) x123000 (x123000.length : Int) 0) else (none))) else (none))
def image_Encode.l0 : Nat → ByteArray → List (S48) → Int → Int → Option (ByteArray × Int)
 | 0, _, _, _, _ => none
 | k + 1, x6, x39, x40, x41 => if x41 < x40 then (if 0 ≤ x41 then (if x41 < (x39.length : Int) then ((fields_PutBig.f k ((rd_T48 x39 x41).f1) 8).bind fun t131 => ((some (([((((rd_T48 x39 x41).f0).size : Int)) % 256] : List Int) : List Int)).bind fun y132 => (if t131.size + (strOfNums y132).size ≤ 9223372036854775807 then (if (t131 ++ (strOfNums y132)).size + ((rd_T48 x39 x41).f0).size ≤ 9223372036854775807 then (if x6.size + ((t131 ++ (strOfNums y132)) ++ ((rd_T48 x39 x41).f0)).size ≤ 9223372036854775807 then (image_Encode.l0 k (x6 ++ ((t131 ++ (strOfNums y132)) ++ ((rd_T48 x39 x41).f0))) x39 x40 (wrap64 (x41 + 1))) else (none)) else (none)) else (none)))) else (none)) else (none)) else ((crc_Digest.f k x6).bind fun t135 => (if x6.size + t135.size ≤ 9223372036854775807 then (some (x6 ++ t135, 0)) else (none)))
end
def image_Encode.f (k : Nat) (l0_0 : List (S48)) (a0_1 : Int) (a0_2 : ByteArray) (a0_3 : Int) (a0_4 : Bool) : Option (ByteArray × Int) := (resv_Good.f l0_0 a0_1 a0_2 a0_3 a0_4).bind fun t123 => (if t123 = true then ((api_Reg.f l0_0 a0_2).bind fun t124 => (if a0_4 = true then (image_Encode.j0 k (wrap64 (1 + t124)) 1 l0_0 a0_1 a0_2 a0_3 a0_4) else (image_Encode.j0 k (wrap64 (1 + t124)) 0 l0_0 a0_1 a0_2 a0_3 a0_4))) else (some ((⟨#[]⟩ : ByteArray), 1)))
theorem image_Encode.mono_l : ∀ k, (∀ y0 y1 y2 y3 y4 y5 y6, LeO (image_Encode.j0 k y0 y1 y2 y3 y4 y5 y6) (image_Encode.j0 (k + 1) y0 y1 y2 y3 y4 y5 y6)) ∧ (∀ y0 y1 y2 y3, LeO (image_Encode.l0 k y0 y1 y2 y3) (image_Encode.l0 (k + 1) y0 y1 y2 y3))
 | 0 => ⟨fun _ _ _ _ _ _ _ r h => by simp [image_Encode.j0] at h, fun _ _ _ _ r h => by simp [image_Encode.l0] at h⟩
 | k + 1 => by
  obtain ⟨ih0, ih1⟩ := image_Encode.mono_l k
  refine ⟨?_, ?_⟩
  ·intro y0 y1 y2 y3 y4 y5 y6
   unfold image_Encode.j0
   repeat' first
   | (with_reducible exact ih0 _ _ _ _ _ _ _)
   | (with_reducible exact ih1 _ _ _ _)
   | (with_reducible exact crc_Digest.mono _ _)
   | (with_reducible exact fields_PutBig.mono _ _ _)
   | (with_reducible exact LeO.refl _)
   | (with_reducible exact LeO.none _)
   | (with_reducible refine LeO.ite ?_ ?_)
   | (with_reducible refine LeO.bind ?_ (fun _ => ?_))
   | exact ih0 _ _ _ _ _ _ _
   | exact ih1 _ _ _ _
   | exact crc_Digest.mono _ _
   | exact fields_PutBig.mono _ _ _
   | exact LeO.none _
   | refine LeO.ite ?_ ?_
   | refine LeO.bind ?_ (fun _ => ?_)
  ·intro y0 y1 y2 y3
   unfold image_Encode.l0
   repeat' first
   | (with_reducible exact ih0 _ _ _ _ _ _ _)
   | (with_reducible exact ih1 _ _ _ _)
   | (with_reducible exact crc_Digest.mono _ _)
   | (with_reducible exact fields_PutBig.mono _ _ _)
   | (with_reducible exact LeO.refl _)
   | (with_reducible exact LeO.none _)
   | (with_reducible refine LeO.ite ?_ ?_)
   | (with_reducible refine LeO.bind ?_ (fun _ => ?_))
   | exact ih0 _ _ _ _ _ _ _
   | exact ih1 _ _ _ _
   | exact crc_Digest.mono _ _
   | exact fields_PutBig.mono _ _ _
   | exact LeO.none _
   | refine LeO.ite ?_ ?_
   | refine LeO.bind ?_ (fun _ => ?_)
theorem image_Encode.mono : ∀ a0 a1 a2 a3 a4 k, LeO (image_Encode.f k a0 a1 a2 a3 a4) (image_Encode.f (k + 1) a0 a1 a2 a3 a4) := by
 intro a0 a1 a2 a3 a4 k
 obtain ⟨ih0, ih1⟩ := image_Encode.mono_l k
 unfold image_Encode.f
 repeat' first
   | (with_reducible exact ih0 _ _ _ _ _ _ _)
   | (with_reducible exact ih1 _ _ _ _)
   | (with_reducible exact crc_Digest.mono _ _)
   | (with_reducible exact fields_PutBig.mono _ _ _)
   | (with_reducible exact LeO.refl _)
   | (with_reducible exact LeO.none _)
   | (with_reducible refine LeO.ite ?_ ?_)
   | (with_reducible refine LeO.bind ?_ (fun _ => ?_))
   | exact ih0 _ _ _ _ _ _ _
   | exact ih1 _ _ _ _
   | exact crc_Digest.mono _ _
   | exact fields_PutBig.mono _ _ _
   | exact LeO.none _
   | refine LeO.ite ?_ ?_
   | refine LeO.bind ?_ (fun _ => ?_)
def image_Encode.T7 : Bool × List (List Nat × List Nat) := (true, [([], []), ([0], [0]), ([1], [1]), ([2], [2]), ([3], [3]), ([], []), ([5], [5]), ([6], [6]), ([7], [7]), ([], []), ([9], [9]), ([], []), ([], []), ([12], [12]), ([13], [13]), ([14], [14]), ([8, 10, 11, 15], [8, 10, 11, 15]), ([16], [16]), ([4, 17], [4, 17]), ([18, 3, 0, 1, 2, 3, 4, 5, 6, 7, 8, 9, 10, 11, 12, 13, 14, 15, 16, 17, 18], [18])])
def image_Encode.B7 : List Nat := [0, 1, 3, 7, 15, 0, 32, 96, 224, 0, 512, 0, 0, 4096, 12288, 28672, 65504, 131040, 262143, 524287]
theorem image_Encode.tab7 : rtab .any (opsOf Tryd.f11 7) = image_Encode.T7 := by kernel_rfl
theorem image_Encode.bits7 : waitsOk image_Encode.T7.2 image_Encode.B7 = true := by kernel_rfl
def image_Encode.T11 : Bool × List (List Nat × List Nat) := (true, [([], []), ([], []), ([1], [1]), ([2], [2]), ([], []), ([4], [4]), ([5], [5]), ([6], [6]), ([7], [7]), ([8], [8]), ([3, 9], [3, 9]), ([], []), ([11], [11]), ([10, 12], [10, 12]), ([0, 13], [0, 13]), ([14, 3, 0, 1, 2, 3, 4, 5, 6, 7, 8, 9, 10, 11, 12, 13, 14], [0, 14])])
def image_Encode.B11 : List Nat := [0, 0, 2, 6, 0, 16, 48, 112, 240, 496, 1022, 0, 2048, 8190, 16383, 32767]
theorem image_Encode.tab11 : rtab .any (opsOf Tryd.f11 11) = image_Encode.T11 := by kernel_rfl
theorem image_Encode.bits11 : waitsOk image_Encode.T11.2 image_Encode.B11 = true := by kernel_rfl
abbrev d11x0 : Array Bool := #[false, false, false, false, false, false, false, false, false, false, false, false, false, false, false, false, false, false, false, false]
abbrev d11x1 : Array Bool := #[false, false, false, false, false, false, false, false, false, false, false, false, false, false, false, false]
abbrev d11x2 : Array Bool := dB 20 1
abbrev d11x3 : Array Bool := dB 16 1
abbrev d11x4 : Array Bool := dB 20 33
abbrev d11x5 : Array Bool := dB 20 97
abbrev d11x6 : Array Bool := dB 20 609
abbrev d11x7 : Array Bool := dB 20 1633
abbrev d11x8 : Array Bool := dB 20 3681
abbrev d11x9 : Array Bool := dB 20 7777
abbrev d11x10 : Array Bool := dB 16 3
abbrev d11x11 : Array Bool := dB 20 7779
abbrev d11x12 : Array Bool := dB 16 19
abbrev d11x13 : Array Bool := dB 16 2067
abbrev d11x14 : Array Bool := dB 20 7783
abbrev d11x15 : Array Bool := dB 20 7911
abbrev d11x16 : Array Bool := dB 20 8167
abbrev d11x17 : Array Bool := dB 20 16359
abbrev d11x18 : Array Bool := dB 20 32743
abbrev d11x19 : Array Bool := dB 20 65511
abbrev d11x20 : Array Bool := dB 20 131047
abbrev d11x21 : Array Bool := dB 20 262119
abbrev d11x22 : Array Bool := dB 16 2071
abbrev d11x23 : Array Bool := dB 16 2103
abbrev d11x24 : Array Bool := dB 16 2167
abbrev d11x25 : Array Bool := dB 16 2295
abbrev d11x26 : Array Bool := dB 16 6391
abbrev d11x27 : Array Bool := dB 16 6647
abbrev d11x28 : Array Bool := dB 16 7159
abbrev d11x29 : Array Bool := dB 20 65519
abbrev d11x30 : Array Bool := dB 20 131055
abbrev d11x31 : Array Bool := dB 20 262127
abbrev d11x32 : Array Bool := dB 16 6399
abbrev d11x33 : Array Bool := dB 16 6655
abbrev d11x34 : Array Bool := dB 16 7167
abbrev d11x35 : Array Bool := dB 16 8191
abbrev d11x36 : Array Bool := dB 16 16383
abbrev d11x37 : Array Bool := dB 16 32767
abbrev d11x38 : Array Bool := dB 20 65535
abbrev d11x39 : Array Bool := dB 20 131071
abbrev d11x40 : Array Bool := dB 20 262143
abbrev d11x41 : Array Bool := dB 20 524287
abbrev d11x42 : Array Bool := dB 20 1048575
abbrev d11x43 : Array Bool := dB 16 65535
set_option maxHeartbeats 8000000 in
set_option maxRecDepth 100000 in
theorem image_Encode.calls (k : Nat) (A0_0 : Option Addr) (c0_0 : Nat) (l0_0 : List (S48)) (a0_1 : Int) (a0_2 : ByteArray) (a0_3 : Int) (a0_4 : Bool) (r1 : ByteArray) (r2 : Int) (w : World) (hr0_0 : Kd.C k48 w A0_0 l0_0.length l0_0) (hc0_0 : l0_0.length ≤ c0_0) (hG : Glob w) (h : image_Encode.f k l0_0 a0_1 a0_2 a0_3 a0_4 = some (r1, r2)) :
  Calls Tryd.prog 11 #[.agg #[.slice A0_0 l0_0.length c0_0, .int .i64 a0_1, .string a0_2, .int .u32 a0_3, .bool a0_4]] w fun e w' => e = .returned (.tuple #[.string r1, .int .i64 r2]) ∧ Below w.heap.size w w' := by
 have hu27 := Tryd.underlying27
 have hu48 := Tryd.underlying48
 have hmf : ∀ (fn : Fn) (first cap : Array Value) (w : World), (Instr.makeFunc fn first cap).run Tryd.prog w = .ok (.func fn first cap) w := fun _ _ _ _ => rfl
 have HG := Aside0.mk hG
 clear hG
 have HR0_0 := Aside0.mk hr0_0
 have HC0_0 := Aside0.mk hc0_0
 clear hr0_0 hc0_0
 have HB := Aside0.mk (Below.refl w.heap.size w)
 have H : ((resv_Good.f l0_0 a0_1 a0_2 a0_3 a0_4).bind fun t123 => (if t123 = true then ((api_Reg.f l0_0 a0_2).bind fun t124 => (if a0_4 = true then (image_Encode.j0 k (wrap64 (1 + t124)) 1 l0_0 a0_1 a0_2 a0_3 a0_4) else (image_Encode.j0 k (wrap64 (1 + t124)) 0 l0_0 a0_1 a0_2 a0_3 a0_4))) else (some ((⟨#[]⟩ : ByteArray), 1)))) = some (r1, r2) := h
 clear h
 replace H := Option.bind_eq_some_iff.mp H
 obtain ⟨t123, A20, H⟩ := H
 try dsimp only at H
 have A2 := Aside0.mk A20
 clear A20
 refine neg_first (p := (t123 = true)) (fun c3 => ?_) (fun c3 => ?_)
 ·replace c3 := Bool.eq_false_iff.mpr c3
  subst c3
  have H1 := H
  rw [if_neg (show ¬ (false = true) by decide)] at H1
  clear H
  have H := H1
  clear H1
  simp only [Option.some.injEq, Prod.mk.injEq] at H
  obtain ⟨rfl, rfl⟩ := H
  go_enter Tryd.func11, Tryd.ntmps11
  go_wp2_with (first | ((with_reducible refine gate_dst (N := 1) rfl ?_); refine box_event ?hg (N := 1) ?hd (cs := #[.slice A0_0 l0_0.length c0_0, .int .i64 a0_1, .string a0_2, .int .u32 a0_3, .bool a0_4]) (t := 27) ?hr ?_; (case hd => rfl); (case hg => rfl); (case hr => first | (go_simp; done) | (go_simp; rfl)); intro gb122 hg w43 hbox hb; have n0_ := Aside0.mk (below_step (hb_ HB) hb); have n1_ := Aside0.mk (hbox); have n2_ := Aside0.mk ((by rw [hg]; exact (below_size (hb_ HB)) : w.heap.size ≤ gb122)); have n3_ := Aside0.mk ((by rw [hg]; exact (below_size (hb_ HB)) : w.heap.size ≤ gb122)); clear HB; have HB := n0_; have BK122 := n1_; have GW122 := n2_; have GE122 := n3_; clear n0_ n1_ n2_ n3_; clear hb hbox hg; have hcz44_0 : w43.cell? ⟨gb122, 0, none⟩ = some (.slice A0_0 l0_0.length c0_0) := (blk_cell BK122.out 0).trans rfl; have hcz44_1 : w43.cell? ⟨gb122, 1, none⟩ = some (.int .i64 a0_1) := (blk_cell BK122.out 1).trans rfl; have hcz44_2 : w43.cell? ⟨gb122, 2, none⟩ = some (.string a0_2) := (blk_cell BK122.out 2).trans rfl; have hcz44_3 : w43.cell? ⟨gb122, 3, none⟩ = some (.int .u32 a0_3) := (blk_cell BK122.out 3).trans rfl; have hcz44_4 : w43.cell? ⟨gb122, 4, none⟩ = some (.bool a0_4) := (blk_cell BK122.out 4).trans rfl; have hfz44_0 := blk_frozen BK122.out 0; have hfz44_1 := blk_frozen BK122.out 1; have hfz44_2 := blk_frozen BK122.out 2; have hfz44_3 := blk_frozen BK122.out 3; have hfz44_4 := blk_frozen BK122.out 4) | ((with_reducible refine gate_callee (f := 16) rfl ?_); refine goesL_ (some 10) rfl rfl Tryd.func16 (by kernel_rfl) rfl #[.agg #[.slice A0_0 l0_0.length c0_0, .int .i64 a0_1, .string a0_2, .int .u32 a0_3, .bool a0_4]] rfl (by (try simp only [List.map_toArray, List.map_cons, List.map_nil]); first | done | rfl | (simp only [List.length_drop, List.length_take]; rfl)) ?_; (with_reducible refine (resv_Good.calls _ _ l0_0 a0_1 a0_2 a0_3 a0_4 false _ ?side1 ?side2 A2.out).mono ?_); (case side1 => repeat (first | exact (Kd.C_below HR0_0.out HB.out) | (with_reducible refine Kd.C_alloc ?_ _) | (with_reducible refine Kd.C_drewN ?_ _) | (with_reducible refine Kd.C_drew ?_))); (case side2 => exact HC0_0.out); rintro e w45 ⟨rfl, hb⟩; refine ⟨_, rfl, ?_⟩; have n0_ := Aside0.mk (blk_below (bk_ BK122) hb); have n1_ := Aside0.mk (below_step (hb_ HB) hb); clear BK122; clear HB; have BK122 := n0_; have HB := n1_; clear n0_ n1_; (try clear hb); (try clear hb2); (try clear hk); (try clear hi)))
  go_ret2
  exact ⟨by first | rfl | (simp [errW_none, errW_some] <;> rfl) | (simp [*, errW_none, errW_some] <;> rfl) | (simp [bt, *]; done) | (unfold bt; simp [*]; done), by repeat (first | (with_reducible first | exact HB.out | apply below_alloc | apply pw_below_drewN | apply below_drew1 | refine below_set ?_ GE122.out) | exact HB.out)⟩

 subst c3
 have H1 := H
 rw [if_pos rfl] at H1
 clear H
 have H := H1
 clear H1
 replace H := Option.bind_eq_some_iff.mp H
 obtain ⟨t124, A40, H⟩ := H
 try dsimp only at H
 have A4 := Aside0.mk A40
 clear A40
 have HC5 := Aside0.mk H
 clear H
 go_enter Tryd.func11, Tryd.ntmps11
 go_upto_if 18 with (first | ((with_reducible refine gate_dst (N := 1) rfl ?_); refine box_event ?hg (N := 1) ?hd (cs := #[.slice A0_0 l0_0.length c0_0, .int .i64 a0_1, .string a0_2, .int .u32 a0_3, .bool a0_4]) (t := 27) ?hr ?_; (case hd => rfl); (case hg => rfl); (case hr => first | (go_simp; done) | (go_simp; rfl)); intro gb122 hg w6 hbox hb; have n0_ := Aside0.mk (below_step (hb_ HB) hb); have n1_ := Aside0.mk (hbox); have n2_ := Aside0.mk ((by rw [hg]; exact (below_size (hb_ HB)) : w.heap.size ≤ gb122)); have n3_ := Aside0.mk ((by rw [hg]; exact (below_size (hb_ HB)) : w.heap.size ≤ gb122)); clear HB; have HB := n0_; have BK122 := n1_; have GW122 := n2_; have GE122 := n3_; clear n0_ n1_ n2_ n3_; clear hb hbox hg; have hcz7_0 : w6.cell? ⟨gb122, 0, none⟩ = some (.slice A0_0 l0_0.length c0_0) := (blk_cell BK122.out 0).trans rfl; have hcz7_1 : w6.cell? ⟨gb122, 1, none⟩ = some (.int .i64 a0_1) := (blk_cell BK122.out 1).trans rfl; have hcz7_2 : w6.cell? ⟨gb122, 2, none⟩ = some (.string a0_2) := (blk_cell BK122.out 2).trans rfl; have hcz7_3 : w6.cell? ⟨gb122, 3, none⟩ = some (.int .u32 a0_3) := (blk_cell BK122.out 3).trans rfl; have hcz7_4 : w6.cell? ⟨gb122, 4, none⟩ = some (.bool a0_4) := (blk_cell BK122.out 4).trans rfl; have hfz7_0 := blk_frozen BK122.out 0; have hfz7_1 := blk_frozen BK122.out 1; have hfz7_2 := blk_frozen BK122.out 2; have hfz7_3 := blk_frozen BK122.out 3; have hfz7_4 := blk_frozen BK122.out 4) | ((with_reducible refine gate_callee (f := 16) rfl ?_); refine goesL_ (some 10) rfl rfl Tryd.func16 (by kernel_rfl) rfl #[.agg #[.slice A0_0 l0_0.length c0_0, .int .i64 a0_1, .string a0_2, .int .u32 a0_3, .bool a0_4]] rfl (by (try simp only [List.map_toArray, List.map_cons, List.map_nil]); first | done | rfl | (simp only [List.length_drop, List.length_take]; rfl)) ?_; (with_reducible refine (resv_Good.calls _ _ l0_0 a0_1 a0_2 a0_3 a0_4 true _ ?side1 ?side2 A2.out).mono ?_); (case side1 => repeat (first | exact (Kd.C_below HR0_0.out HB.out) | (with_reducible refine Kd.C_alloc ?_ _) | (with_reducible refine Kd.C_drewN ?_ _) | (with_reducible refine Kd.C_drew ?_))); (case side2 => exact HC0_0.out); rintro e w8 ⟨rfl, hb⟩; refine ⟨_, rfl, ?_⟩; have n0_ := Aside0.mk (blk_below (bk_ BK122) hb); have n1_ := Aside0.mk (below_step (hb_ HB) hb); clear BK122; clear HB; have BK122 := n0_; have HB := n1_; clear n0_ n1_; (try clear hb); (try clear hb2); (try clear hk); (try clear hi); have hcz9_0 : w8.cell? ⟨gb122, 0, none⟩ = some (.slice A0_0 l0_0.length c0_0) := (blk_cell BK122.out 0).trans rfl; have hcz9_1 : w8.cell? ⟨gb122, 1, none⟩ = some (.int .i64 a0_1) := (blk_cell BK122.out 1).trans rfl; have hcz9_2 : w8.cell? ⟨gb122, 2, none⟩ = some (.string a0_2) := (blk_cell BK122.out 2).trans rfl; have hcz9_3 : w8.cell? ⟨gb122, 3, none⟩ = some (.int .u32 a0_3) := (blk_cell BK122.out 3).trans rfl; have hcz9_4 : w8.cell? ⟨gb122, 4, none⟩ = some (.bool a0_4) := (blk_cell BK122.out 4).trans rfl; have hfz9_0 := blk_frozen BK122.out 0; have hfz9_1 := blk_frozen BK122.out 1; have hfz9_2 := blk_frozen BK122.out 2; have hfz9_3 := blk_frozen BK122.out 3; have hfz9_4 := blk_frozen BK122.out 4) | ((with_reducible refine gate_callee (f := 17) rfl ?_); refine goesL_ (some 15) rfl rfl Tryd.func17 (by kernel_rfl) rfl #[.slice A0_0 l0_0.length c0_0, .func (.func 18) #[] #[.pointer (some ⟨gb122, 0, none⟩)]] rfl (by (try simp only [List.map_toArray, List.map_cons, List.map_nil]); first | done | rfl | (simp only [List.length_drop, List.length_take]; rfl)) ?_; (with_reducible refine (api_Reg.calls A0_0 c0_0 l0_0 a0_1 a0_2 a0_3 a0_4 gb122 _ t124 _ ?side1 ?side2 BK122.out A2.out A4.out).mono ?_); (case side1 => repeat (first | exact (Kd.C_below HR0_0.out HB.out) | (with_reducible refine Kd.C_alloc ?_ _) | (with_reducible refine Kd.C_drewN ?_ _) | (with_reducible refine Kd.C_drew ?_))); (case side2 => exact HC0_0.out); rintro e w10 ⟨rfl, hb⟩; refine ⟨_, rfl, ?_⟩; have n0_ := Aside0.mk (blk_below (bk_ BK122) hb); have n1_ := Aside0.mk (below_step (hb_ HB) hb); clear BK122; clear HB; have BK122 := n0_; have HB := n1_; clear n0_ n1_; (try clear hb); (try clear hb2); (try clear hk); (try clear hi); have hcz11_0 : w10.cell? ⟨gb122, 0, none⟩ = some (.slice A0_0 l0_0.length c0_0) := (blk_cell BK122.out 0).trans rfl; have hcz11_1 : w10.cell? ⟨gb122, 1, none⟩ = some (.int .i64 a0_1) := (blk_cell BK122.out 1).trans rfl; have hcz11_2 : w10.cell? ⟨gb122, 2, none⟩ = some (.string a0_2) := (blk_cell BK122.out 2).trans rfl; have hcz11_3 : w10.cell? ⟨gb122, 3, none⟩ = some (.int .u32 a0_3) := (blk_cell BK122.out 3).trans rfl; have hcz11_4 : w10.cell? ⟨gb122, 4, none⟩ = some (.bool a0_4) := (blk_cell BK122.out 4).trans rfl; have hfz11_0 := blk_frozen BK122.out 0; have hfz11_1 := blk_frozen BK122.out 1; have hfz11_2 := blk_frozen BK122.out 2; have hfz11_3 := blk_frozen BK122.out 3; have hfz11_4 := blk_frozen BK122.out 4))
 (try simp only [Act.put, la_, lb_, lc_])
 go_cut [5] (fun v5 wc => ∃ (kq : Nat) (x5_4 : Int), v5 = .int .u8 x5_4 ∧ Aside0 (image_Encode.j0 kq (wrap64 (1 + t124)) x5_4 l0_0 a0_1 a0_2 a0_3 a0_4 = some (r1, r2)) ∧ Aside0 (kq ≤ k) ∧ Aside0 (wc.heap[gb122]? = some (.cells #[(.slice A0_0 l0_0.length c0_0), .int .i64 a0_1, .string a0_2, .int .u32 a0_3, .bool a0_4] 27 (0, 0))) ∧ Aside0 (Below w.heap.size w wc))
 case first =>
  have H := HC5.out
  clear HC5
  by_cases c12 : a0_4 = true
  ·subst c12
   have H1 := H
   rw [if_pos rfl] at H1
   clear H
   have H := H1
   clear H1
   have H' := Aside0.mk H
   clear H
   go_wp2
   go_meet
   case rel => exact ⟨_, (1), (by first | rfl | (simp; done) | (simp [*]; done)), H', ⟨by first | omega | exact Nat.le_refl _⟩, ⟨bk_ BK122⟩, ⟨hb_ HB⟩⟩
  replace c12 := Bool.eq_false_iff.mpr c12
  subst c12
  have H1 := H
  rw [if_neg (show ¬ (false = true) by decide)] at H1
  clear H
  have H := H1
  clear H1
  have H' := Aside0.mk H
  clear H
  go_wp2
  go_meet
  case rel => exact ⟨_, (0), (by first | rfl | (simp; done) | (simp [*]; done)), H', ⟨by first | omega | exact Nat.le_refl _⟩, ⟨bk_ BK122⟩, ⟨hb_ HB⟩⟩
 case rest =>
  clear HC5
  try clear c1
  try clear p2
  try clear c3
  try clear p6
  try clear c11
  try clear c12
  try clear hcz11_0
  try clear hcz11_1
  try clear hcz11_2
  try clear hcz11_3
  try clear hcz11_4
  try clear hcz7_0
  try clear hcz7_1
  try clear hcz7_2
  try clear hcz7_3
  try clear hcz7_4
  try clear hcz9_0
  try clear hcz9_1
  try clear hcz9_2
  try clear hcz9_3
  try clear hcz9_4
  try clear hfz11_0
  try clear hfz11_1
  try clear hfz11_2
  try clear hfz11_3
  try clear hfz11_4
  try clear hfz7_0
  try clear hfz7_1
  try clear hfz7_2
  try clear hfz7_3
  try clear hfz7_4
  try clear hfz9_0
  try clear hfz9_1
  try clear hfz9_2
  try clear hfz9_3
  try clear hfz9_4
  obtain ⟨kq, x5_4, rfl, HA, HJ4, BK122, HB⟩ := hcut
  cases kq with
  | zero => exact absurd HA.out (by simp [image_Encode.j0])
  | succ kj4 =>
   have H := HA.out
   clear HA
   simp only [image_Encode.j0] at H
   replace H := Option.bind_eq_some_iff.mp H
   obtain ⟨t125, A130, H⟩ := H
   try dsimp only at H
   have A13 := Aside0.mk A130
   clear A130
   refine neg_first (p := (4 + t125.size ≤ 9223372036854775807)) (fun c14 => ?_) (fun c14 => ?_)
   ·rw [if_neg c14] at H
    exact absurd H (by simp)
   rw [if_pos c14] at H
   have c14b0 := eq_true c14
   have c14b1 : decide (4 + t125.size ≤ 9223372036854775807) = true := decide_eq_true c14
   try have c14b2 : (9223372036854775807 < 4 + t125.size) = False := eq_false (Nat.not_lt.2 c14)
   obtain ⟨y126, hy126⟩ : ∃ y_ : List Int, y_ = (([(a0_1) % 256, ((wrap64 (1 + t124))) % 256, x5_4, ((l0_0.length : Int)) % 256] : List Int)) := ⟨_, rfl⟩
   replace H : (if ((⟨#[72, 71, 82, 84]⟩ : ByteArray) ++ t125).size + (strOfNums y126).size ≤ 9223372036854775807 then (image_Encode.l0 kj4 (((⟨#[72, 71, 82, 84]⟩ : ByteArray) ++ t125) ++ (strOfNums y126)) l0_0 (l0_0.length : Int) 0) else (none)) = some (r1, r2) := by first | (rw [hy126]; with_reducible exact H) | (have H2_ := (Option.bind_some _ _).symm.trans H; rw [hy126]; with_reducible exact H2_) | (have H2_ := (Option.bind_some _ _).symm.trans H; with_reducible exact H2_) | with_reducible exact H | (rw [hy126]; exact H) | exact H
   have Ny126 := Aside0.mk hy126
   clear hy126
   refine neg_first (p := (((⟨#[72, 71, 82, 84]⟩ : ByteArray) ++ t125).size + (strOfNums y126).size ≤ 9223372036854775807)) (fun c15 => ?_) (fun c15 => ?_)
   ·rw [if_neg c15] at H
    exact absurd H (by simp)
   rw [if_pos c15] at H
   have c15b0 := eq_true c15
   have c15b1 : decide (((⟨#[72, 71, 82, 84]⟩ : ByteArray) ++ t125).size + (strOfNums y126).size ≤ 9223372036854775807) = true := decide_eq_true c15
   try have c15b2 : (9223372036854775807 < ((⟨#[72, 71, 82, 84]⟩ : ByteArray) ++ t125).size + (strOfNums y126).size) = False := eq_false (Nat.not_lt.2 c15)
   (try have c15b4 : (9223372036854775807 < (⟨#[72, 71, 82, 84]⟩ : ByteArray).size + t125.size + (strOfNums y126).size) = False := eq_false (by have h_ := c15; simp only [ByteArray.size_append, ByteArray.size_extract] at h_; omega)); (try have c15b5 : (9223372036854775807 < 4 + t125.size + (strOfNums y126).size) = False := eq_false (by have h_ := c15; simp only [ByteArray.size_append] at h_; have e0_ : (⟨#[72, 71, 82, 84]⟩ : ByteArray).size = 4 := rfl; omega))
   have H' := Aside0.mk H
   clear H
   try go_wp2
   have n0_ := Aside0.mk (blk_drew BK122.out)
   have n1_ := Aside0.mk (below_drew1 HB.out)
   clear BK122
   clear HB
   have BK122 := n0_
   have HB := n1_
   clear n0_ n1_
   refine start_ (n := 20) (S := fun w' => w'.cell? ⟨gb122, 0, none⟩ = some (.slice A0_0 l0_0.length c0_0) ∧ w'.cell? ⟨gb122, 1, none⟩ = some (.int .i64 a0_1) ∧ w'.cell? ⟨gb122, 2, none⟩ = some (.string a0_2) ∧ w'.cell? ⟨gb122, 3, none⟩ = some (.int .u32 a0_3) ∧ w'.cell? ⟨gb122, 4, none⟩ = some (.bool a0_4)) (ds := []) d11x0 (by kernel_rfl) rfl rfl ⟨(blk_cell BK122.out 0).trans rfl, (blk_cell BK122.out 1).trans rfl, (blk_cell BK122.out 2).trans rfl, (blk_cell BK122.out 3).trans rfl, (blk_cell BK122.out 4).trans rfl⟩ (fun hHeld => ?_); refine with_tabW image_Encode.tab7 image_Encode.bits7 (fun HT_ HW_ => ?_)
   generalize wc.drew = w16 at BK122 HB hHeld ⊢
   refine pon_ 0 (some 19) d11x2 HT_.out ?_
   refine pon_ 5 (some 24) d11x4 HT_.out ?_
   refine pon_ 6 (some 25) d11x5 HT_.out ?_
   refine pon_ 9 (some 28) d11x6 HT_.out ?_
   refine pon_ 10 (some 29) d11x7 HT_.out ?_
   refine pon_ 11 (some 30) d11x8 HT_.out ?_
   refine pon_ 12 (some 31) d11x9 HT_.out ?_
   refine ptk_ 1 (some 20) d11x11 HT_.out HW_.out hHeld ?_
   refine pon_ 2 (some 21) d11x14 HT_.out ?_
   refine ptk_ 7 (some 26) d11x15 HT_.out HW_.out hHeld ?_
   refine pon_ 8 (some 27) d11x16 HT_.out ?_
   refine ptk_ 13 (some 32) d11x17 HT_.out HW_.out hHeld ?_
   refine pon_ 14 (some 33) d11x18 HT_.out ?_
   refine pon_ 15 (some 34) d11x19 HT_.out ?_
   refine join_ (σ := Value) 2 d11x40 (fun s_ => [(22, .string t125), (35, s_), (36, .string (strOfNums y126)), (23, .string ((⟨#[72, 71, 82, 84]⟩ : ByteArray) ++ t125))]) (fun s_ w' => (w'.cell? ⟨gb122, 0, none⟩ = some (.slice A0_0 l0_0.length c0_0) ∧ w'.cell? ⟨gb122, 1, none⟩ = some (.int .i64 a0_1) ∧ w'.cell? ⟨gb122, 2, none⟩ = some (.string a0_2) ∧ w'.cell? ⟨gb122, 3, none⟩ = some (.int .u32 a0_3) ∧ w'.cell? ⟨gb122, 4, none⟩ = some (.bool a0_4)) ∧ (Kd.R (Kd.int .u8) 5 w' w.heap.size (fun _ => True) s_ y126) ∧ (w'.heap[gb122]? = some (.cells #[.slice A0_0 l0_0.length c0_0, .int .i64 a0_1, .string a0_2, .int .u32 a0_3, .bool a0_4] 27 (0, 0))) ∧ (Below w.heap.size w w')) ?_ ?_
   rotate_left
   ·intro hCont
    refine two_ (i := 3) (j := 16) (Ni := some 22) (Nj := some 35) d11x29 d11x20 rfl rfl rfl rfl (two_of HT_.out (by kernel_rfl)) (by decide) (by decide) (fun K hK => ?_) (fun K hK => ?_)
    ·skip
     refine goes_ Tryd.func19 (by kernel_rfl) rfl #[.int .u64 (IntKind.u64.wrap (a0_3)), .int .i64 4] (by rfl) rfl rfl (by (try simp only [List.map_toArray, List.map_cons, List.map_nil]); first | done | rfl | (simp only [List.length_drop, List.length_take]; rfl)) ?_
     with_reducible refine (fields_PutBig.calls kj4 (IntKind.u64.wrap (a0_3)) 4 t125 _ A13.out).mono ?_
     rintro e w17 ⟨rfl, hb⟩
     refine ⟨_, rfl, ?_⟩
     have n0_ := Aside0.mk (blk_below (bk_ BK122) hb)
     have n1_ := Aside0.mk (below_step (hb_ HB) hb)
     clear BK122
     clear HB
     have BK122 := n0_
     have HB := n1_
     clear n0_ n1_
     (try clear hb)
     (try clear hb2)
     (try clear hk)
     (try clear hi)
     refine hK.out _ _ ⟨(blk_cell BK122.out 0).trans rfl, (blk_cell BK122.out 1).trans rfl, (blk_cell BK122.out 2).trans rfl, (blk_cell BK122.out 3).trans rfl, (blk_cell BK122.out 4).trans rfl⟩ (fun hHeld => ?_)
     clear hK K
     refine norm_ (a' := ?_) ?_ ?_
     rotate_left
     ·show Act.put _ (some 22) _ = _
      simp only [Act.put, la_, lb_, lc_, i64_w, i32_w]
      rfl
     refine pon_ 4 (some 23) d11x38 HT_.out ?_
     refine one_ (i := 16) (N := some 35) d11x39 rfl rfl (one_of HT_.out (by kernel_rfl)) (by decide) (fun K hK => ?_)
     refine Kd.R_lit_step (Kd.int .u8) _ 5 ?hg (N := 35) ?hd (xs := ([(a0_1) % 256, ((wrap64 (1 + t124))) % 256, x5_4, ((l0_0.length : Int)) % 256] : List Int)) (inner := [.int .u8 ((a0_1) % 256), .int .u8 (((wrap64 (1 + t124))) % 256), .int .u8 x5_4, .int .u8 (((l0_0.length : Int)) % 256)]) (ok := fun _ => True) (okp := fun _ => True) ?hr ?hp (fun _ hk => hk) trivial (Below.refl _ _) (Nat.le_refl _) (by simp) ?_; (case hd => rfl); (case hg => rfl); (case hr => first | (go_simp; done) | (go_simp; rfl)); (case hp => exact (Reps.one (show Kd.M (Kd.int .u8) _ _ _ ((a0_1) % 256) [.int .u8 ((a0_1) % 256)] from rfl) (Reps.one (show Kd.M (Kd.int .u8) _ _ _ (((wrap64 (1 + t124))) % 256) [.int .u8 (((wrap64 (1 + t124))) % 256)] from rfl) (Reps.one (show Kd.M (Kd.int .u8) _ _ _ x5_4 [.int .u8 x5_4] from rfl) (Reps.one (show Kd.M (Kd.int .u8) _ _ _ (((l0_0.length : Int)) % 256) [.int .u8 (((l0_0.length : Int)) % 256)] from rfl) (Reps.none _ _))))))
     intro v127 w18 ho19 hb hg_ hnew_
     clear hg_ hnew_
     (first | rw [← Ny126.out] at ho19 | (simp only [Int.reduceToNat] at ho19; rw [← Ny126.out] at ho19))
     have n0_ := Aside0.mk (Kd.R_lower ho19 (below_size (hb_ HB)))
     have n1_ := Aside0.mk (blk_below (bk_ BK122) hb)
     have n2_ := Aside0.mk (below_step (hb_ HB) hb)
     clear BK122
     clear HB
     have HO128 := n0_
     have BK122 := n1_
     have HB := n2_
     clear n0_ n1_ n2_
     clear hb ho19
     refine hK.out _ _ ⟨(blk_cell BK122.out 0).trans rfl, (blk_cell BK122.out 1).trans rfl, (blk_cell BK122.out 2).trans rfl, (blk_cell BK122.out 3).trans rfl, (blk_cell BK122.out 4).trans rfl⟩ (fun hHeld => ?_)
     clear hK K
     refine norm_ (a' := ?_) ?_ ?_
     rotate_left
     ·show Act.put _ (some 35) _ = _
      simp only [Act.put, la_, lb_, lc_, i64_w, i32_w]
      rfl
     refine one_ (i := 17) (N := some 36) d11x40 rfl rfl (one_of HT_.out (by kernel_rfl)) (by decide) (fun K hK => ?_)
     have hcv20 := own_string (P := Tryd.prog) Tryd.underlying44 Tryd.underlying5 Tryd.underlying9 (Kd.own_of_R HO128.out)
     refine value_ (w1 := ?_) (v := ?_) (by rfl) rfl ?_ ?_
     rotate_left 2
     ·go_simp
      constructor
      ·rfl
      ·rfl
     clear hcv20
     refine hK.out _ _ ⟨(blk_cell BK122.out 0).trans rfl, (blk_cell BK122.out 1).trans rfl, (blk_cell BK122.out 2).trans rfl, (blk_cell BK122.out 3).trans rfl, (blk_cell BK122.out 4).trans rfl⟩ (fun hHeld => ?_)
     clear hK K
     refine norm_ (a' := ?_) ?_ ?_
     rotate_left
     ·show Act.put _ (some 36) _ = _
      simp only [Act.put, la_, lb_, lc_, i64_w, i32_w]
      rfl
     exact norm_ (by simp only [putAll, Act.put, la_, lb_, lc_]) (hCont (v127) _ ⟨hHeld, (by (with_reducible repeat (first | apply Kd.R_alloc | apply Kd.R_drewN | apply Kd.R_drew)); exact HO128.out), (bk_ BK122), (hb_ HB)⟩)
    ·skip
     refine Kd.R_lit_step (Kd.int .u8) _ 5 ?hg (N := 35) ?hd (xs := ([(a0_1) % 256, ((wrap64 (1 + t124))) % 256, x5_4, ((l0_0.length : Int)) % 256] : List Int)) (inner := [.int .u8 ((a0_1) % 256), .int .u8 (((wrap64 (1 + t124))) % 256), .int .u8 x5_4, .int .u8 (((l0_0.length : Int)) % 256)]) (ok := fun _ => True) (okp := fun _ => True) ?hr ?hp (fun _ hk => hk) trivial (Below.refl _ _) (Nat.le_refl _) (by simp) ?_; (case hd => rfl); (case hg => rfl); (case hr => first | (go_simp; done) | (go_simp; rfl)); (case hp => exact (Reps.one (show Kd.M (Kd.int .u8) _ _ _ ((a0_1) % 256) [.int .u8 ((a0_1) % 256)] from rfl) (Reps.one (show Kd.M (Kd.int .u8) _ _ _ (((wrap64 (1 + t124))) % 256) [.int .u8 (((wrap64 (1 + t124))) % 256)] from rfl) (Reps.one (show Kd.M (Kd.int .u8) _ _ _ x5_4 [.int .u8 x5_4] from rfl) (Reps.one (show Kd.M (Kd.int .u8) _ _ _ (((l0_0.length : Int)) % 256) [.int .u8 (((l0_0.length : Int)) % 256)] from rfl) (Reps.none _ _))))))
     intro v127 w17 ho18 hb hg_ hnew_
     clear hg_ hnew_
     (first | rw [← Ny126.out] at ho18 | (simp only [Int.reduceToNat] at ho18; rw [← Ny126.out] at ho18))
     have n0_ := Aside0.mk (Kd.R_lower ho18 (below_size (hb_ HB)))
     have n1_ := Aside0.mk (blk_below (bk_ BK122) hb)
     have n2_ := Aside0.mk (below_step (hb_ HB) hb)
     clear BK122
     clear HB
     have HO128 := n0_
     have BK122 := n1_
     have HB := n2_
     clear n0_ n1_ n2_
     clear hb ho18
     refine hK.out _ _ ⟨(blk_cell BK122.out 0).trans rfl, (blk_cell BK122.out 1).trans rfl, (blk_cell BK122.out 2).trans rfl, (blk_cell BK122.out 3).trans rfl, (blk_cell BK122.out 4).trans rfl⟩ (fun hHeld => ?_)
     clear hK K
     refine norm_ (a' := ?_) ?_ ?_
     rotate_left
     ·show Act.put _ (some 35) _ = _
      simp only [Act.put, la_, lb_, lc_, i64_w, i32_w]
      rfl
     refine two_ (i := 3) (j := 17) (Ni := some 22) (Nj := some 36) d11x30 d11x21 rfl rfl rfl rfl (two_of HT_.out (by kernel_rfl)) (by decide) (by decide) (fun K hK => ?_) (fun K hK => ?_)
     ·skip
      refine goes_ Tryd.func19 (by kernel_rfl) rfl #[.int .u64 (IntKind.u64.wrap (a0_3)), .int .i64 4] (by rfl) rfl rfl (by (try simp only [List.map_toArray, List.map_cons, List.map_nil]); first | done | rfl | (simp only [List.length_drop, List.length_take]; rfl)) ?_
      with_reducible refine (fields_PutBig.calls kj4 (IntKind.u64.wrap (a0_3)) 4 t125 _ A13.out).mono ?_
      rintro e w19 ⟨rfl, hb⟩
      refine ⟨_, rfl, ?_⟩
      have n0_ := Aside0.mk (Kd.R_below (by (with_reducible repeat (first | apply Kd.R_alloc | apply Kd.R_drewN | apply Kd.R_drew)); exact HO128.out) hb)
      have n1_ := Aside0.mk (blk_below (bk_ BK122) hb)
      have n2_ := Aside0.mk (below_step (hb_ HB) hb)
      clear HO128
      clear BK122
      clear HB
      have HO128 := n0_
      have BK122 := n1_
      have HB := n2_
      clear n0_ n1_ n2_
      (try clear hb)
      (try clear hb2)
      (try clear hk)
      (try clear hi)
      refine hK.out _ _ ⟨(blk_cell BK122.out 0).trans rfl, (blk_cell BK122.out 1).trans rfl, (blk_cell BK122.out 2).trans rfl, (blk_cell BK122.out 3).trans rfl, (blk_cell BK122.out 4).trans rfl⟩ (fun hHeld => ?_)
      clear hK K
      refine norm_ (a' := ?_) ?_ ?_
      rotate_left
      ·show Act.put _ (some 22) _ = _
       simp only [Act.put, la_, lb_, lc_, i64_w, i32_w]
       rfl
      refine pon_ 4 (some 23) d11x39 HT_.out ?_
      refine one_ (i := 17) (N := some 36) d11x40 rfl rfl (one_of HT_.out (by kernel_rfl)) (by decide) (fun K hK => ?_)
      have hcv20 := own_string (P := Tryd.prog) Tryd.underlying44 Tryd.underlying5 Tryd.underlying9 (Kd.own_of_R HO128.out)
      refine value_ (w1 := ?_) (v := ?_) (by rfl) rfl ?_ ?_
      rotate_left 2
      ·go_simp
       constructor
       ·rfl
       ·rfl
      clear hcv20
      refine hK.out _ _ ⟨(blk_cell BK122.out 0).trans rfl, (blk_cell BK122.out 1).trans rfl, (blk_cell BK122.out 2).trans rfl, (blk_cell BK122.out 3).trans rfl, (blk_cell BK122.out 4).trans rfl⟩ (fun hHeld => ?_)
      clear hK K
      refine norm_ (a' := ?_) ?_ ?_
      rotate_left
      ·show Act.put _ (some 36) _ = _
       simp only [Act.put, la_, lb_, lc_, i64_w, i32_w]
       rfl
      exact norm_ (by simp only [putAll, Act.put, la_, lb_, lc_]) (hCont (v127) _ ⟨hHeld, (by (with_reducible repeat (first | apply Kd.R_alloc | apply Kd.R_drewN | apply Kd.R_drew)); exact HO128.out), (bk_ BK122), (hb_ HB)⟩)
     ·skip
      have hcv19 := own_string (P := Tryd.prog) Tryd.underlying44 Tryd.underlying5 Tryd.underlying9 (Kd.own_of_R HO128.out)
      refine value_ (w1 := ?_) (v := ?_) (by rfl) rfl ?_ ?_
      rotate_left 2
      ·go_simp
       constructor
       ·rfl
       ·rfl
      clear hcv19
      refine hK.out _ _ ⟨(blk_cell BK122.out 0).trans rfl, (blk_cell BK122.out 1).trans rfl, (blk_cell BK122.out 2).trans rfl, (blk_cell BK122.out 3).trans rfl, (blk_cell BK122.out 4).trans rfl⟩ (fun hHeld => ?_)
      clear hK K
      refine norm_ (a' := ?_) ?_ ?_
      rotate_left
      ·show Act.put _ (some 36) _ = _
       simp only [Act.put, la_, lb_, lc_, i64_w, i32_w]
       rfl
      refine one_ (i := 3) (N := some 22) d11x31 rfl rfl (one_of HT_.out (by kernel_rfl)) (by decide) (fun K hK => ?_)
      refine goes_ Tryd.func19 (by kernel_rfl) rfl #[.int .u64 (IntKind.u64.wrap (a0_3)), .int .i64 4] (by rfl) rfl rfl (by (try simp only [List.map_toArray, List.map_cons, List.map_nil]); first | done | rfl | (simp only [List.length_drop, List.length_take]; rfl)) ?_
      with_reducible refine (fields_PutBig.calls kj4 (IntKind.u64.wrap (a0_3)) 4 t125 _ A13.out).mono ?_
      rintro e w20 ⟨rfl, hb⟩
      refine ⟨_, rfl, ?_⟩
      have n0_ := Aside0.mk (Kd.R_below (by (with_reducible repeat (first | apply Kd.R_alloc | apply Kd.R_drewN | apply Kd.R_drew)); exact HO128.out) hb)
      have n1_ := Aside0.mk (blk_below (bk_ BK122) hb)
      have n2_ := Aside0.mk (below_step (hb_ HB) hb)
      clear HO128
      clear BK122
      clear HB
      have HO128 := n0_
      have BK122 := n1_
      have HB := n2_
      clear n0_ n1_ n2_
      (try clear hb)
      (try clear hb2)
      (try clear hk)
      (try clear hi)
      refine hK.out _ _ ⟨(blk_cell BK122.out 0).trans rfl, (blk_cell BK122.out 1).trans rfl, (blk_cell BK122.out 2).trans rfl, (blk_cell BK122.out 3).trans rfl, (blk_cell BK122.out 4).trans rfl⟩ (fun hHeld => ?_)
      clear hK K
      refine norm_ (a' := ?_) ?_ ?_
      rotate_left
      ·show Act.put _ (some 22) _ = _
       simp only [Act.put, la_, lb_, lc_, i64_w, i32_w]
       rfl
      refine pon_ 4 (some 23) d11x40 HT_.out ?_
      exact norm_ (by simp only [putAll, Act.put, la_, lb_, lc_]) (hCont (v127) _ ⟨hHeld, (by (with_reducible repeat (first | apply Kd.R_alloc | apply Kd.R_drewN | apply Kd.R_drew)); exact HO128.out), (bk_ BK122), (hb_ HB)⟩)
   rintro v127 w21 ⟨hS_, h0_, h1_, h2_⟩
   have n0_ : Aside0 (Kd.R (Kd.int .u8) 5 w21 w.heap.size (fun _ => True) v127 y126) := ⟨h0_⟩
   have n1_ : Aside0 (w21.heap[gb122]? = some (.cells #[.slice A0_0 l0_0.length c0_0, .int .i64 a0_1, .string a0_2, .int .u32 a0_3, .bool a0_4] 27 (0, 0))) := ⟨h1_⟩
   have n2_ : Aside0 (Below w.heap.size w w21) := ⟨h2_⟩
   clear BK122
   clear HB
   clear h0_ h1_ h2_
   have HO128 := n0_
   have BK122 := n1_
   have HB := n2_
   clear n0_ n1_ n2_
   have hHeld : w21.cell? ⟨gb122, 0, none⟩ = some (.slice A0_0 l0_0.length c0_0) ∧ w21.cell? ⟨gb122, 1, none⟩ = some (.int .i64 a0_1) ∧ w21.cell? ⟨gb122, 2, none⟩ = some (.string a0_2) ∧ w21.cell? ⟨gb122, 3, none⟩ = some (.int .u32 a0_3) ∧ w21.cell? ⟨gb122, 4, none⟩ = some (.bool a0_4) := hS_
   refine norm_ (a' := ?_) ?_ ?_
   rotate_left
   ·simp only [putAll, Act.put, la_, lb_, lc_]
    rfl
   refine pon_ 18 (some 37) d11x41 HT_.out ?_
   refine pon_ 19 (some 6) d11x42 HT_.out ?_
   refine done_ (done_of HT_.out (by kernel_rfl)) ?_
   have hcz22_0 : w21.cell? ⟨gb122, 0, none⟩ = some (.slice A0_0 l0_0.length c0_0) := (blk_cell BK122.out 0).trans rfl
   have hcz22_1 : w21.cell? ⟨gb122, 1, none⟩ = some (.int .i64 a0_1) := (blk_cell BK122.out 1).trans rfl
   have hcz22_2 : w21.cell? ⟨gb122, 2, none⟩ = some (.string a0_2) := (blk_cell BK122.out 2).trans rfl
   have hcz22_3 : w21.cell? ⟨gb122, 3, none⟩ = some (.int .u32 a0_3) := (blk_cell BK122.out 3).trans rfl
   have hcz22_4 : w21.cell? ⟨gb122, 4, none⟩ = some (.bool a0_4) := (blk_cell BK122.out 4).trans rfl
   have hfz22_0 := blk_frozen BK122.out 0
   have hfz22_1 := blk_frozen BK122.out 1
   have hfz22_2 := blk_frozen BK122.out 2
   have hfz22_3 := blk_frozen BK122.out 3
   have hfz22_4 := blk_frozen BK122.out 4
   try go_wp2
   go_loopg [6, 41] kj4 (fun kq v6 v41 w' => ∃ (x6_2 : ByteArray) (x41_2 : Int), v6 = .string x6_2 ∧ v41 = .int .i64 x41_2 ∧ Aside0 (image_Encode.l0 kq x6_2 l0_0 (l0_0.length : Int) x41_2 = some (r1, r2)) ∧ Aside0 (kq ≤ kj4) ∧ Aside0 (w'.heap[gb122]? = some (.cells #[(.slice A0_0 l0_0.length c0_0), .int .i64 a0_1, .string a0_2, .int .u32 a0_3, .bool a0_4] 27 (0, 0))) ∧ Aside0 (Below w.heap.size w w'))
   case atStart => exact ⟨(((⟨#[72, 71, 82, 84]⟩ : ByteArray) ++ t125) ++ (strOfNums y126)), (0), (by first | rfl | (simp; done) | (simp [*]; done)), (by first | rfl | (simp; done) | (simp [*]; done)), H', ⟨Nat.le_refl _⟩, ⟨bk_ BK122⟩, ⟨hb_ HB⟩⟩
   case round =>
    clear H'
    try clear c1
    try clear hcv1
    try clear p2
    try clear hcv2
    try clear c3
    try clear p6
    try clear c11
    try clear c12
    try clear c14
    try clear c14b0
    try clear c14b1
    try clear c14b2
    try clear c15
    try clear c15b0
    try clear c15b1
    try clear c15b2
    try clear c16
    try clear c17
    try clear c19
    try clear hcv19
    try clear hcv20
    try clear hcz11_0
    try clear hcz11_1
    try clear hcz11_2
    try clear hcz11_3
    try clear hcz11_4
    try clear hcz22_0
    try clear hcz22_1
    try clear hcz22_2
    try clear hcz22_3
    try clear hcz22_4
    try clear hcz7_0
    try clear hcz7_1
    try clear hcz7_2
    try clear hcz7_3
    try clear hcz7_4
    try clear hcz9_0
    try clear hcz9_1
    try clear hcz9_2
    try clear hcz9_3
    try clear hcz9_4
    try clear hfz11_0
    try clear hfz11_1
    try clear hfz11_2
    try clear hfz11_3
    try clear hfz11_4
    try clear hfz22_0
    try clear hfz22_1
    try clear hfz22_2
    try clear hfz22_3
    try clear hfz22_4
    try clear hfz7_0
    try clear hfz7_1
    try clear hfz7_2
    try clear hfz7_3
    try clear hfz7_4
    try clear hfz9_0
    try clear hfz9_1
    try clear hfz9_2
    try clear hfz9_3
    try clear hfz9_4
    try clear p2
    try clear p6
    obtain ⟨x6_2, x41_2, rfl, rfl, HA, HK2, BK122, HB⟩ := hrel
    cases gk with
    | zero => exact absurd HA.out (by simp [image_Encode.l0])
    | succ k2 =>
     have H := HA.out
     clear HA
     simp only [image_Encode.l0] at H
     refine neg_first (p := (x41_2 < (l0_0.length : Int))) (fun c23 => ?_) (fun c23 => ?_)
     ·rw [if_neg c23] at H
      have c23b0 : decide (x41_2 < (l0_0.length : Int)) = false := decide_eq_false c23
      clear c23
      replace H := Option.bind_eq_some_iff.mp H
      obtain ⟨t135, A400, H⟩ := H
      try dsimp only at H
      have A40 := Aside0.mk A400
      clear A400
      refine neg_first (p := (x6_2.size + t135.size ≤ 9223372036854775807)) (fun c41 => ?_) (fun c41 => ?_)
      ·rw [if_neg c41] at H
       exact absurd H (by simp)
      rw [if_pos c41] at H
      have c41b0 := eq_true c41
      have c41b1 : decide (x6_2.size + t135.size ≤ 9223372036854775807) = true := decide_eq_true c41
      try have c41b2 : (9223372036854775807 < x6_2.size + t135.size) = False := eq_false (Nat.not_lt.2 c41)
      simp only [Option.some.injEq, Prod.mk.injEq] at H
      obtain ⟨rfl, rfl⟩ := H
      go_wp2_with (first | ((with_reducible refine gate_callee (f := 20) rfl ?_); refine goesL_ (some 63) rfl rfl Tryd.func20 (by kernel_rfl) rfl #[.string x6_2] rfl (by (try simp only [List.map_toArray, List.map_cons, List.map_nil]); first | done | rfl | (simp only [List.length_drop, List.length_take]; rfl)) ?_; (with_reducible refine (crc_Digest.calls k2 x6_2 t135 _ ?side1 A40.out).mono ?_); (case side1 => first | ((refine Glob.keep HG.out ?_); (repeat (first | (with_reducible first | exact HB.out | apply below_alloc | apply pw_below_drewN | apply below_drew1 | refine below_set ?_ GE122.out) | exact HB.out)); done) | exact HG.out); rintro e w42 ⟨rfl, hb⟩; refine ⟨_, rfl, ?_⟩; have n0_ := Aside0.mk (blk_below (bk_ BK122) hb); have n1_ := Aside0.mk (below_step (hb_ HB) hb); clear BK122; clear HB; have BK122 := n0_; have HB := n1_; clear n0_ n1_; (try clear hb); (try clear hb2); (try clear hk); (try clear hi)))
      go_ret2
      exact ⟨by first | rfl | (simp [errW_none, errW_some] <;> rfl) | (simp [*, errW_none, errW_some] <;> rfl) | (simp [bt, *]; done) | (unfold bt; simp [*]; done), by repeat (first | (with_reducible first | exact HB.out | apply below_alloc | apply pw_below_drewN | apply below_drew1 | refine below_set ?_ GE122.out) | exact HB.out)⟩
     rw [if_pos c23] at H
     have c23b0 : decide (x41_2 < (l0_0.length : Int)) = true := decide_eq_true c23
     clear c23
     refine neg_first (p := (0 ≤ x41_2)) (fun c24 => ?_) (fun c24 => ?_)
     ·rw [if_neg c24] at H
      exact absurd H (by simp)
     rw [if_pos c24] at H
     have c24b0 : decide (0 ≤ x41_2) = true := decide_eq_true c24
     clear c24
     refine neg_first (p := (x41_2 < (l0_0.length : Int))) (fun c25 => ?_) (fun c25 => ?_)
     ·rw [if_neg c25] at H
      exact absurd H (by simp)
     rw [if_pos c25] at H
     have c25b0 : decide (x41_2 < (l0_0.length : Int)) = true := decide_eq_true c25
     clear c25
     replace H := Option.bind_eq_some_iff.mp H
     obtain ⟨t131, A260, H⟩ := H
     try dsimp only at H
     have A26 := Aside0.mk A260
     clear A260
     obtain ⟨y132, hy132⟩ : ∃ y_ : List Int, y_ = (([((((rd_T48 l0_0 x41_2).f0).size : Int)) % 256] : List Int)) := ⟨_, rfl⟩
     replace H : (if t131.size + (strOfNums y132).size ≤ 9223372036854775807 then (if (t131 ++ (strOfNums y132)).size + ((rd_T48 l0_0 x41_2).f0).size ≤ 9223372036854775807 then (if x6_2.size + ((t131 ++ (strOfNums y132)) ++ ((rd_T48 l0_0 x41_2).f0)).size ≤ 9223372036854775807 then (image_Encode.l0 k2 (x6_2 ++ ((t131 ++ (strOfNums y132)) ++ ((rd_T48 l0_0 x41_2).f0))) l0_0 (l0_0.length : Int) (wrap64 (x41_2 + 1))) else (none)) else (none)) else (none)) = some (r1, r2) := by first | (rw [hy132]; with_reducible exact H) | (have H2_ := (Option.bind_some _ _).symm.trans H; rw [hy132]; with_reducible exact H2_) | (have H2_ := (Option.bind_some _ _).symm.trans H; with_reducible exact H2_) | with_reducible exact H | (rw [hy132]; exact H) | exact H
     have Ny132 := Aside0.mk hy132
     clear hy132
     refine neg_first (p := (t131.size + (strOfNums y132).size ≤ 9223372036854775807)) (fun c27 => ?_) (fun c27 => ?_)
     ·rw [if_neg c27] at H
      exact absurd H (by simp)
     rw [if_pos c27] at H
     have c27b0 := eq_true c27
     have c27b1 : decide (t131.size + (strOfNums y132).size ≤ 9223372036854775807) = true := decide_eq_true c27
     try have c27b2 : (9223372036854775807 < t131.size + (strOfNums y132).size) = False := eq_false (Nat.not_lt.2 c27)
     refine neg_first (p := ((t131 ++ (strOfNums y132)).size + ((rd_T48 l0_0 x41_2).f0).size ≤ 9223372036854775807)) (fun c28 => ?_) (fun c28 => ?_)
     ·rw [if_neg c28] at H
      exact absurd H (by simp)
     rw [if_pos c28] at H
     have c28b0 := eq_true c28
     have c28b1 : decide ((t131 ++ (strOfNums y132)).size + ((rd_T48 l0_0 x41_2).f0).size ≤ 9223372036854775807) = true := decide_eq_true c28
     try have c28b2 : (9223372036854775807 < (t131 ++ (strOfNums y132)).size + ((rd_T48 l0_0 x41_2).f0).size) = False := eq_false (Nat.not_lt.2 c28)
     (try have c28b4 : (9223372036854775807 < t131.size + (strOfNums y132).size + ((rd_T48 l0_0 x41_2).f0).size) = False := eq_false (by have h_ := c28; simp only [ByteArray.size_append, ByteArray.size_extract] at h_; omega))
     refine neg_first (p := (x6_2.size + ((t131 ++ (strOfNums y132)) ++ ((rd_T48 l0_0 x41_2).f0)).size ≤ 9223372036854775807)) (fun c29 => ?_) (fun c29 => ?_)
     ·rw [if_neg c29] at H
      exact absurd H (by simp)
     rw [if_pos c29] at H
     have c29b0 := eq_true c29
     have c29b1 : decide (x6_2.size + ((t131 ++ (strOfNums y132)) ++ ((rd_T48 l0_0 x41_2).f0)).size ≤ 9223372036854775807) = true := decide_eq_true c29
     try have c29b2 : (9223372036854775807 < x6_2.size + ((t131 ++ (strOfNums y132)) ++ ((rd_T48 l0_0 x41_2).f0)).size) = False := eq_false (Nat.not_lt.2 c29)
     (try have c29b4 : (9223372036854775807 < x6_2.size + t131.size + (strOfNums y132).size + ((rd_T48 l0_0 x41_2).f0).size) = False := eq_false (by have h_ := c29; simp only [ByteArray.size_append, ByteArray.size_extract] at h_; omega)); (try have c29b5 : (9223372036854775807 < x6_2.size + (t131.size + (strOfNums y132).size + ((rd_T48 l0_0 x41_2).f0).size)) = False := eq_false (by have h_ := c29; simp only [ByteArray.size_append] at h_; omega))
     have H' := Aside0.mk H
     clear H
     have p129 : 0 ≤ (x41_2 : Int) := of_decide_eq_true (by first | (with_reducible assumption) | assumption)
     have q129 : x41_2 < (l0_0.length : Int) := of_decide_eq_true (by first | (with_reducible assumption) | assumption)
     obtain ⟨ad129, e129, hx129_0, hx129_1⟩ := at_T48 HR0_0.out x41_2 p129 q129
     cases e129
     replace hx129_0 := (HB.out.cell (World.block_lt_of_cell? w _ hx129_0)).trans hx129_0
     replace hx129_1 := (HB.out.cell (World.block_lt_of_cell? w _ hx129_1)).trans hx129_1
     replace p129 := eq_true p129
     replace q129 := eq_true q129
     try go_wp2_with (first | ((with_reducible refine gate_dst (N := 8) rfl ?_); refine box_event ?hg (N := 8) ?hd (cs := #[.string (⟨#[]⟩ : ByteArray), .int .u64 0]) (t := 48) ?hr ?_; (case hd => rfl); (case hg => rfl); (case hr => first | (go_simp; done) | (go_simp; rfl)); intro gb130 hg w30 hbox hb; have n0_ := Aside0.mk (blk_below (bk_ BK122) hb); have n1_ := Aside0.mk (below_step (hb_ HB) hb); have n2_ := Aside0.mk (hbox); have n3_ := Aside0.mk ((by rw [hg]; exact (below_size (hb_ HB)) : w.heap.size ≤ gb130)); have n4_ := Aside0.mk ((by rw [hg]; exact (below_size (hb_ HB)) : w.heap.size ≤ gb130)); have n5_ := Aside0.mk ((by rw [hg]; exact Nat.ne_of_lt (blk_lt (g := gb122) (o := .cells #[.slice (some ad129) l0_0.length c0_0, .int .i64 a0_1, .string a0_2, .int .u32 a0_3, .bool a0_4] 27 (0, 0)) (bk_ BK122)) : gb122 ≠ gb130)); have n6_ := Aside0.mk ((by rw [hg]; exact Nat.ne_of_gt (blk_lt (g := gb122) (o := .cells #[.slice (some ad129) l0_0.length c0_0, .int .i64 a0_1, .string a0_2, .int .u32 a0_3, .bool a0_4] 27 (0, 0)) (bk_ BK122)) : gb130 ≠ gb122)); clear BK122; clear HB; have BK122 := n0_; have HB := n1_; have BK130 := n2_; have GW130 := n3_; have GE130 := n4_; have NB122_130 := n5_; have NB130_122 := n6_; clear n0_ n1_ n2_ n3_ n4_ n5_ n6_; clear hb hbox hg; have hnb31 := NB130_122.out; have hnc31 := NB122_130.out; have hcz32_0 : w30.cell? ⟨gb130, 0, none⟩ = some (.string (⟨#[]⟩ : ByteArray)) := (blk_cell BK130.out 0).trans rfl; have hcz32_1 : w30.cell? ⟨gb130, 1, none⟩ = some (.int .u64 0) := (blk_cell BK130.out 1).trans rfl; have hfz32_0 := blk_frozen BK130.out 0; have hfz32_1 := blk_frozen BK130.out 1))
     have n0_ : Aside0 (((w30.setCell ⟨gb130, 0, none⟩ (.string ((rd_T48 l0_0 x41_2).f0))).setCell ⟨gb130, 1, none⟩ (.int .u64 ((rd_T48 l0_0 x41_2).f1))).heap[gb122]? = some (.cells #[.slice (some ad129) l0_0.length c0_0, .int .i64 a0_1, .string a0_2, .int .u32 a0_3, .bool a0_4] 27 (0, 0))) := ⟨by (with_reducible repeat (first | refine blk_drewN ?_ _ | refine blk_drew ?_ | refine blk_alloc ?_ _ | refine blk_far ?_ NB122_130.out _)); exact BK122.out⟩
     have n1_ : Aside0 (((w30.setCell ⟨gb130, 0, none⟩ (.string ((rd_T48 l0_0 x41_2).f0))).setCell ⟨gb130, 1, none⟩ (.int .u64 ((rd_T48 l0_0 x41_2).f1))).heap[gb130]? = some (.cells #[.string ((rd_T48 l0_0 x41_2).f0), .int .u64 ((rd_T48 l0_0 x41_2).f1)] 48 (0, 0))) := ⟨by (with_reducible repeat (first | refine blk_drewN ?_ _ | refine blk_drew ?_ | refine blk_alloc ?_ _)); refine blk_put (cs := #[.string ((rd_T48 l0_0 x41_2).f0), .int .u64 0]) ?_ 1 _ rfl; (with_reducible repeat (first | refine blk_drewN ?_ _ | refine blk_drew ?_ | refine blk_alloc ?_ _)); refine blk_put (cs := #[.string (⟨#[]⟩ : ByteArray), .int .u64 0]) ?_ 0 _ rfl; (with_reducible repeat (first | refine blk_drewN ?_ _ | refine blk_drew ?_ | refine blk_alloc ?_ _)); exact BK130.out⟩
     have n2_ : Aside0 (Below w.heap.size w ((w30.setCell ⟨gb130, 0, none⟩ (.string ((rd_T48 l0_0 x41_2).f0))).setCell ⟨gb130, 1, none⟩ (.int .u64 ((rd_T48 l0_0 x41_2).f1)))) := ⟨hb_ HB⟩
     (try clear BK122)
     (try clear BK130)
     (try clear HB)
     generalize ((w30.setCell ⟨gb130, 0, none⟩ (.string ((rd_T48 l0_0 x41_2).f0))).setCell ⟨gb130, 1, none⟩ (.int .u64 ((rd_T48 l0_0 x41_2).f1))) = w33 at n0_ n1_ n2_ ⊢
     have BK122 := n0_
     have BK130 := n1_
     have HB := n2_
     clear n0_ n1_ n2_
     have n0_ := Aside0.mk (blk_drew BK122.out)
     have n1_ := Aside0.mk (blk_drew BK130.out)
     have n2_ := Aside0.mk (below_drew1 HB.out)
     clear BK122
     clear BK130
     clear HB
     have BK122 := n0_
     have BK130 := n1_
     have HB := n2_
     clear n0_ n1_ n2_
     refine start_ (n := 16) (S := fun w' => w'.cell? ⟨gb130, 0, none⟩ = some (.string ((rd_T48 l0_0 x41_2).f0)) ∧ w'.cell? ⟨gb130, 1, none⟩ = some (.int .u64 ((rd_T48 l0_0 x41_2).f1))) (ds := []) d11x1 (by kernel_rfl) rfl rfl ⟨(blk_cell BK130.out 0).trans rfl, (blk_cell BK130.out 1).trans rfl⟩ (fun hHeld => ?_); refine with_tabW image_Encode.tab11 image_Encode.bits11 (fun HT_ HW_ => ?_)
     generalize w33.drew = w34 at BK122 BK130 HB hHeld ⊢
     refine pon_ 0 (some 45) d11x3 HT_.out ?_
     refine pon_ 1 (some 46) d11x10 HT_.out ?_
     refine pon_ 4 (some 49) d11x12 HT_.out ?_
     refine pon_ 11 (some 56) d11x13 HT_.out ?_
     refine ptk_ 2 (some 47) d11x22 HT_.out HW_.out hHeld ?_
     refine ptk_ 5 (some 50) d11x23 HT_.out HW_.out hHeld ?_
     refine pon_ 6 (some 51) d11x24 HT_.out ?_
     refine pon_ 7 (some 52) d11x25 HT_.out ?_
     refine ptk_ 12 (some 57) d11x26 HT_.out HW_.out hHeld ?_
     refine join_ (σ := Value) 4 d11x34 (fun s_ => [(48, .string t131), (53, s_), (54, .string (strOfNums y132))]) (fun s_ w' => (w'.cell? ⟨gb130, 0, none⟩ = some (.string ((rd_T48 l0_0 x41_2).f0)) ∧ w'.cell? ⟨gb130, 1, none⟩ = some (.int .u64 ((rd_T48 l0_0 x41_2).f1))) ∧ (Kd.R (Kd.int .u8) 5 w' w.heap.size (fun _ => True) s_ y132) ∧ (w'.heap[gb122]? = some (.cells #[.slice (some ad129) l0_0.length c0_0, .int .i64 a0_1, .string a0_2, .int .u32 a0_3, .bool a0_4] 27 (0, 0))) ∧ (w'.heap[gb130]? = some (.cells #[.string ((rd_T48 l0_0 x41_2).f0), .int .u64 ((rd_T48 l0_0 x41_2).f1)] 48 (0, 0))) ∧ (Below w.heap.size w w')) ?_ ?_
     rotate_left
     ·intro hCont
      refine two_ (i := 3) (j := 8) (Ni := some 48) (Nj := some 53) d11x32 d11x27 rfl rfl rfl rfl (two_of HT_.out (by kernel_rfl)) (by decide) (by decide) (fun K hK => ?_) (fun K hK => ?_)
      ·skip
       refine goes_ Tryd.func19 (by kernel_rfl) rfl #[.int .u64 ((rd_T48 l0_0 x41_2).f1), .int .i64 8] (by rfl) rfl rfl (by (try simp only [List.map_toArray, List.map_cons, List.map_nil]); first | done | rfl | (simp only [List.length_drop, List.length_take]; rfl)) ?_
       with_reducible refine (fields_PutBig.calls k2 ((rd_T48 l0_0 x41_2).f1) 8 t131 _ A26.out).mono ?_
       rintro e w35 ⟨rfl, hb⟩
       refine ⟨_, rfl, ?_⟩
       have n0_ := Aside0.mk (blk_below (bk_ BK122) hb)
       have n1_ := Aside0.mk (blk_below (bk_ BK130) hb)
       have n2_ := Aside0.mk (below_step (hb_ HB) hb)
       clear BK122
       clear BK130
       clear HB
       have BK122 := n0_
       have BK130 := n1_
       have HB := n2_
       clear n0_ n1_ n2_
       (try clear hb)
       (try clear hb2)
       (try clear hk)
       (try clear hi)
       refine hK.out _ _ ⟨(blk_cell BK130.out 0).trans rfl, (blk_cell BK130.out 1).trans rfl⟩ (fun hHeld => ?_)
       clear hK K
       refine norm_ (a' := ?_) ?_ ?_
       rotate_left
       ·show Act.put _ (some 48) _ = _
        simp only [Act.put, la_, lb_, lc_, i64_w, i32_w]
        rfl
       refine one_ (i := 8) (N := some 53) d11x33 rfl rfl (one_of HT_.out (by kernel_rfl)) (by decide) (fun K hK => ?_)
       refine Kd.R_lit_step (Kd.int .u8) _ 5 ?hg (N := 53) ?hd (xs := ([((((rd_T48 l0_0 x41_2).f0).size : Int)) % 256] : List Int)) (inner := [.int .u8 (((((rd_T48 l0_0 x41_2).f0).size : Int)) % 256)]) (ok := fun _ => True) (okp := fun _ => True) ?hr ?hp (fun _ hk => hk) trivial (Below.refl _ _) (Nat.le_refl _) (by simp) ?_; (case hd => rfl); (case hg => rfl); (case hr => first | (go_simp; done) | (go_simp; rfl)); (case hp => exact (Reps.one (show Kd.M (Kd.int .u8) _ _ _ (((((rd_T48 l0_0 x41_2).f0).size : Int)) % 256) [.int .u8 (((((rd_T48 l0_0 x41_2).f0).size : Int)) % 256)] from rfl) (Reps.none _ _)))
       intro v133 w36 ho37 hb hg_ hnew_
       clear hg_ hnew_
       (first | rw [← Ny132.out] at ho37 | (simp only [Int.reduceToNat] at ho37; rw [← Ny132.out] at ho37))
       have n0_ := Aside0.mk (Kd.R_lower ho37 (below_size (hb_ HB)))
       have n1_ := Aside0.mk (blk_below (bk_ BK122) hb)
       have n2_ := Aside0.mk (blk_below (bk_ BK130) hb)
       have n3_ := Aside0.mk (below_step (hb_ HB) hb)
       clear BK122
       clear BK130
       clear HB
       have HO134 := n0_
       have BK122 := n1_
       have BK130 := n2_
       have HB := n3_
       clear n0_ n1_ n2_ n3_
       clear hb ho37
       refine hK.out _ _ ⟨(blk_cell BK130.out 0).trans rfl, (blk_cell BK130.out 1).trans rfl⟩ (fun hHeld => ?_)
       clear hK K
       refine norm_ (a' := ?_) ?_ ?_
       rotate_left
       ·show Act.put _ (some 53) _ = _
        simp only [Act.put, la_, lb_, lc_, i64_w, i32_w]
        rfl
       refine one_ (i := 9) (N := some 54) d11x34 rfl rfl (one_of HT_.out (by kernel_rfl)) (by decide) (fun K hK => ?_)
       have hcv38 := own_string (P := Tryd.prog) Tryd.underlying44 Tryd.underlying5 Tryd.underlying9 (Kd.own_of_R HO134.out)
       refine value_ (w1 := ?_) (v := ?_) (by rfl) rfl ?_ ?_
       rotate_left 2
       ·go_simp
        constructor
        ·rfl
        ·rfl
       clear hcv38
       refine hK.out _ _ ⟨(blk_cell BK130.out 0).trans rfl, (blk_cell BK130.out 1).trans rfl⟩ (fun hHeld => ?_)
       clear hK K
       refine norm_ (a' := ?_) ?_ ?_
       rotate_left
       ·show Act.put _ (some 54) _ = _
        simp only [Act.put, la_, lb_, lc_, i64_w, i32_w]
        rfl
       exact norm_ (by simp only [putAll, Act.put, la_, lb_, lc_]) (hCont (v133) _ ⟨hHeld, (by (with_reducible repeat (first | apply Kd.R_alloc | apply Kd.R_drewN | apply Kd.R_drew)); exact HO134.out), (bk_ BK122), (bk_ BK130), (hb_ HB)⟩)
      ·skip
       refine Kd.R_lit_step (Kd.int .u8) _ 5 ?hg (N := 53) ?hd (xs := ([((((rd_T48 l0_0 x41_2).f0).size : Int)) % 256] : List Int)) (inner := [.int .u8 (((((rd_T48 l0_0 x41_2).f0).size : Int)) % 256)]) (ok := fun _ => True) (okp := fun _ => True) ?hr ?hp (fun _ hk => hk) trivial (Below.refl _ _) (Nat.le_refl _) (by simp) ?_; (case hd => rfl); (case hg => rfl); (case hr => first | (go_simp; done) | (go_simp; rfl)); (case hp => exact (Reps.one (show Kd.M (Kd.int .u8) _ _ _ (((((rd_T48 l0_0 x41_2).f0).size : Int)) % 256) [.int .u8 (((((rd_T48 l0_0 x41_2).f0).size : Int)) % 256)] from rfl) (Reps.none _ _)))
       intro v133 w35 ho36 hb hg_ hnew_
       clear hg_ hnew_
       (first | rw [← Ny132.out] at ho36 | (simp only [Int.reduceToNat] at ho36; rw [← Ny132.out] at ho36))
       have n0_ := Aside0.mk (Kd.R_lower ho36 (below_size (hb_ HB)))
       have n1_ := Aside0.mk (blk_below (bk_ BK122) hb)
       have n2_ := Aside0.mk (blk_below (bk_ BK130) hb)
       have n3_ := Aside0.mk (below_step (hb_ HB) hb)
       clear BK122
       clear BK130
       clear HB
       have HO134 := n0_
       have BK122 := n1_
       have BK130 := n2_
       have HB := n3_
       clear n0_ n1_ n2_ n3_
       clear hb ho36
       refine hK.out _ _ ⟨(blk_cell BK130.out 0).trans rfl, (blk_cell BK130.out 1).trans rfl⟩ (fun hHeld => ?_)
       clear hK K
       refine norm_ (a' := ?_) ?_ ?_
       rotate_left
       ·show Act.put _ (some 53) _ = _
        simp only [Act.put, la_, lb_, lc_, i64_w, i32_w]
        rfl
       refine two_ (i := 3) (j := 9) (Ni := some 48) (Nj := some 54) d11x33 d11x28 rfl rfl rfl rfl (two_of HT_.out (by kernel_rfl)) (by decide) (by decide) (fun K hK => ?_) (fun K hK => ?_)
       ·skip
        refine goes_ Tryd.func19 (by kernel_rfl) rfl #[.int .u64 ((rd_T48 l0_0 x41_2).f1), .int .i64 8] (by rfl) rfl rfl (by (try simp only [List.map_toArray, List.map_cons, List.map_nil]); first | done | rfl | (simp only [List.length_drop, List.length_take]; rfl)) ?_
        with_reducible refine (fields_PutBig.calls k2 ((rd_T48 l0_0 x41_2).f1) 8 t131 _ A26.out).mono ?_
        rintro e w37 ⟨rfl, hb⟩
        refine ⟨_, rfl, ?_⟩
        have n0_ := Aside0.mk (Kd.R_below (by (with_reducible repeat (first | apply Kd.R_alloc | apply Kd.R_drewN | apply Kd.R_drew)); exact HO134.out) hb)
        have n1_ := Aside0.mk (blk_below (bk_ BK122) hb)
        have n2_ := Aside0.mk (blk_below (bk_ BK130) hb)
        have n3_ := Aside0.mk (below_step (hb_ HB) hb)
        clear HO134
        clear BK122
        clear BK130
        clear HB
        have HO134 := n0_
        have BK122 := n1_
        have BK130 := n2_
        have HB := n3_
        clear n0_ n1_ n2_ n3_
        (try clear hb)
        (try clear hb2)
        (try clear hk)
        (try clear hi)
        refine hK.out _ _ ⟨(blk_cell BK130.out 0).trans rfl, (blk_cell BK130.out 1).trans rfl⟩ (fun hHeld => ?_)
        clear hK K
        refine norm_ (a' := ?_) ?_ ?_
        rotate_left
        ·show Act.put _ (some 48) _ = _
         simp only [Act.put, la_, lb_, lc_, i64_w, i32_w]
         rfl
        refine one_ (i := 9) (N := some 54) d11x34 rfl rfl (one_of HT_.out (by kernel_rfl)) (by decide) (fun K hK => ?_)
        have hcv38 := own_string (P := Tryd.prog) Tryd.underlying44 Tryd.underlying5 Tryd.underlying9 (Kd.own_of_R HO134.out)
        refine value_ (w1 := ?_) (v := ?_) (by rfl) rfl ?_ ?_
        rotate_left 2
        ·go_simp
         constructor
         ·rfl
         ·rfl
        clear hcv38
        refine hK.out _ _ ⟨(blk_cell BK130.out 0).trans rfl, (blk_cell BK130.out 1).trans rfl⟩ (fun hHeld => ?_)
        clear hK K
        refine norm_ (a' := ?_) ?_ ?_
        rotate_left
        ·show Act.put _ (some 54) _ = _
         simp only [Act.put, la_, lb_, lc_, i64_w, i32_w]
         rfl
        exact norm_ (by simp only [putAll, Act.put, la_, lb_, lc_]) (hCont (v133) _ ⟨hHeld, (by (with_reducible repeat (first | apply Kd.R_alloc | apply Kd.R_drewN | apply Kd.R_drew)); exact HO134.out), (bk_ BK122), (bk_ BK130), (hb_ HB)⟩)
       ·skip
        have hcv37 := own_string (P := Tryd.prog) Tryd.underlying44 Tryd.underlying5 Tryd.underlying9 (Kd.own_of_R HO134.out)
        refine value_ (w1 := ?_) (v := ?_) (by rfl) rfl ?_ ?_
        rotate_left 2
        ·go_simp
         constructor
         ·rfl
         ·rfl
        clear hcv37
        refine hK.out _ _ ⟨(blk_cell BK130.out 0).trans rfl, (blk_cell BK130.out 1).trans rfl⟩ (fun hHeld => ?_)
        clear hK K
        refine norm_ (a' := ?_) ?_ ?_
        rotate_left
        ·show Act.put _ (some 54) _ = _
         simp only [Act.put, la_, lb_, lc_, i64_w, i32_w]
         rfl
        refine one_ (i := 3) (N := some 48) d11x34 rfl rfl (one_of HT_.out (by kernel_rfl)) (by decide) (fun K hK => ?_)
        refine goes_ Tryd.func19 (by kernel_rfl) rfl #[.int .u64 ((rd_T48 l0_0 x41_2).f1), .int .i64 8] (by rfl) rfl rfl (by (try simp only [List.map_toArray, List.map_cons, List.map_nil]); first | done | rfl | (simp only [List.length_drop, List.length_take]; rfl)) ?_
        with_reducible refine (fields_PutBig.calls k2 ((rd_T48 l0_0 x41_2).f1) 8 t131 _ A26.out).mono ?_
        rintro e w38 ⟨rfl, hb⟩
        refine ⟨_, rfl, ?_⟩
        have n0_ := Aside0.mk (Kd.R_below (by (with_reducible repeat (first | apply Kd.R_alloc | apply Kd.R_drewN | apply Kd.R_drew)); exact HO134.out) hb)
        have n1_ := Aside0.mk (blk_below (bk_ BK122) hb)
        have n2_ := Aside0.mk (blk_below (bk_ BK130) hb)
        have n3_ := Aside0.mk (below_step (hb_ HB) hb)
        clear HO134
        clear BK122
        clear BK130
        clear HB
        have HO134 := n0_
        have BK122 := n1_
        have BK130 := n2_
        have HB := n3_
        clear n0_ n1_ n2_ n3_
        (try clear hb)
        (try clear hb2)
        (try clear hk)
        (try clear hi)
        refine hK.out _ _ ⟨(blk_cell BK130.out 0).trans rfl, (blk_cell BK130.out 1).trans rfl⟩ (fun hHeld => ?_)
        clear hK K
        refine norm_ (a' := ?_) ?_ ?_
        rotate_left
        ·show Act.put _ (some 48) _ = _
         simp only [Act.put, la_, lb_, lc_, i64_w, i32_w]
         rfl
        exact norm_ (by simp only [putAll, Act.put, la_, lb_, lc_]) (hCont (v133) _ ⟨hHeld, (by (with_reducible repeat (first | apply Kd.R_alloc | apply Kd.R_drewN | apply Kd.R_drew)); exact HO134.out), (bk_ BK122), (bk_ BK130), (hb_ HB)⟩)
     rintro v133 w39 ⟨hS_, h0_, h1_, h2_, h3_⟩
     have n0_ : Aside0 (Kd.R (Kd.int .u8) 5 w39 w.heap.size (fun _ => True) v133 y132) := ⟨h0_⟩
     have n1_ : Aside0 (w39.heap[gb122]? = some (.cells #[.slice (some ad129) l0_0.length c0_0, .int .i64 a0_1, .string a0_2, .int .u32 a0_3, .bool a0_4] 27 (0, 0))) := ⟨h1_⟩
     have n2_ : Aside0 (w39.heap[gb130]? = some (.cells #[.string ((rd_T48 l0_0 x41_2).f0), .int .u64 ((rd_T48 l0_0 x41_2).f1)] 48 (0, 0))) := ⟨h2_⟩
     have n3_ : Aside0 (Below w.heap.size w w39) := ⟨h3_⟩
     clear BK122
     clear BK130
     clear HB
     clear h0_ h1_ h2_ h3_
     have HO134 := n0_
     have BK122 := n1_
     have BK130 := n2_
     have HB := n3_
     clear n0_ n1_ n2_ n3_
     have hHeld : w39.cell? ⟨gb130, 0, none⟩ = some (.string ((rd_T48 l0_0 x41_2).f0)) ∧ w39.cell? ⟨gb130, 1, none⟩ = some (.int .u64 ((rd_T48 l0_0 x41_2).f1)) := hS_
     refine norm_ (a' := ?_) ?_ ?_
     rotate_left
     ·simp only [putAll, Act.put, la_, lb_, lc_]
      rfl
     refine pon_ 10 (some 55) d11x35 HT_.out ?_
     refine pon_ 13 (some 58) d11x36 HT_.out ?_
     refine pon_ 14 (some 59) d11x37 HT_.out ?_
     refine pon_ 15 (some 6) d11x43 HT_.out ?_
     refine done_ (done_of HT_.out (by kernel_rfl)) ?_
     try go_wp2
     go_roundg k2
     case measure => have := HJ4.out; have := HK2.out; omega
     case rel => exact ⟨(x6_2 ++ ((t131 ++ (strOfNums y132)) ++ ((rd_T48 l0_0 x41_2).f0))), (wrap64 (x41_2 + 1)), (by first | rfl | (simp; done) | (simp [*]; done)), (by first | rfl | (simp; done) | (simp [*]; done)), H', ⟨by have := HJ4.out; have := HK2.out; omega⟩, ⟨bk_ BK122⟩, ⟨hb_ HB⟩⟩
end Go.Proofs.YtmpicpenbhdbhaaDoor.P
