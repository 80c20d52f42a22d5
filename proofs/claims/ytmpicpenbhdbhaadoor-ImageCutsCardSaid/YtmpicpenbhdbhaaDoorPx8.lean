-- written by this session's patched copy of the printer (wip/tools/patch_print.py); Lean checks it
import Derived.Test.YtmpicpenbhdbhaaDoorPx0
import Derived.Test.YtmpicpenbhdbhaaDoorPx6
import Derived.Test.YtmpicpenbhdbhaaDoorPx7
namespace Go.Proofs.YtmpicpenbhdbhaaDoor.P
open Go.RowKit Go.Proofs.YtmpicpenbhdbhaaDoorW.PrintWords Go.Proofs.YtmpicpenbhdbhaaDoorW.PrintLast Go.Proofs.YtmpicpenbhdbhaaDoorW.PrintMore
attribute [local go_sem] max2_int min2_int max_two min_two max_three min_three max_four min_four   -- for this text's walks alone
set_option linter.unusedVariables false
set_option linter.unusedSimpArgs false
set_option linter.unnecessarySimpa false

/-! ### headgateref12_Encode: function 12 -/
mutual
def headgateref12_Encode.l0 : Nat → Int → Int → List (S48) → Int → ByteArray → Int → Bool → Option (ByteArray × Int)
 | 0, _, _, _, _, _, _, _ => none
 | k + 1, x4, x5, x188000, x188001, x188002, x188003, x188004 => if x5 < (x188000.length : Int) then (if x188002.toList = ([] : List UInt8) then (headgateref12_Encode.l0 k x4 (wrap64 (x5 + 1)) x188000 x188001 x188002 x188003 x188004) else (if 0 ≤ x5 then (if ((rd_T48 x188000 x5).f0).toList = x188002.toList then (headgateref12_Encode.l0 k (wrap64 (x5 + 1)) (wrap64 (x5 + 1)) x188000 x188001 x188002 x188003 x188004) else (headgateref12_Encode.l0 k x4 (wrap64 (x5 + 1)) x188000 x188001 x188002 x188003 x188004)) else (none))) else (if x188004 = true then (headgateref12_Encode.j1 k x4 1 x188000 x188001 x188002 x188003 x188004) else (headgateref12_Encode.j1 k x4 0 x188000 x188001 x188002 x188003 x188004))
def headgateref12_Encode.j1 : Nat → Int → Int → List (S48) → Int → ByteArray → Int → Bool → Option (ByteArray × Int)
 | 0, _, _, _, _, _, _, _ => none
 | k + 1, x4, x6, x188000, x188001, x188002, x188003, x188004 => (headgateref01_PutBig.f k (IntKind.u64.wrap (x188003)) 4).bind fun t190 => (if 4 + t190.size ≤ 9223372036854775807 then ((some (([(x188001) % 256, (x4) % 256, x6, ((x188000.length : Int)) % 256] : List Int) : List Int)).bind fun y191 => (if ((⟨#[72, 71, 82, 84]⟩ : ByteArray) ++ t190).size + (strOfNums y191).size ≤ 9223372036854775807 then (headgateref12_Encode.l1 k (((⟨#[72, 71, 82, 84]⟩ : ByteArray) ++ t190) ++ (strOfNums y191)) 0 x188000 x188001 x188002 x188003 x188004) else (none))) else (none))
def headgateref12_Encode.l1 : Nat → ByteArray → Int → List (S48) → Int → ByteArray → Int → Bool → Option (ByteArray × Int)
 | 0, _, _, _, _, _, _, _ => none
 | k + 1, x7, x8, x188000, x188001, x188002, x188003, x188004 => if x8 < (x188000.length : Int) then (if 0 ≤ x8 then ((headgateref01_PutBig.f k ((rd_T48 x188000 x8).f1) 8).bind fun t195 => ((some (([((((rd_T48 x188000 x8).f0).size : Int)) % 256] : List Int) : List Int)).bind fun y197 => (if t195.size + (strOfNums y197).size ≤ 9223372036854775807 then (if (t195 ++ (strOfNums y197)).size + ((rd_T48 x188000 x8).f0).size ≤ 9223372036854775807 then (if x7.size + ((t195 ++ (strOfNums y197)) ++ ((rd_T48 x188000 x8).f0)).size ≤ 9223372036854775807 then (headgateref12_Encode.l1 k (x7 ++ ((t195 ++ (strOfNums y197)) ++ ((rd_T48 x188000 x8).f0))) (wrap64 (x8 + 1)) x188000 x188001 x188002 x188003 x188004) else (none)) else (none)) else (none)))) else (none)) else ((headgateref02_Digest.f k x7).bind fun t201 => (if x7.size + t201.size ≤ 9223372036854775807 then (some (x7 ++ t201, 0)) else (none)))
end
def headgateref12_Encode.f (k : Nat) (l0_0 : List (S48)) (a0_1 : Int) (a0_2 : ByteArray) (a0_3 : Int) (a0_4 : Bool) : Option (ByteArray × Int) := (headgateref11_Good.f k l0_0 a0_1 a0_2 a0_3 a0_4).bind fun t188 => (if t188 = true then (headgateref12_Encode.l0 k 0 0 l0_0 a0_1 a0_2 a0_3 a0_4) else (some ((⟨#[]⟩ : ByteArray), 1)))
theorem headgateref12_Encode.mono_l : ∀ k, (∀ y0 y1 y2 y3 y4 y5 y6, LeO (headgateref12_Encode.l0 k y0 y1 y2 y3 y4 y5 y6) (headgateref12_Encode.l0 (k + 1) y0 y1 y2 y3 y4 y5 y6)) ∧ (∀ y0 y1 y2 y3 y4 y5 y6, LeO (headgateref12_Encode.j1 k y0 y1 y2 y3 y4 y5 y6) (headgateref12_Encode.j1 (k + 1) y0 y1 y2 y3 y4 y5 y6)) ∧ (∀ y0 y1 y2 y3 y4 y5 y6, LeO (headgateref12_Encode.l1 k y0 y1 y2 y3 y4 y5 y6) (headgateref12_Encode.l1 (k + 1) y0 y1 y2 y3 y4 y5 y6))
 | 0 => ⟨fun _ _ _ _ _ _ _ r h => by simp [headgateref12_Encode.l0] at h, fun _ _ _ _ _ _ _ r h => by simp [headgateref12_Encode.j1] at h, fun _ _ _ _ _ _ _ r h => by simp [headgateref12_Encode.l1] at h⟩
 | k + 1 => by
  obtain ⟨ih0, ih1, ih2⟩ := headgateref12_Encode.mono_l k
  refine ⟨?_, ?_, ?_⟩
  ·intro y0 y1 y2 y3 y4 y5 y6
   unfold headgateref12_Encode.l0
   repeat' first
   | (with_reducible exact ih0 _ _ _ _ _ _ _)
   | (with_reducible exact ih1 _ _ _ _ _ _ _)
   | (with_reducible exact ih2 _ _ _ _ _ _ _)
   | (with_reducible exact headgateref01_PutBig.mono _ _ _)
   | (with_reducible exact headgateref02_Digest.mono _ _)
   | (with_reducible exact headgateref11_Good.mono _ _ _ _ _ _)
   | (with_reducible exact LeO.refl _)
   | (with_reducible exact LeO.none _)
   | (with_reducible refine LeO.ite ?_ ?_)
   | (with_reducible refine LeO.bind ?_ (fun _ => ?_))
   | exact ih0 _ _ _ _ _ _ _
   | exact ih1 _ _ _ _ _ _ _
   | exact ih2 _ _ _ _ _ _ _
   | exact headgateref01_PutBig.mono _ _ _
   | exact headgateref02_Digest.mono _ _
   | exact headgateref11_Good.mono _ _ _ _ _ _
   | exact LeO.none _
   | refine LeO.ite ?_ ?_
   | refine LeO.bind ?_ (fun _ => ?_)
  ·intro y0 y1 y2 y3 y4 y5 y6
   unfold headgateref12_Encode.j1
   repeat' first
   | (with_reducible exact ih0 _ _ _ _ _ _ _)
   | (with_reducible exact ih1 _ _ _ _ _ _ _)
   | (with_reducible exact ih2 _ _ _ _ _ _ _)
   | (with_reducible exact headgateref01_PutBig.mono _ _ _)
   | (with_reducible exact headgateref02_Digest.mono _ _)
   | (with_reducible exact headgateref11_Good.mono _ _ _ _ _ _)
   | (with_reducible exact LeO.refl _)
   | (with_reducible exact LeO.none _)
   | (with_reducible refine LeO.ite ?_ ?_)
   | (with_reducible refine LeO.bind ?_ (fun _ => ?_))
   | exact ih0 _ _ _ _ _ _ _
   | exact ih1 _ _ _ _ _ _ _
   | exact ih2 _ _ _ _ _ _ _
   | exact headgateref01_PutBig.mono _ _ _
   | exact headgateref02_Digest.mono _ _
   | exact headgateref11_Good.mono _ _ _ _ _ _
   | exact LeO.none _
   | refine LeO.ite ?_ ?_
   | refine LeO.bind ?_ (fun _ => ?_)
  ·intro y0 y1 y2 y3 y4 y5 y6
   unfold headgateref12_Encode.l1
   repeat' first
   | (with_reducible exact ih0 _ _ _ _ _ _ _)
   | (with_reducible exact ih1 _ _ _ _ _ _ _)
   | (with_reducible exact ih2 _ _ _ _ _ _ _)
   | (with_reducible exact headgateref01_PutBig.mono _ _ _)
   | (with_reducible exact headgateref02_Digest.mono _ _)
   | (with_reducible exact headgateref11_Good.mono _ _ _ _ _ _)
   | (with_reducible exact LeO.refl _)
   | (with_reducible exact LeO.none _)
   | (with_reducible refine LeO.ite ?_ ?_)
   | (with_reducible refine LeO.bind ?_ (fun _ => ?_))
   | exact ih0 _ _ _ _ _ _ _
   | exact ih1 _ _ _ _ _ _ _
   | exact ih2 _ _ _ _ _ _ _
   | exact headgateref01_PutBig.mono _ _ _
   | exact headgateref02_Digest.mono _ _
   | exact headgateref11_Good.mono _ _ _ _ _ _
   | exact LeO.none _
   | refine LeO.ite ?_ ?_
   | refine LeO.bind ?_ (fun _ => ?_)
theorem headgateref12_Encode.mono : ∀ a0 a1 a2 a3 a4 k, LeO (headgateref12_Encode.f k a0 a1 a2 a3 a4) (headgateref12_Encode.f (k + 1) a0 a1 a2 a3 a4) := by
 intro a0 a1 a2 a3 a4 k
 obtain ⟨ih0, ih1, ih2⟩ := headgateref12_Encode.mono_l k
 unfold headgateref12_Encode.f
 repeat' first
   | (with_reducible exact ih0 _ _ _ _ _ _ _)
   | (with_reducible exact ih1 _ _ _ _ _ _ _)
   | (with_reducible exact ih2 _ _ _ _ _ _ _)
   | (with_reducible exact headgateref01_PutBig.mono _ _ _)
   | (with_reducible exact headgateref02_Digest.mono _ _)
   | (with_reducible exact headgateref11_Good.mono _ _ _ _ _ _)
   | (with_reducible exact LeO.refl _)
   | (with_reducible exact LeO.none _)
   | (with_reducible refine LeO.ite ?_ ?_)
   | (with_reducible refine LeO.bind ?_ (fun _ => ?_))
   | exact ih0 _ _ _ _ _ _ _
   | exact ih1 _ _ _ _ _ _ _
   | exact ih2 _ _ _ _ _ _ _
   | exact headgateref01_PutBig.mono _ _ _
   | exact headgateref02_Digest.mono _ _
   | exact headgateref11_Good.mono _ _ _ _ _ _
   | exact LeO.none _
   | refine LeO.ite ?_ ?_
   | refine LeO.bind ?_ (fun _ => ?_)
def headgateref12_Encode.T7 : Bool × List (List Nat × List Nat) := (true, [([], []), ([0], [0]), ([1], [1]), ([2], [2]), ([3], [3]), ([4], [4]), ([5, 4], [4, 5]), ([4], [4]), ([6, 7, 4], [4, 6, 7]), ([8, 4], [4, 8]), ([9, 4], [4, 9]), ([4], [4]), ([11, 4], [4, 11]), ([12, 4], [4, 12]), ([10, 13, 4], [4, 10, 13]), ([4, 14], [4, 14])])
def headgateref12_Encode.B7 : List Nat := [0, 1, 3, 7, 15, 31, 63, 31, 255, 511, 1023, 31, 2079, 6175, 16383, 32767]
theorem headgateref12_Encode.tab7 : rtab .any (opsOf Tryd.f12 7) = headgateref12_Encode.T7 := by kernel_rfl
theorem headgateref12_Encode.bits7 : waitsOk headgateref12_Encode.T7.2 headgateref12_Encode.B7 = true := by kernel_rfl
def headgateref12_Encode.T12 : Bool × List (List Nat × List Nat) := (true, [([], []), ([0], [0]), ([1], [1]), ([2], [2]), ([3], [3]), ([], []), ([5], [5]), ([6], [6]), ([7], [7]), ([], []), ([9], [9]), ([], []), ([], []), ([12], [12]), ([13], [13]), ([14], [14]), ([8, 10, 11, 15], [8, 10, 11, 15]), ([16], [16]), ([4, 17], [4, 17]), ([18, 3, 0, 1, 2, 3, 4, 5, 6, 7, 8, 9, 10, 11, 12, 13, 14, 15, 16, 17, 18], [18])])
def headgateref12_Encode.B12 : List Nat := [0, 1, 3, 7, 15, 0, 32, 96, 224, 0, 512, 0, 0, 4096, 12288, 28672, 65504, 131040, 262143, 524287]
theorem headgateref12_Encode.tab12 : rtab .any (opsOf Tryd.f12 12) = headgateref12_Encode.T12 := by kernel_rfl
theorem headgateref12_Encode.bits12 : waitsOk headgateref12_Encode.T12.2 headgateref12_Encode.B12 = true := by kernel_rfl
def headgateref12_Encode.T16 : Bool × List (List Nat × List Nat) := (true, [([], []), ([], []), ([1], [1]), ([], []), ([2, 3], [2, 3]), ([4], [4]), ([5], [5]), ([6], [6]), ([], []), ([8], [8]), ([], []), ([9, 10], [9, 10]), ([11], [11]), ([12], [12]), ([13], [13]), ([14], [14]), ([15], [15]), ([16], [16]), ([7, 17], [7, 17]), ([], []), ([19], [19]), ([], []), ([20, 21], [20, 21]), ([22], [22]), ([23], [23]), ([18, 24], [18, 24]), ([0, 25], [0, 25]), ([26, 7, 0, 1, 2, 3, 4, 5, 6, 7, 8, 9, 10, 11, 12, 13, 14, 15, 16, 17, 18, 19, 20, 21, 22, 23, 24, 25, 26], [0, 26])])
def headgateref12_Encode.B16 : List Nat := [0, 0, 2, 0, 14, 30, 62, 126, 0, 256, 0, 1792, 3840, 7936, 16128, 32512, 65280, 130816, 262142, 0, 524288, 0, 3670016, 7864320, 16252928, 33554430, 67108863, 134217727]
theorem headgateref12_Encode.tab16 : rtab .any (opsOf Tryd.f12 16) = headgateref12_Encode.T16 := by kernel_rfl
theorem headgateref12_Encode.bits16 : waitsOk headgateref12_Encode.T16.2 headgateref12_Encode.B16 = true := by kernel_rfl
abbrev d12x0 : Array Bool := #[false, false, false, false, false, false, false, false, false, false, false, false, false, false, false, false, false, false, false, false, false, false, false, false, false, false, false, false]
abbrev d12x1 : Array Bool := #[false, false, false, false, false, false, false, false, false, false, false, false, false, false, false, false, false, false, false, false]
abbrev d12x2 : Array Bool := #[false, false, false, false, false, false, false, false, false, false, false, false, false, false, false, false]
abbrev d12x3 : Array Bool := dB 28 1
abbrev d12x4 : Array Bool := dB 20 1
abbrev d12x5 : Array Bool := dB 16 1
abbrev d12x6 : Array Bool := dB 20 33
abbrev d12x7 : Array Bool := dB 20 97
abbrev d12x8 : Array Bool := dB 20 609
abbrev d12x9 : Array Bool := dB 20 1633
abbrev d12x10 : Array Bool := dB 20 3681
abbrev d12x11 : Array Bool := dB 20 7777
abbrev d12x12 : Array Bool := dB 28 3
abbrev d12x13 : Array Bool := dB 16 3
abbrev d12x14 : Array Bool := dB 20 7779
abbrev d12x15 : Array Bool := dB 28 11
abbrev d12x16 : Array Bool := dB 28 267
abbrev d12x17 : Array Bool := dB 28 1291
abbrev d12x18 : Array Bool := dB 28 525579
abbrev d12x19 : Array Bool := dB 28 2622731
abbrev d12x20 : Array Bool := dB 16 7
abbrev d12x21 : Array Bool := dB 20 7783
abbrev d12x22 : Array Bool := dB 20 7911
abbrev d12x23 : Array Bool := dB 20 8167
abbrev d12x24 : Array Bool := dB 20 16359
abbrev d12x25 : Array Bool := dB 20 32743
abbrev d12x26 : Array Bool := dB 20 65511
abbrev d12x27 : Array Bool := dB 20 131047
abbrev d12x28 : Array Bool := dB 20 262119
abbrev d12x29 : Array Bool := dB 16 15
abbrev d12x30 : Array Bool := dB 28 2622735
abbrev d12x31 : Array Bool := dB 20 65519
abbrev d12x32 : Array Bool := dB 20 131055
abbrev d12x33 : Array Bool := dB 20 262127
abbrev d12x34 : Array Bool := dB 16 31
abbrev d12x35 : Array Bool := dB 28 2622751
abbrev d12x36 : Array Bool := dB 16 63
abbrev d12x37 : Array Bool := dB 28 2622783
abbrev d12x38 : Array Bool := dB 16 191
abbrev d12x39 : Array Bool := dB 16 2239
abbrev d12x40 : Array Bool := dB 16 6335
abbrev d12x41 : Array Bool := dB 16 127
abbrev d12x42 : Array Bool := dB 28 2622847
abbrev d12x43 : Array Bool := dB 28 2623359
abbrev d12x44 : Array Bool := dB 28 2625407
abbrev d12x45 : Array Bool := dB 28 2629503
abbrev d12x46 : Array Bool := dB 28 2637695
abbrev d12x47 : Array Bool := dB 28 2654079
abbrev d12x48 : Array Bool := dB 28 2686847
abbrev d12x49 : Array Bool := dB 28 3735423
abbrev d12x50 : Array Bool := dB 28 7929727
abbrev d12x51 : Array Bool := dB 28 16318335
abbrev d12x52 : Array Bool := dB 28 33095551
abbrev d12x53 : Array Bool := dB 28 33161087
abbrev d12x54 : Array Bool := dB 28 33292159
abbrev d12x55 : Array Bool := dB 16 255
abbrev d12x56 : Array Bool := dB 16 6399
abbrev d12x57 : Array Bool := dB 16 511
abbrev d12x58 : Array Bool := dB 16 6655
abbrev d12x59 : Array Bool := dB 16 1023
abbrev d12x60 : Array Bool := dB 16 7167
abbrev d12x61 : Array Bool := dB 16 2047
abbrev d12x62 : Array Bool := dB 16 4095
abbrev d12x63 : Array Bool := dB 16 8191
abbrev d12x64 : Array Bool := dB 16 16383
abbrev d12x65 : Array Bool := dB 16 32767
abbrev d12x66 : Array Bool := dB 20 65535
abbrev d12x67 : Array Bool := dB 28 33095679
abbrev d12x68 : Array Bool := dB 20 131071
abbrev d12x69 : Array Bool := dB 28 33161215
abbrev d12x70 : Array Bool := dB 20 262143
abbrev d12x71 : Array Bool := dB 28 33292287
abbrev d12x72 : Array Bool := dB 20 524287
abbrev d12x73 : Array Bool := dB 28 33554431
abbrev d12x74 : Array Bool := dB 28 67108863
abbrev d12x75 : Array Bool := dB 28 134217727
abbrev d12x76 : Array Bool := dB 28 268435455
abbrev d12x77 : Array Bool := dB 20 1048575
abbrev d12x78 : Array Bool := dB 16 65535
set_option maxHeartbeats 8000000 in
set_option maxRecDepth 100000 in
theorem headgateref12_Encode.calls (k : Nat) (A0_0 : Option Addr) (c0_0 : Nat) (l0_0 : List (S48)) (a0_1 : Int) (a0_2 : ByteArray) (a0_3 : Int) (a0_4 : Bool) (r1 : ByteArray) (r2 : Int) (w : World) (hr0_0 : Kd.C k48 w A0_0 l0_0.length l0_0) (hc0_0 : l0_0.length ≤ c0_0) (h : headgateref12_Encode.f k l0_0 a0_1 a0_2 a0_3 a0_4 = some (r1, r2)) :
  Calls Tryd.prog 12 #[.agg #[.slice A0_0 l0_0.length c0_0, .int .i64 a0_1, .string a0_2, .int .u32 a0_3, .bool a0_4]] w fun e w' => e = .returned (.tuple #[.string r1, .int .i64 r2]) ∧ Below w.heap.size w w' := by
 have hu27 := Tryd.underlying27
 have HR0_0 := Aside0.mk hr0_0
 have HC0_0 := Aside0.mk hc0_0
 clear hr0_0 hc0_0
 have HB := Aside0.mk (Below.refl w.heap.size w)
 have H : ((headgateref11_Good.f k l0_0 a0_1 a0_2 a0_3 a0_4).bind fun t188 => (if t188 = true then (headgateref12_Encode.l0 k 0 0 l0_0 a0_1 a0_2 a0_3 a0_4) else (some ((⟨#[]⟩ : ByteArray), 1)))) = some (r1, r2) := h
 clear h
 replace H := Option.bind_eq_some_iff.mp H
 obtain ⟨t188, A20, H⟩ := H
 try dsimp only at H
 have A2 := Aside0.mk A20
 clear A20
 refine neg_first (p := (t188 = true)) (fun c3 => ?_) (fun c3 => ?_)
 ·replace c3 := Bool.eq_false_iff.mpr c3
  subst c3
  have H1 := H
  rw [if_neg (show ¬ (false = true) by decide)] at H1
  clear H
  have H := H1
  clear H1
  simp only [Option.some.injEq, Prod.mk.injEq] at H
  obtain ⟨rfl, rfl⟩ := H
  go_enter Tryd.func12, Tryd.ntmps12
  go_wp2_with (first | ((with_reducible refine gate_dst (N := 1) rfl ?_); refine box_event ?hg (N := 1) ?hd (cs := #[.slice A0_0 l0_0.length c0_0, .int .i64 a0_1, .string a0_2, .int .u32 a0_3, .bool a0_4]) (t := 27) ?hr ?_; (case hd => rfl); (case hg => rfl); (case hr => first | (go_simp; done) | (go_simp; rfl)); intro gb187 hg w46 hbox hb; have n0_ := Aside0.mk (below_step (hb_ HB) hb); have n1_ := Aside0.mk (hbox); have n2_ := Aside0.mk ((by rw [hg]; exact (below_size (hb_ HB)) : w.heap.size ≤ gb187)); have n3_ := Aside0.mk ((by rw [hg]; exact (below_size (hb_ HB)) : w.heap.size ≤ gb187)); clear HB; have HB := n0_; have BK187 := n1_; have GW187 := n2_; have GE187 := n3_; clear n0_ n1_ n2_ n3_; clear hb hbox hg; have hcz47_0 : w46.cell? ⟨gb187, 0, none⟩ = some (.slice A0_0 l0_0.length c0_0) := (blk_cell BK187.out 0).trans rfl; have hcz47_1 : w46.cell? ⟨gb187, 1, none⟩ = some (.int .i64 a0_1) := (blk_cell BK187.out 1).trans rfl; have hcz47_2 : w46.cell? ⟨gb187, 2, none⟩ = some (.string a0_2) := (blk_cell BK187.out 2).trans rfl; have hcz47_3 : w46.cell? ⟨gb187, 3, none⟩ = some (.int .u32 a0_3) := (blk_cell BK187.out 3).trans rfl; have hcz47_4 : w46.cell? ⟨gb187, 4, none⟩ = some (.bool a0_4) := (blk_cell BK187.out 4).trans rfl; have hfz47_0 := blk_frozen BK187.out 0; have hfz47_1 := blk_frozen BK187.out 1; have hfz47_2 := blk_frozen BK187.out 2; have hfz47_3 := blk_frozen BK187.out 3; have hfz47_4 := blk_frozen BK187.out 4) | ((with_reducible refine gate_callee (f := 21) rfl ?_); refine goesL_ (some 10) rfl rfl Tryd.func21 (by kernel_rfl) rfl #[.agg #[.slice A0_0 l0_0.length c0_0, .int .i64 a0_1, .string a0_2, .int .u32 a0_3, .bool a0_4]] rfl (by (try simp only [List.map_toArray, List.map_cons, List.map_nil]); first | done | rfl | (simp only [List.length_drop, List.length_take]; rfl)) ?_; (with_reducible refine (headgateref11_Good.calls k _ _ l0_0 a0_1 a0_2 a0_3 a0_4 false _ ?side1 ?side2 A2.out).mono ?_); (case side1 => repeat (first | exact (Kd.C_below HR0_0.out HB.out) | (with_reducible refine Kd.C_alloc ?_ _) | (with_reducible refine Kd.C_drewN ?_ _) | (with_reducible refine Kd.C_drew ?_))); (case side2 => exact HC0_0.out); rintro e w48 ⟨rfl, hb⟩; refine ⟨_, rfl, ?_⟩; have n0_ := Aside0.mk (blk_below (bk_ BK187) hb); have n1_ := Aside0.mk (below_step (hb_ HB) hb); clear BK187; clear HB; have BK187 := n0_; have HB := n1_; clear n0_ n1_; (try clear hb); (try clear hb2); (try clear hk); (try clear hi)))
  go_ret2
  exact ⟨by first | rfl | (simp [errW_none, errW_some] <;> rfl) | (simp [*, errW_none, errW_some] <;> rfl) | (simp [bt, *]; done) | (unfold bt; simp [*]; done), by repeat (first | (with_reducible first | exact HB.out | apply below_alloc | apply pw_below_drewN | apply below_drew1 | refine below_set ?_ GE187.out) | exact HB.out)⟩

 subst c3
 have H1 := H
 rw [if_pos rfl] at H1
 clear H
 have H := H1
 clear H1
 have H' := Aside0.mk H
 clear H
 go_enter Tryd.func12, Tryd.ntmps12
 go_wp2_with (first | ((with_reducible refine gate_dst (N := 1) rfl ?_); refine box_event ?hg (N := 1) ?hd (cs := #[.slice A0_0 l0_0.length c0_0, .int .i64 a0_1, .string a0_2, .int .u32 a0_3, .bool a0_4]) (t := 27) ?hr ?_; (case hd => rfl); (case hg => rfl); (case hr => first | (go_simp; done) | (go_simp; rfl)); intro gb187 hg w4 hbox hb; have n0_ := Aside0.mk (below_step (hb_ HB) hb); have n1_ := Aside0.mk (hbox); have n2_ := Aside0.mk ((by rw [hg]; exact (below_size (hb_ HB)) : w.heap.size ≤ gb187)); have n3_ := Aside0.mk ((by rw [hg]; exact (below_size (hb_ HB)) : w.heap.size ≤ gb187)); clear HB; have HB := n0_; have BK187 := n1_; have GW187 := n2_; have GE187 := n3_; clear n0_ n1_ n2_ n3_; clear hb hbox hg; have hcz5_0 : w4.cell? ⟨gb187, 0, none⟩ = some (.slice A0_0 l0_0.length c0_0) := (blk_cell BK187.out 0).trans rfl; have hcz5_1 : w4.cell? ⟨gb187, 1, none⟩ = some (.int .i64 a0_1) := (blk_cell BK187.out 1).trans rfl; have hcz5_2 : w4.cell? ⟨gb187, 2, none⟩ = some (.string a0_2) := (blk_cell BK187.out 2).trans rfl; have hcz5_3 : w4.cell? ⟨gb187, 3, none⟩ = some (.int .u32 a0_3) := (blk_cell BK187.out 3).trans rfl; have hcz5_4 : w4.cell? ⟨gb187, 4, none⟩ = some (.bool a0_4) := (blk_cell BK187.out 4).trans rfl; have hfz5_0 := blk_frozen BK187.out 0; have hfz5_1 := blk_frozen BK187.out 1; have hfz5_2 := blk_frozen BK187.out 2; have hfz5_3 := blk_frozen BK187.out 3; have hfz5_4 := blk_frozen BK187.out 4) | ((with_reducible refine gate_callee (f := 21) rfl ?_); refine goesL_ (some 10) rfl rfl Tryd.func21 (by kernel_rfl) rfl #[.agg #[.slice A0_0 l0_0.length c0_0, .int .i64 a0_1, .string a0_2, .int .u32 a0_3, .bool a0_4]] rfl (by (try simp only [List.map_toArray, List.map_cons, List.map_nil]); first | done | rfl | (simp only [List.length_drop, List.length_take]; rfl)) ?_; (with_reducible refine (headgateref11_Good.calls k _ _ l0_0 a0_1 a0_2 a0_3 a0_4 true _ ?side1 ?side2 A2.out).mono ?_); (case side1 => repeat (first | exact (Kd.C_below HR0_0.out HB.out) | (with_reducible refine Kd.C_alloc ?_ _) | (with_reducible refine Kd.C_drewN ?_ _) | (with_reducible refine Kd.C_drew ?_))); (case side2 => exact HC0_0.out); rintro e w6 ⟨rfl, hb⟩; refine ⟨_, rfl, ?_⟩; have n0_ := Aside0.mk (blk_below (bk_ BK187) hb); have n1_ := Aside0.mk (below_step (hb_ HB) hb); clear BK187; clear HB; have BK187 := n0_; have HB := n1_; clear n0_ n1_; (try clear hb); (try clear hb2); (try clear hk); (try clear hi)))
 go_loopg [4, 5] k (fun kq v4 v5 w' => ∃ (x4_1 : Int) (x5_1 : Int), v4 = .int .i64 x4_1 ∧ v5 = .int .i64 x5_1 ∧ Aside0 (headgateref12_Encode.l0 kq x4_1 x5_1 l0_0 a0_1 a0_2 a0_3 a0_4 = some (r1, r2)) ∧ Aside0 (kq ≤ k) ∧ Aside0 (w'.heap[gb187]? = some (.cells #[(.slice A0_0 l0_0.length c0_0), .int .i64 a0_1, .string a0_2, .int .u32 a0_3, .bool a0_4] 27 (0, 0))) ∧ Aside0 (Below w.heap.size w w'))
 case atStart => exact ⟨(0), (0), (by first | rfl | (simp; done) | (simp [*]; done)), (by first | rfl | (simp; done) | (simp [*]; done)), H', ⟨Nat.le_refl _⟩, ⟨bk_ BK187⟩, ⟨hb_ HB⟩⟩
 case round =>
  clear H'
  try clear c1
  try clear c2
  try clear p2
  try clear c3
  try clear hcz5_0
  try clear hcz5_1
  try clear hcz5_2
  try clear hcz5_3
  try clear hcz5_4
  try clear hfz5_0
  try clear hfz5_1
  try clear hfz5_2
  try clear hfz5_3
  try clear hfz5_4
  obtain ⟨x4_1, x5_1, rfl, rfl, HA, HK1, BK187, HB⟩ := hrel
  cases gk with
  | zero => exact absurd HA.out (by simp [headgateref12_Encode.l0])
  | succ k1 =>
   have H := HA.out
   clear HA
   simp only [headgateref12_Encode.l0] at H
   by_cases c7 : x5_1 < (l0_0.length : Int)
   ·rw [if_pos c7] at H
    have c7b0 : decide (x5_1 < (l0_0.length : Int)) = true := decide_eq_true c7
    clear c7
    by_cases c8 : a0_2.toList = ([] : List UInt8)
    ·rw [if_pos c8] at H
     have c8b0 : (a0_2.toList == ([] : List UInt8)) = true := beq_iff_eq.mpr c8
     have c8b1 : (a0_2.toList != ([] : List UInt8)) = false := bne_eq_false_iff_eq.mpr c8
     (try (have c8b2 : (a0_2 = ByteArray.empty) = True := eq_true (by have h_ := c8; rw [ByteArray.toList_eq] at h_; exact ByteArray.ext (Array.toList_eq_nil_iff.mp h_))))
     clear c8
     have H' := Aside0.mk H
     clear H
     have hcz9_0 : wr.cell? ⟨gb187, 0, none⟩ = some (.slice A0_0 l0_0.length c0_0) := (blk_cell BK187.out 0).trans rfl
     have hcz9_1 : wr.cell? ⟨gb187, 1, none⟩ = some (.int .i64 a0_1) := (blk_cell BK187.out 1).trans rfl
     have hcz9_2 : wr.cell? ⟨gb187, 2, none⟩ = some (.string a0_2) := (blk_cell BK187.out 2).trans rfl
     have hcz9_3 : wr.cell? ⟨gb187, 3, none⟩ = some (.int .u32 a0_3) := (blk_cell BK187.out 3).trans rfl
     have hcz9_4 : wr.cell? ⟨gb187, 4, none⟩ = some (.bool a0_4) := (blk_cell BK187.out 4).trans rfl
     have hfz9_0 := blk_frozen BK187.out 0
     have hfz9_1 := blk_frozen BK187.out 1
     have hfz9_2 := blk_frozen BK187.out 2
     have hfz9_3 := blk_frozen BK187.out 3
     have hfz9_4 := blk_frozen BK187.out 4
     try go_wp2
     have n0_ := Aside0.mk (blk_drew BK187.out)
     have n1_ := Aside0.mk (below_drew1 HB.out)
     clear BK187
     clear HB
     have BK187 := n0_
     have HB := n1_
     clear n0_ n1_
     refine start_ (n := 16) (S := fun w' => w'.cell? ⟨gb187, 0, none⟩ = some (.slice A0_0 l0_0.length c0_0) ∧ w'.cell? ⟨gb187, 1, none⟩ = some (.int .i64 a0_1) ∧ w'.cell? ⟨gb187, 2, none⟩ = some (.string a0_2) ∧ w'.cell? ⟨gb187, 3, none⟩ = some (.int .u32 a0_3) ∧ w'.cell? ⟨gb187, 4, none⟩ = some (.bool a0_4)) (ds := []) d12x2 (by kernel_rfl) rfl rfl ⟨(blk_cell BK187.out 0).trans rfl, (blk_cell BK187.out 1).trans rfl, (blk_cell BK187.out 2).trans rfl, (blk_cell BK187.out 3).trans rfl, (blk_cell BK187.out 4).trans rfl⟩ (fun hHeld => ?_); refine with_tabW headgateref12_Encode.tab7 headgateref12_Encode.bits7 (fun HT_ HW_ => ?_)
     generalize wr.drew = w10 at BK187 HB hHeld ⊢
     refine pon_ 0 (some 19) d12x5 HT_.out ?_
     refine pon_ 1 (some 20) d12x13 HT_.out ?_
     refine ptk_ 2 (some 21) d12x20 HT_.out HW_.out hHeld ?_
     refine pon_ 3 (some 22) d12x29 HT_.out ?_
     refine pon_ 4 (some 23) d12x34 HT_.out ?_
     refine pof_ 5 (some 24) d12x36 HT_.out ?_
     refine pof_ 6 (some 25) d12x41 HT_.out ?_
     refine pof_ 7 (some 26) d12x55 HT_.out ?_
     refine pof_ 8 (some 27) d12x57 HT_.out ?_
     refine pof_ 9 (some 28) d12x59 HT_.out ?_
     refine pof_ 10 (some 29) d12x61 HT_.out ?_
     refine pof_ 11 (some 30) d12x62 HT_.out ?_
     refine pof_ 12 (some 31) d12x63 HT_.out ?_
     refine pof_ 13 (some 32) d12x64 HT_.out ?_
     refine pof_ 14 (some 33) d12x65 HT_.out ?_
     refine pon_ 15 (some 34) d12x78 HT_.out ?_
     refine done_ (done_of HT_.out (by kernel_rfl)) ?_
     try go_wp2
     go_roundg k1
     case measure => have := HK1.out; omega
     case rel => exact ⟨(x4_1), (wrap64 (x5_1 + 1)), (by first | rfl | (simp; done) | (simp [*]; done)), (by first | rfl | (simp; done) | (simp [*]; done)), H', ⟨by have := HK1.out; omega⟩, ⟨bk_ BK187⟩, ⟨hb_ HB⟩⟩
    rw [if_neg c8] at H
    have c8b0 : (a0_2.toList == ([] : List UInt8)) = false := beq_eq_false_iff_ne.mpr c8
    have c8b1 : (a0_2.toList != ([] : List UInt8)) = true := bne_iff_ne.mpr c8
    (try (have c8b2 : (a0_2 = ByteArray.empty) = False := eq_false (fun h_ => c8 (by rw [h_, ByteArray.toList_eq]; rfl))))
    refine neg_first (p := (0 ≤ x5_1)) (fun c11 => ?_) (fun c11 => ?_)
    ·rw [if_neg c11] at H
     exact absurd H (by simp)
    rw [if_pos c11] at H
    have c11b0 : decide (0 ≤ x5_1) = true := decide_eq_true c11
    clear c11
    refine neg_first (p := (((rd_T48 l0_0 x5_1).f0).toList = a0_2.toList)) (fun c12 => ?_) (fun c12 => ?_)
    ·rw [if_neg c12] at H
     have c12b0 : (((rd_T48 l0_0 x5_1).f0).toList == a0_2.toList) = false := beq_eq_false_iff_ne.mpr c12
     have c12b1 : (((rd_T48 l0_0 x5_1).f0).toList != a0_2.toList) = true := bne_iff_ne.mpr c12
     have H' := Aside0.mk H
     clear H
     have hcz15_0 : wr.cell? ⟨gb187, 0, none⟩ = some (.slice A0_0 l0_0.length c0_0) := (blk_cell BK187.out 0).trans rfl
     have hcz15_1 : wr.cell? ⟨gb187, 1, none⟩ = some (.int .i64 a0_1) := (blk_cell BK187.out 1).trans rfl
     have hcz15_2 : wr.cell? ⟨gb187, 2, none⟩ = some (.string a0_2) := (blk_cell BK187.out 2).trans rfl
     have hcz15_3 : wr.cell? ⟨gb187, 3, none⟩ = some (.int .u32 a0_3) := (blk_cell BK187.out 3).trans rfl
     have hcz15_4 : wr.cell? ⟨gb187, 4, none⟩ = some (.bool a0_4) := (blk_cell BK187.out 4).trans rfl
     have hfz15_0 := blk_frozen BK187.out 0
     have hfz15_1 := blk_frozen BK187.out 1
     have hfz15_2 := blk_frozen BK187.out 2
     have hfz15_3 := blk_frozen BK187.out 3
     have hfz15_4 := blk_frozen BK187.out 4
     try go_wp2
     have n0_ := Aside0.mk (blk_drew BK187.out)
     have n1_ := Aside0.mk (below_drew1 HB.out)
     clear BK187
     clear HB
     have BK187 := n0_
     have HB := n1_
     clear n0_ n1_
     have p189 : 0 ≤ (x5_1 : Int) := of_decide_eq_true (by first | (with_reducible assumption) | assumption)
     have q189 : x5_1 < (l0_0.length : Int) := of_decide_eq_true (by first | (with_reducible assumption) | assumption)
     obtain ⟨ad189, e189, hx189_0, hx189_1⟩ := at_T48 HR0_0.out x5_1 p189 q189
     have hw189_1 := hx189_1
     have hw189_0 := hx189_0
     cases e189
     replace hx189_0 := (HB.out.cell (World.block_lt_of_cell? w _ hx189_0)).trans hx189_0
     replace hx189_1 := (HB.out.cell (World.block_lt_of_cell? w _ hx189_1)).trans hx189_1
     replace p189 := eq_true p189
     replace q189 := eq_true q189
     refine start_ (n := 16) (S := fun w' => w'.cell? ⟨gb187, 0, none⟩ = some (.slice (some ad189) l0_0.length c0_0) ∧ w'.cell? ⟨gb187, 1, none⟩ = some (.int .i64 a0_1) ∧ w'.cell? ⟨gb187, 2, none⟩ = some (.string a0_2) ∧ w'.cell? ⟨gb187, 3, none⟩ = some (.int .u32 a0_3) ∧ w'.cell? ⟨gb187, 4, none⟩ = some (.bool a0_4) ∧ w'.cell? (ad189.add ((x5_1).toNat * 2)) = some (.string ((rd_T48 l0_0 x5_1).f0)) ∧ w'.cell? ⟨(ad189.add ((x5_1).toNat * 2)).block, (ad189.add ((x5_1).toNat * 2)).off + 1, none⟩ = some (.int .u64 ((rd_T48 l0_0 x5_1).f1))) (ds := []) d12x2 (by kernel_rfl) rfl rfl ⟨(blk_cell BK187.out 0).trans rfl, (blk_cell BK187.out 1).trans rfl, (blk_cell BK187.out 2).trans rfl, (blk_cell BK187.out 3).trans rfl, (blk_cell BK187.out 4).trans rfl, ((HB.out.cell (World.block_lt_of_cell? w _ hw189_0)).trans hw189_0), ((HB.out.cell (World.block_lt_of_cell? w _ hw189_1)).trans hw189_1)⟩ (fun hHeld => ?_); refine with_tabW headgateref12_Encode.tab7 headgateref12_Encode.bits7 (fun HT_ HW_ => ?_)
     generalize wr.drew = w16 at BK187 HB hx189_0 hx189_1 hHeld ⊢
     refine pon_ 0 (some 19) d12x5 HT_.out ?_
     refine pon_ 1 (some 20) d12x13 HT_.out ?_
     refine ptk_ 2 (some 21) d12x20 HT_.out HW_.out hHeld ?_
     refine pon_ 3 (some 22) d12x29 HT_.out ?_
     refine pon_ 4 (some 23) d12x34 HT_.out ?_
     refine pon_ 5 (some 24) d12x36 HT_.out ?_
     refine pon_ 7 (some 26) d12x38 HT_.out ?_
     refine pon_ 11 (some 30) d12x39 HT_.out ?_
     refine pon_ 12 (some 31) d12x40 HT_.out ?_
     refine ptk_ 6 (some 25) d12x56 HT_.out HW_.out hHeld ?_
     refine pon_ 8 (some 27) d12x58 HT_.out ?_
     refine pon_ 9 (some 28) d12x60 HT_.out ?_
     refine ptk_ 10 (some 29) d12x63 HT_.out HW_.out hHeld ?_
     refine ptk_ 13 (some 32) d12x64 HT_.out HW_.out hHeld ?_
     refine pon_ 14 (some 33) d12x65 HT_.out ?_
     refine pon_ 15 (some 34) d12x78 HT_.out ?_
     refine done_ (done_of HT_.out (by kernel_rfl)) ?_
     try go_wp2
     go_roundg k1
     case measure => have := HK1.out; omega
     case rel => exact ⟨(x4_1), (wrap64 (x5_1 + 1)), (by first | rfl | (simp; done) | (simp [*]; done)), (by first | rfl | (simp; done) | (simp [*]; done)), H', ⟨by have := HK1.out; omega⟩, ⟨bk_ BK187⟩, ⟨hb_ HB⟩⟩
    rw [if_pos c12] at H
    have c12b0 : (((rd_T48 l0_0 x5_1).f0).toList == a0_2.toList) = true := beq_iff_eq.mpr c12
    have c12b1 : (((rd_T48 l0_0 x5_1).f0).toList != a0_2.toList) = false := bne_eq_false_iff_eq.mpr c12
    clear c12
    have H' := Aside0.mk H
    clear H
    have hcz13_0 : wr.cell? ⟨gb187, 0, none⟩ = some (.slice A0_0 l0_0.length c0_0) := (blk_cell BK187.out 0).trans rfl
    have hcz13_1 : wr.cell? ⟨gb187, 1, none⟩ = some (.int .i64 a0_1) := (blk_cell BK187.out 1).trans rfl
    have hcz13_2 : wr.cell? ⟨gb187, 2, none⟩ = some (.string a0_2) := (blk_cell BK187.out 2).trans rfl
    have hcz13_3 : wr.cell? ⟨gb187, 3, none⟩ = some (.int .u32 a0_3) := (blk_cell BK187.out 3).trans rfl
    have hcz13_4 : wr.cell? ⟨gb187, 4, none⟩ = some (.bool a0_4) := (blk_cell BK187.out 4).trans rfl
    have hfz13_0 := blk_frozen BK187.out 0
    have hfz13_1 := blk_frozen BK187.out 1
    have hfz13_2 := blk_frozen BK187.out 2
    have hfz13_3 := blk_frozen BK187.out 3
    have hfz13_4 := blk_frozen BK187.out 4
    try go_wp2
    have n0_ := Aside0.mk (blk_drew BK187.out)
    have n1_ := Aside0.mk (below_drew1 HB.out)
    clear BK187
    clear HB
    have BK187 := n0_
    have HB := n1_
    clear n0_ n1_
    have p189 : 0 ≤ (x5_1 : Int) := of_decide_eq_true (by first | (with_reducible assumption) | assumption)
    have q189 : x5_1 < (l0_0.length : Int) := of_decide_eq_true (by first | (with_reducible assumption) | assumption)
    obtain ⟨ad189, e189, hx189_0, hx189_1⟩ := at_T48 HR0_0.out x5_1 p189 q189
    have hw189_1 := hx189_1
    have hw189_0 := hx189_0
    cases e189
    replace hx189_0 := (HB.out.cell (World.block_lt_of_cell? w _ hx189_0)).trans hx189_0
    replace hx189_1 := (HB.out.cell (World.block_lt_of_cell? w _ hx189_1)).trans hx189_1
    replace p189 := eq_true p189
    replace q189 := eq_true q189
    refine start_ (n := 16) (S := fun w' => w'.cell? ⟨gb187, 0, none⟩ = some (.slice (some ad189) l0_0.length c0_0) ∧ w'.cell? ⟨gb187, 1, none⟩ = some (.int .i64 a0_1) ∧ w'.cell? ⟨gb187, 2, none⟩ = some (.string a0_2) ∧ w'.cell? ⟨gb187, 3, none⟩ = some (.int .u32 a0_3) ∧ w'.cell? ⟨gb187, 4, none⟩ = some (.bool a0_4) ∧ w'.cell? (ad189.add ((x5_1).toNat * 2)) = some (.string ((rd_T48 l0_0 x5_1).f0)) ∧ w'.cell? ⟨(ad189.add ((x5_1).toNat * 2)).block, (ad189.add ((x5_1).toNat * 2)).off + 1, none⟩ = some (.int .u64 ((rd_T48 l0_0 x5_1).f1))) (ds := []) d12x2 (by kernel_rfl) rfl rfl ⟨(blk_cell BK187.out 0).trans rfl, (blk_cell BK187.out 1).trans rfl, (blk_cell BK187.out 2).trans rfl, (blk_cell BK187.out 3).trans rfl, (blk_cell BK187.out 4).trans rfl, ((HB.out.cell (World.block_lt_of_cell? w _ hw189_0)).trans hw189_0), ((HB.out.cell (World.block_lt_of_cell? w _ hw189_1)).trans hw189_1)⟩ (fun hHeld => ?_); refine with_tabW headgateref12_Encode.tab7 headgateref12_Encode.bits7 (fun HT_ HW_ => ?_)
    generalize wr.drew = w14 at BK187 HB hx189_0 hx189_1 hHeld ⊢
    refine pon_ 0 (some 19) d12x5 HT_.out ?_
    refine pon_ 1 (some 20) d12x13 HT_.out ?_
    refine ptk_ 2 (some 21) d12x20 HT_.out HW_.out hHeld ?_
    refine pon_ 3 (some 22) d12x29 HT_.out ?_
    refine pon_ 4 (some 23) d12x34 HT_.out ?_
    refine pon_ 5 (some 24) d12x36 HT_.out ?_
    refine pon_ 7 (some 26) d12x38 HT_.out ?_
    refine pon_ 11 (some 30) d12x39 HT_.out ?_
    refine pon_ 12 (some 31) d12x40 HT_.out ?_
    refine ptk_ 6 (some 25) d12x56 HT_.out HW_.out hHeld ?_
    refine pon_ 8 (some 27) d12x58 HT_.out ?_
    refine pon_ 9 (some 28) d12x60 HT_.out ?_
    refine ptk_ 10 (some 29) d12x63 HT_.out HW_.out hHeld ?_
    refine ptk_ 13 (some 32) d12x64 HT_.out HW_.out hHeld ?_
    refine pon_ 14 (some 33) d12x65 HT_.out ?_
    refine pon_ 15 (some 34) d12x78 HT_.out ?_
    refine done_ (done_of HT_.out (by kernel_rfl)) ?_
    try go_wp2
    go_roundg k1
    case measure => have := HK1.out; omega
    case rel => exact ⟨(wrap64 (x5_1 + 1)), (wrap64 (x5_1 + 1)), (by first | rfl | (simp; done) | (simp [*]; done)), (by first | rfl | (simp; done) | (simp [*]; done)), H', ⟨by have := HK1.out; omega⟩, ⟨bk_ BK187⟩, ⟨hb_ HB⟩⟩
   rw [if_neg c7] at H
   have c7b0 : decide (x5_1 < (l0_0.length : Int)) = false := decide_eq_false c7
   clear c7
   have HC17 := Aside0.mk H
   clear H
   have hcz18_0 : wr.cell? ⟨gb187, 0, none⟩ = some (.slice A0_0 l0_0.length c0_0) := (blk_cell BK187.out 0).trans rfl
   have hcz18_1 : wr.cell? ⟨gb187, 1, none⟩ = some (.int .i64 a0_1) := (blk_cell BK187.out 1).trans rfl
   have hcz18_2 : wr.cell? ⟨gb187, 2, none⟩ = some (.string a0_2) := (blk_cell BK187.out 2).trans rfl
   have hcz18_3 : wr.cell? ⟨gb187, 3, none⟩ = some (.int .u32 a0_3) := (blk_cell BK187.out 3).trans rfl
   have hcz18_4 : wr.cell? ⟨gb187, 4, none⟩ = some (.bool a0_4) := (blk_cell BK187.out 4).trans rfl
   have hfz18_0 := blk_frozen BK187.out 0
   have hfz18_1 := blk_frozen BK187.out 1
   have hfz18_2 := blk_frozen BK187.out 2
   have hfz18_3 := blk_frozen BK187.out 3
   have hfz18_4 := blk_frozen BK187.out 4
   go_upto_if 38 with (fail)
   go_cut [6] (fun v6 wc => ∃ (kq : Nat) (x6_16 : Int), v6 = .int .u8 x6_16 ∧ Aside0 (headgateref12_Encode.j1 kq x4_1 x6_16 l0_0 a0_1 a0_2 a0_3 a0_4 = some (r1, r2)) ∧ Aside0 (kq ≤ k1) ∧ Aside0 (wc.heap[gb187]? = some (.cells #[(.slice A0_0 l0_0.length c0_0), .int .i64 a0_1, .string a0_2, .int .u32 a0_3, .bool a0_4] 27 (0, 0))) ∧ Aside0 (Below w.heap.size w wc))
   case first =>
    have H := HC17.out
    clear HC17
    by_cases c19 : a0_4 = true
    ·subst c19
     have H1 := H
     rw [if_pos rfl] at H1
     clear H
     have H := H1
     clear H1
     have H' := Aside0.mk H
     clear H
     go_wp2
     go_meet
     case rel => exact ⟨_, (1), (by first | rfl | (simp; done) | (simp [*]; done)), H', ⟨by have := HK1.out; first | omega | exact Nat.le_refl _⟩, ⟨bk_ BK187⟩, ⟨hb_ HB⟩⟩
    replace c19 := Bool.eq_false_iff.mpr c19
    subst c19
    have H1 := H
    rw [if_neg (show ¬ (false = true) by decide)] at H1
    clear H
    have H := H1
    clear H1
    have H' := Aside0.mk H
    clear H
    go_wp2
    go_meet
    case rel => exact ⟨_, (0), (by first | rfl | (simp; done) | (simp [*]; done)), H', ⟨by have := HK1.out; first | omega | exact Nat.le_refl _⟩, ⟨bk_ BK187⟩, ⟨hb_ HB⟩⟩
   case rest =>
    clear HC17
    try clear c1
    try clear p1
    try clear q1
    try clear hx1
    try clear c2
    try clear p2
    try clear c3
    try clear p6
    try clear c7
    try clear c7b0
    try clear c8
    try clear c8b0
    try clear c8b1
    try clear c8b2
    try clear c11
    try clear c11b0
    try clear c12
    try clear c12b0
    try clear c12b1
    try clear p18
    try clear q18
    try clear hx18
    try clear c19
    try clear hcz13_0
    try clear hcz13_1
    try clear hcz13_2
    try clear hcz13_3
    try clear hcz13_4
    try clear hcz15_0
    try clear hcz15_1
    try clear hcz15_2
    try clear hcz15_3
    try clear hcz15_4
    try clear hcz18_0
    try clear hcz18_1
    try clear hcz18_2
    try clear hcz18_3
    try clear hcz18_4
    try clear hcz5_0
    try clear hcz5_1
    try clear hcz5_2
    try clear hcz5_3
    try clear hcz5_4
    try clear hcz9_0
    try clear hcz9_1
    try clear hcz9_2
    try clear hcz9_3
    try clear hcz9_4
    try clear hfz13_0
    try clear hfz13_1
    try clear hfz13_2
    try clear hfz13_3
    try clear hfz13_4
    try clear hfz15_0
    try clear hfz15_1
    try clear hfz15_2
    try clear hfz15_3
    try clear hfz15_4
    try clear hfz18_0
    try clear hfz18_1
    try clear hfz18_2
    try clear hfz18_3
    try clear hfz18_4
    try clear hfz5_0
    try clear hfz5_1
    try clear hfz5_2
    try clear hfz5_3
    try clear hfz5_4
    try clear hfz9_0
    try clear hfz9_1
    try clear hfz9_2
    try clear hfz9_3
    try clear hfz9_4
    try clear hx189_0
    try clear hx189_1
    try clear p189
    try clear p2
    try clear q189
    obtain ⟨kq, x6_16, rfl, HA, HJ16, BK187, HB⟩ := hcut
    cases kq with
    | zero => exact absurd HA.out (by simp [headgateref12_Encode.j1])
    | succ kj16 =>
     have H := HA.out
     clear HA
     simp only [headgateref12_Encode.j1] at H
     replace H := Option.bind_eq_some_iff.mp H
     obtain ⟨t190, A200, H⟩ := H
     try dsimp only at H
     have A20 := Aside0.mk A200
     clear A200
     refine neg_first (p := (4 + t190.size ≤ 9223372036854775807)) (fun c21 => ?_) (fun c21 => ?_)
     ·rw [if_neg c21] at H
      exact absurd H (by simp)
     rw [if_pos c21] at H
     have c21b0 := eq_true c21
     have c21b1 : decide (4 + t190.size ≤ 9223372036854775807) = true := decide_eq_true c21
     try have c21b2 : (9223372036854775807 < 4 + t190.size) = False := eq_false (Nat.not_lt.2 c21)
     obtain ⟨y191, hy191⟩ : ∃ y_ : List Int, y_ = (([(a0_1) % 256, (x4_1) % 256, x6_16, ((l0_0.length : Int)) % 256] : List Int)) := ⟨_, rfl⟩
     replace H : (if ((⟨#[72, 71, 82, 84]⟩ : ByteArray) ++ t190).size + (strOfNums y191).size ≤ 9223372036854775807 then (headgateref12_Encode.l1 kj16 (((⟨#[72, 71, 82, 84]⟩ : ByteArray) ++ t190) ++ (strOfNums y191)) 0 l0_0 a0_1 a0_2 a0_3 a0_4) else (none)) = some (r1, r2) := by first | (rw [hy191]; with_reducible exact H) | (have H2_ := (Option.bind_some _ _).symm.trans H; rw [hy191]; with_reducible exact H2_) | (have H2_ := (Option.bind_some _ _).symm.trans H; with_reducible exact H2_) | with_reducible exact H | (rw [hy191]; exact H) | exact H
     have Ny191 := Aside0.mk hy191
     clear hy191
     refine neg_first (p := (((⟨#[72, 71, 82, 84]⟩ : ByteArray) ++ t190).size + (strOfNums y191).size ≤ 9223372036854775807)) (fun c22 => ?_) (fun c22 => ?_)
     ·rw [if_neg c22] at H
      exact absurd H (by simp)
     rw [if_pos c22] at H
     have c22b0 := eq_true c22
     have c22b1 : decide (((⟨#[72, 71, 82, 84]⟩ : ByteArray) ++ t190).size + (strOfNums y191).size ≤ 9223372036854775807) = true := decide_eq_true c22
     try have c22b2 : (9223372036854775807 < ((⟨#[72, 71, 82, 84]⟩ : ByteArray) ++ t190).size + (strOfNums y191).size) = False := eq_false (Nat.not_lt.2 c22)
     (try have c22b4 : (9223372036854775807 < (⟨#[72, 71, 82, 84]⟩ : ByteArray).size + t190.size + (strOfNums y191).size) = False := eq_false (by have h_ := c22; simp only [ByteArray.size_append, ByteArray.size_extract] at h_; omega)); (try have c22b5 : (9223372036854775807 < 4 + t190.size + (strOfNums y191).size) = False := eq_false (by have h_ := c22; simp only [ByteArray.size_append] at h_; have e0_ : (⟨#[72, 71, 82, 84]⟩ : ByteArray).size = 4 := rfl; omega))
     have H' := Aside0.mk H
     clear H
     try go_wp2
     have n0_ := Aside0.mk (blk_drew BK187.out)
     have n1_ := Aside0.mk (below_drew1 HB.out)
     clear BK187
     clear HB
     have BK187 := n0_
     have HB := n1_
     clear n0_ n1_
     refine start_ (n := 20) (S := fun w' => w'.cell? ⟨gb187, 0, none⟩ = some (.slice A0_0 l0_0.length c0_0) ∧ w'.cell? ⟨gb187, 1, none⟩ = some (.int .i64 a0_1) ∧ w'.cell? ⟨gb187, 2, none⟩ = some (.string a0_2) ∧ w'.cell? ⟨gb187, 3, none⟩ = some (.int .u32 a0_3) ∧ w'.cell? ⟨gb187, 4, none⟩ = some (.bool a0_4)) (ds := []) d12x1 (by kernel_rfl) rfl rfl ⟨(blk_cell BK187.out 0).trans rfl, (blk_cell BK187.out 1).trans rfl, (blk_cell BK187.out 2).trans rfl, (blk_cell BK187.out 3).trans rfl, (blk_cell BK187.out 4).trans rfl⟩ (fun hHeld => ?_); refine with_tabW headgateref12_Encode.tab12 headgateref12_Encode.bits12 (fun HT_ HW_ => ?_)
     generalize wc.drew = w23 at BK187 HB hHeld ⊢
     refine pon_ 0 (some 39) d12x4 HT_.out ?_
     refine pon_ 5 (some 44) d12x6 HT_.out ?_
     refine pon_ 6 (some 45) d12x7 HT_.out ?_
     refine pon_ 9 (some 48) d12x8 HT_.out ?_
     refine pon_ 10 (some 49) d12x9 HT_.out ?_
     refine pon_ 11 (some 50) d12x10 HT_.out ?_
     refine pon_ 12 (some 51) d12x11 HT_.out ?_
     refine ptk_ 1 (some 40) d12x14 HT_.out HW_.out hHeld ?_
     refine pon_ 2 (some 41) d12x21 HT_.out ?_
     refine ptk_ 7 (some 46) d12x22 HT_.out HW_.out hHeld ?_
     refine pon_ 8 (some 47) d12x23 HT_.out ?_
     refine ptk_ 13 (some 52) d12x24 HT_.out HW_.out hHeld ?_
     refine pon_ 14 (some 53) d12x25 HT_.out ?_
     refine pon_ 15 (some 54) d12x26 HT_.out ?_
     refine join_ (σ := Value) 2 d12x70 (fun s_ => [(42, .string t190), (55, s_), (56, .string (strOfNums y191)), (43, .string ((⟨#[72, 71, 82, 84]⟩ : ByteArray) ++ t190))]) (fun s_ w' => (w'.cell? ⟨gb187, 0, none⟩ = some (.slice A0_0 l0_0.length c0_0) ∧ w'.cell? ⟨gb187, 1, none⟩ = some (.int .i64 a0_1) ∧ w'.cell? ⟨gb187, 2, none⟩ = some (.string a0_2) ∧ w'.cell? ⟨gb187, 3, none⟩ = some (.int .u32 a0_3) ∧ w'.cell? ⟨gb187, 4, none⟩ = some (.bool a0_4)) ∧ (Kd.R (Kd.int .u8) 5 w' w.heap.size (fun _ => True) s_ y191) ∧ (w'.heap[gb187]? = some (.cells #[.slice A0_0 l0_0.length c0_0, .int .i64 a0_1, .string a0_2, .int .u32 a0_3, .bool a0_4] 27 (0, 0))) ∧ (Below w.heap.size w w')) ?_ ?_
     rotate_left
     ·intro hCont
      refine two_ (i := 3) (j := 16) (Ni := some 42) (Nj := some 55) d12x31 d12x27 rfl rfl rfl rfl (two_of HT_.out (by kernel_rfl)) (by decide) (by decide) (fun K hK => ?_) (fun K hK => ?_)
      ·skip
       refine goes_ Tryd.func22 (by kernel_rfl) rfl #[.int .u64 (IntKind.u64.wrap (a0_3)), .int .i64 4] (by rfl) rfl rfl (by (try simp only [List.map_toArray, List.map_cons, List.map_nil]); first | done | rfl | (simp only [List.length_drop, List.length_take]; rfl)) ?_
       with_reducible refine (headgateref01_PutBig.calls kj16 (IntKind.u64.wrap (a0_3)) 4 t190 _ A20.out).mono ?_
       rintro e w24 ⟨rfl, hb⟩
       refine ⟨_, rfl, ?_⟩
       have n0_ := Aside0.mk (blk_below (bk_ BK187) hb)
       have n1_ := Aside0.mk (below_step (hb_ HB) hb)
       clear BK187
       clear HB
       have BK187 := n0_
       have HB := n1_
       clear n0_ n1_
       (try clear hb)
       (try clear hb2)
       (try clear hk)
       (try clear hi)
       refine hK.out _ _ ⟨(blk_cell BK187.out 0).trans rfl, (blk_cell BK187.out 1).trans rfl, (blk_cell BK187.out 2).trans rfl, (blk_cell BK187.out 3).trans rfl, (blk_cell BK187.out 4).trans rfl⟩ (fun hHeld => ?_)
       clear hK K
       refine norm_ (a' := ?_) ?_ ?_
       rotate_left
       ·show Act.put _ (some 42) _ = _
        simp only [Act.put, la_, lb_, lc_, i64_w, i32_w]
        rfl
       refine pon_ 4 (some 43) d12x66 HT_.out ?_
       refine one_ (i := 16) (N := some 55) d12x68 rfl rfl (one_of HT_.out (by kernel_rfl)) (by decide) (fun K hK => ?_)
       refine Kd.R_lit_step (Kd.int .u8) _ 5 ?hg (N := 55) ?hd (xs := ([(a0_1) % 256, (x4_1) % 256, x6_16, ((l0_0.length : Int)) % 256] : List Int)) (inner := [.int .u8 ((a0_1) % 256), .int .u8 ((x4_1) % 256), .int .u8 x6_16, .int .u8 (((l0_0.length : Int)) % 256)]) (ok := fun _ => True) (okp := fun _ => True) ?hr ?hp (fun _ hk => hk) trivial (Below.refl _ _) (Nat.le_refl _) (by simp) ?_; (case hd => rfl); (case hg => rfl); (case hr => first | (go_simp; done) | (go_simp; rfl)); (case hp => exact (Reps.one (show Kd.M (Kd.int .u8) _ _ _ ((a0_1) % 256) [.int .u8 ((a0_1) % 256)] from rfl) (Reps.one (show Kd.M (Kd.int .u8) _ _ _ ((x4_1) % 256) [.int .u8 ((x4_1) % 256)] from rfl) (Reps.one (show Kd.M (Kd.int .u8) _ _ _ x6_16 [.int .u8 x6_16] from rfl) (Reps.one (show Kd.M (Kd.int .u8) _ _ _ (((l0_0.length : Int)) % 256) [.int .u8 (((l0_0.length : Int)) % 256)] from rfl) (Reps.none _ _))))))
       intro v192 w25 ho26 hb hg_ hnew_
       clear hg_ hnew_
       (first | rw [← Ny191.out] at ho26 | (simp only [Int.reduceToNat] at ho26; rw [← Ny191.out] at ho26))
       have n0_ := Aside0.mk (Kd.R_lower ho26 (below_size (hb_ HB)))
       have n1_ := Aside0.mk (blk_below (bk_ BK187) hb)
       have n2_ := Aside0.mk (below_step (hb_ HB) hb)
       clear BK187
       clear HB
       have HO193 := n0_
       have BK187 := n1_
       have HB := n2_
       clear n0_ n1_ n2_
       clear hb ho26
       refine hK.out _ _ ⟨(blk_cell BK187.out 0).trans rfl, (blk_cell BK187.out 1).trans rfl, (blk_cell BK187.out 2).trans rfl, (blk_cell BK187.out 3).trans rfl, (blk_cell BK187.out 4).trans rfl⟩ (fun hHeld => ?_)
       clear hK K
       refine norm_ (a' := ?_) ?_ ?_
       rotate_left
       ·show Act.put _ (some 55) _ = _
        simp only [Act.put, la_, lb_, lc_, i64_w, i32_w]
        rfl
       refine one_ (i := 17) (N := some 56) d12x70 rfl rfl (one_of HT_.out (by kernel_rfl)) (by decide) (fun K hK => ?_)
       have hcv27 := own_string (P := Tryd.prog) Tryd.underlying44 Tryd.underlying5 Tryd.underlying9 (Kd.own_of_R HO193.out)
       refine value_ (w1 := ?_) (v := ?_) (by rfl) rfl ?_ ?_
       rotate_left 2
       ·go_simp
        constructor
        ·rfl
        ·rfl
       clear hcv27
       refine hK.out _ _ ⟨(blk_cell BK187.out 0).trans rfl, (blk_cell BK187.out 1).trans rfl, (blk_cell BK187.out 2).trans rfl, (blk_cell BK187.out 3).trans rfl, (blk_cell BK187.out 4).trans rfl⟩ (fun hHeld => ?_)
       clear hK K
       refine norm_ (a' := ?_) ?_ ?_
       rotate_left
       ·show Act.put _ (some 56) _ = _
        simp only [Act.put, la_, lb_, lc_, i64_w, i32_w]
        rfl
       exact norm_ (by simp only [putAll, Act.put, la_, lb_, lc_]) (hCont (v192) _ ⟨hHeld, (by (with_reducible repeat (first | apply Kd.R_alloc | apply Kd.R_drewN | apply Kd.R_drew)); exact HO193.out), (bk_ BK187), (hb_ HB)⟩)
      ·skip
       refine Kd.R_lit_step (Kd.int .u8) _ 5 ?hg (N := 55) ?hd (xs := ([(a0_1) % 256, (x4_1) % 256, x6_16, ((l0_0.length : Int)) % 256] : List Int)) (inner := [.int .u8 ((a0_1) % 256), .int .u8 ((x4_1) % 256), .int .u8 x6_16, .int .u8 (((l0_0.length : Int)) % 256)]) (ok := fun _ => True) (okp := fun _ => True) ?hr ?hp (fun _ hk => hk) trivial (Below.refl _ _) (Nat.le_refl _) (by simp) ?_; (case hd => rfl); (case hg => rfl); (case hr => first | (go_simp; done) | (go_simp; rfl)); (case hp => exact (Reps.one (show Kd.M (Kd.int .u8) _ _ _ ((a0_1) % 256) [.int .u8 ((a0_1) % 256)] from rfl) (Reps.one (show Kd.M (Kd.int .u8) _ _ _ ((x4_1) % 256) [.int .u8 ((x4_1) % 256)] from rfl) (Reps.one (show Kd.M (Kd.int .u8) _ _ _ x6_16 [.int .u8 x6_16] from rfl) (Reps.one (show Kd.M (Kd.int .u8) _ _ _ (((l0_0.length : Int)) % 256) [.int .u8 (((l0_0.length : Int)) % 256)] from rfl) (Reps.none _ _))))))
       intro v192 w24 ho25 hb hg_ hnew_
       clear hg_ hnew_
       (first | rw [← Ny191.out] at ho25 | (simp only [Int.reduceToNat] at ho25; rw [← Ny191.out] at ho25))
       have n0_ := Aside0.mk (Kd.R_lower ho25 (below_size (hb_ HB)))
       have n1_ := Aside0.mk (blk_below (bk_ BK187) hb)
       have n2_ := Aside0.mk (below_step (hb_ HB) hb)
       clear BK187
       clear HB
       have HO193 := n0_
       have BK187 := n1_
       have HB := n2_
       clear n0_ n1_ n2_
       clear hb ho25
       refine hK.out _ _ ⟨(blk_cell BK187.out 0).trans rfl, (blk_cell BK187.out 1).trans rfl, (blk_cell BK187.out 2).trans rfl, (blk_cell BK187.out 3).trans rfl, (blk_cell BK187.out 4).trans rfl⟩ (fun hHeld => ?_)
       clear hK K
       refine norm_ (a' := ?_) ?_ ?_
       rotate_left
       ·show Act.put _ (some 55) _ = _
        simp only [Act.put, la_, lb_, lc_, i64_w, i32_w]
        rfl
       refine two_ (i := 3) (j := 17) (Ni := some 42) (Nj := some 56) d12x32 d12x28 rfl rfl rfl rfl (two_of HT_.out (by kernel_rfl)) (by decide) (by decide) (fun K hK => ?_) (fun K hK => ?_)
       ·skip
        refine goes_ Tryd.func22 (by kernel_rfl) rfl #[.int .u64 (IntKind.u64.wrap (a0_3)), .int .i64 4] (by rfl) rfl rfl (by (try simp only [List.map_toArray, List.map_cons, List.map_nil]); first | done | rfl | (simp only [List.length_drop, List.length_take]; rfl)) ?_
        with_reducible refine (headgateref01_PutBig.calls kj16 (IntKind.u64.wrap (a0_3)) 4 t190 _ A20.out).mono ?_
        rintro e w26 ⟨rfl, hb⟩
        refine ⟨_, rfl, ?_⟩
        have n0_ := Aside0.mk (Kd.R_below (by (with_reducible repeat (first | apply Kd.R_alloc | apply Kd.R_drewN | apply Kd.R_drew)); exact HO193.out) hb)
        have n1_ := Aside0.mk (blk_below (bk_ BK187) hb)
        have n2_ := Aside0.mk (below_step (hb_ HB) hb)
        clear HO193
        clear BK187
        clear HB
        have HO193 := n0_
        have BK187 := n1_
        have HB := n2_
        clear n0_ n1_ n2_
        (try clear hb)
        (try clear hb2)
        (try clear hk)
        (try clear hi)
        refine hK.out _ _ ⟨(blk_cell BK187.out 0).trans rfl, (blk_cell BK187.out 1).trans rfl, (blk_cell BK187.out 2).trans rfl, (blk_cell BK187.out 3).trans rfl, (blk_cell BK187.out 4).trans rfl⟩ (fun hHeld => ?_)
        clear hK K
        refine norm_ (a' := ?_) ?_ ?_
        rotate_left
        ·show Act.put _ (some 42) _ = _
         simp only [Act.put, la_, lb_, lc_, i64_w, i32_w]
         rfl
        refine pon_ 4 (some 43) d12x68 HT_.out ?_
        refine one_ (i := 17) (N := some 56) d12x70 rfl rfl (one_of HT_.out (by kernel_rfl)) (by decide) (fun K hK => ?_)
        have hcv27 := own_string (P := Tryd.prog) Tryd.underlying44 Tryd.underlying5 Tryd.underlying9 (Kd.own_of_R HO193.out)
        refine value_ (w1 := ?_) (v := ?_) (by rfl) rfl ?_ ?_
        rotate_left 2
        ·go_simp
         constructor
         ·rfl
         ·rfl
        clear hcv27
        refine hK.out _ _ ⟨(blk_cell BK187.out 0).trans rfl, (blk_cell BK187.out 1).trans rfl, (blk_cell BK187.out 2).trans rfl, (blk_cell BK187.out 3).trans rfl, (blk_cell BK187.out 4).trans rfl⟩ (fun hHeld => ?_)
        clear hK K
        refine norm_ (a' := ?_) ?_ ?_
        rotate_left
        ·show Act.put _ (some 56) _ = _
         simp only [Act.put, la_, lb_, lc_, i64_w, i32_w]
         rfl
        exact norm_ (by simp only [putAll, Act.put, la_, lb_, lc_]) (hCont (v192) _ ⟨hHeld, (by (with_reducible repeat (first | apply Kd.R_alloc | apply Kd.R_drewN | apply Kd.R_drew)); exact HO193.out), (bk_ BK187), (hb_ HB)⟩)
       ·skip
        have hcv26 := own_string (P := Tryd.prog) Tryd.underlying44 Tryd.underlying5 Tryd.underlying9 (Kd.own_of_R HO193.out)
        refine value_ (w1 := ?_) (v := ?_) (by rfl) rfl ?_ ?_
        rotate_left 2
        ·go_simp
         constructor
         ·rfl
         ·rfl
        clear hcv26
        refine hK.out _ _ ⟨(blk_cell BK187.out 0).trans rfl, (blk_cell BK187.out 1).trans rfl, (blk_cell BK187.out 2).trans rfl, (blk_cell BK187.out 3).trans rfl, (blk_cell BK187.out 4).trans rfl⟩ (fun hHeld => ?_)
        clear hK K
        refine norm_ (a' := ?_) ?_ ?_
        rotate_left
        ·show Act.put _ (some 56) _ = _
         simp only [Act.put, la_, lb_, lc_, i64_w, i32_w]
         rfl
        refine one_ (i := 3) (N := some 42) d12x33 rfl rfl (one_of HT_.out (by kernel_rfl)) (by decide) (fun K hK => ?_)
        refine goes_ Tryd.func22 (by kernel_rfl) rfl #[.int .u64 (IntKind.u64.wrap (a0_3)), .int .i64 4] (by rfl) rfl rfl (by (try simp only [List.map_toArray, List.map_cons, List.map_nil]); first | done | rfl | (simp only [List.length_drop, List.length_take]; rfl)) ?_
        with_reducible refine (headgateref01_PutBig.calls kj16 (IntKind.u64.wrap (a0_3)) 4 t190 _ A20.out).mono ?_
        rintro e w27 ⟨rfl, hb⟩
        refine ⟨_, rfl, ?_⟩
        have n0_ := Aside0.mk (Kd.R_below (by (with_reducible repeat (first | apply Kd.R_alloc | apply Kd.R_drewN | apply Kd.R_drew)); exact HO193.out) hb)
        have n1_ := Aside0.mk (blk_below (bk_ BK187) hb)
        have n2_ := Aside0.mk (below_step (hb_ HB) hb)
        clear HO193
        clear BK187
        clear HB
        have HO193 := n0_
        have BK187 := n1_
        have HB := n2_
        clear n0_ n1_ n2_
        (try clear hb)
        (try clear hb2)
        (try clear hk)
        (try clear hi)
        refine hK.out _ _ ⟨(blk_cell BK187.out 0).trans rfl, (blk_cell BK187.out 1).trans rfl, (blk_cell BK187.out 2).trans rfl, (blk_cell BK187.out 3).trans rfl, (blk_cell BK187.out 4).trans rfl⟩ (fun hHeld => ?_)
        clear hK K
        refine norm_ (a' := ?_) ?_ ?_
        rotate_left
        ·show Act.put _ (some 42) _ = _
         simp only [Act.put, la_, lb_, lc_, i64_w, i32_w]
         rfl
        refine pon_ 4 (some 43) d12x70 HT_.out ?_
        exact norm_ (by simp only [putAll, Act.put, la_, lb_, lc_]) (hCont (v192) _ ⟨hHeld, (by (with_reducible repeat (first | apply Kd.R_alloc | apply Kd.R_drewN | apply Kd.R_drew)); exact HO193.out), (bk_ BK187), (hb_ HB)⟩)
     rintro v192 w28 ⟨hS_, h0_, h1_, h2_⟩
     have n0_ : Aside0 (Kd.R (Kd.int .u8) 5 w28 w.heap.size (fun _ => True) v192 y191) := ⟨h0_⟩
     have n1_ : Aside0 (w28.heap[gb187]? = some (.cells #[.slice A0_0 l0_0.length c0_0, .int .i64 a0_1, .string a0_2, .int .u32 a0_3, .bool a0_4] 27 (0, 0))) := ⟨h1_⟩
     have n2_ : Aside0 (Below w.heap.size w w28) := ⟨h2_⟩
     clear BK187
     clear HB
     clear h0_ h1_ h2_
     have HO193 := n0_
     have BK187 := n1_
     have HB := n2_
     clear n0_ n1_ n2_
     have hHeld : w28.cell? ⟨gb187, 0, none⟩ = some (.slice A0_0 l0_0.length c0_0) ∧ w28.cell? ⟨gb187, 1, none⟩ = some (.int .i64 a0_1) ∧ w28.cell? ⟨gb187, 2, none⟩ = some (.string a0_2) ∧ w28.cell? ⟨gb187, 3, none⟩ = some (.int .u32 a0_3) ∧ w28.cell? ⟨gb187, 4, none⟩ = some (.bool a0_4) := hS_
     refine norm_ (a' := ?_) ?_ ?_
     rotate_left
     ·simp only [putAll, Act.put, la_, lb_, lc_]
      rfl
     refine pon_ 18 (some 57) d12x72 HT_.out ?_
     refine pon_ 19 (some 7) d12x77 HT_.out ?_
     refine done_ (done_of HT_.out (by kernel_rfl)) ?_
     try go_wp2
     go_loopg [7, 8] kj16 (fun kq v7 v8 w' => ∃ (x7_3 : ByteArray) (x8_3 : Int), v7 = .string x7_3 ∧ v8 = .int .i64 x8_3 ∧ Aside0 (headgateref12_Encode.l1 kq x7_3 x8_3 l0_0 a0_1 a0_2 a0_3 a0_4 = some (r1, r2)) ∧ Aside0 (kq ≤ kj16) ∧ Aside0 (w'.heap[gb187]? = some (.cells #[(.slice A0_0 l0_0.length c0_0), .int .i64 a0_1, .string a0_2, .int .u32 a0_3, .bool a0_4] 27 (0, 0))) ∧ Aside0 (Below w.heap.size w w'))
     case atStart => exact ⟨(((⟨#[72, 71, 82, 84]⟩ : ByteArray) ++ t190) ++ (strOfNums y191)), (0), (by first | rfl | (simp; done) | (simp [*]; done)), (by first | rfl | (simp; done) | (simp [*]; done)), H', ⟨Nat.le_refl _⟩, ⟨bk_ BK187⟩, ⟨hb_ HB⟩⟩
     case round =>
      clear H'
      try clear c1
      try clear p1
      try clear q1
      try clear hx1
      try clear c2
      try clear p2
      try clear hcv2
      try clear c3
      try clear p6
      try clear c7
      try clear c7b0
      try clear c8
      try clear c8b0
      try clear c8b1
      try clear c8b2
      try clear c11
      try clear c11b0
      try clear c12
      try clear c12b0
      try clear c12b1
      try clear p18
      try clear q18
      try clear hx18
      try clear c19
      try clear c21
      try clear c21b0
      try clear c21b1
      try clear c21b2
      try clear c22
      try clear c22b0
      try clear c22b1
      try clear c22b2
      try clear hcv26
      try clear hcv27
      try clear hcz13_0
      try clear hcz13_1
      try clear hcz13_2
      try clear hcz13_3
      try clear hcz13_4
      try clear hcz15_0
      try clear hcz15_1
      try clear hcz15_2
      try clear hcz15_3
      try clear hcz15_4
      try clear hcz18_0
      try clear hcz18_1
      try clear hcz18_2
      try clear hcz18_3
      try clear hcz18_4
      try clear hcz5_0
      try clear hcz5_1
      try clear hcz5_2
      try clear hcz5_3
      try clear hcz5_4
      try clear hcz9_0
      try clear hcz9_1
      try clear hcz9_2
      try clear hcz9_3
      try clear hcz9_4
      try clear hfz13_0
      try clear hfz13_1
      try clear hfz13_2
      try clear hfz13_3
      try clear hfz13_4
      try clear hfz15_0
      try clear hfz15_1
      try clear hfz15_2
      try clear hfz15_3
      try clear hfz15_4
      try clear hfz18_0
      try clear hfz18_1
      try clear hfz18_2
      try clear hfz18_3
      try clear hfz18_4
      try clear hfz5_0
      try clear hfz5_1
      try clear hfz5_2
      try clear hfz5_3
      try clear hfz5_4
      try clear hfz9_0
      try clear hfz9_1
      try clear hfz9_2
      try clear hfz9_3
      try clear hfz9_4
      try clear hx189_0
      try clear hx189_1
      try clear p1
      try clear p18
      try clear p189
      try clear p2
      try clear p6
      try clear q1
      try clear q18
      try clear q189
      obtain ⟨x7_3, x8_3, rfl, rfl, HA, HK3, BK187, HB⟩ := hrel
      cases gk with
      | zero => exact absurd HA.out (by simp [headgateref12_Encode.l1])
      | succ k3 =>
       have H := HA.out
       clear HA
       simp only [headgateref12_Encode.l1] at H
       refine neg_first (p := (x8_3 < (l0_0.length : Int))) (fun c29 => ?_) (fun c29 => ?_)
       ·rw [if_neg c29] at H
        have c29b0 : decide (x8_3 < (l0_0.length : Int)) = false := decide_eq_false c29
        clear c29
        replace H := Option.bind_eq_some_iff.mp H
        obtain ⟨t201, A420, H⟩ := H
        try dsimp only at H
        have A42 := Aside0.mk A420
        clear A420
        refine neg_first (p := (x7_3.size + t201.size ≤ 9223372036854775807)) (fun c43 => ?_) (fun c43 => ?_)
        ·rw [if_neg c43] at H
         exact absurd H (by simp)
        rw [if_pos c43] at H
        have c43b0 := eq_true c43
        have c43b1 : decide (x7_3.size + t201.size ≤ 9223372036854775807) = true := decide_eq_true c43
        try have c43b2 : (9223372036854775807 < x7_3.size + t201.size) = False := eq_false (Nat.not_lt.2 c43)
        simp only [Option.some.injEq, Prod.mk.injEq] at H
        obtain ⟨rfl, rfl⟩ := H
        have hcz44_0 : wr.cell? ⟨gb187, 0, none⟩ = some (.slice A0_0 l0_0.length c0_0) := (blk_cell BK187.out 0).trans rfl
        have hcz44_1 : wr.cell? ⟨gb187, 1, none⟩ = some (.int .i64 a0_1) := (blk_cell BK187.out 1).trans rfl
        have hcz44_2 : wr.cell? ⟨gb187, 2, none⟩ = some (.string a0_2) := (blk_cell BK187.out 2).trans rfl
        have hcz44_3 : wr.cell? ⟨gb187, 3, none⟩ = some (.int .u32 a0_3) := (blk_cell BK187.out 3).trans rfl
        have hcz44_4 : wr.cell? ⟨gb187, 4, none⟩ = some (.bool a0_4) := (blk_cell BK187.out 4).trans rfl
        have hfz44_0 := blk_frozen BK187.out 0
        have hfz44_1 := blk_frozen BK187.out 1
        have hfz44_2 := blk_frozen BK187.out 2
        have hfz44_3 := blk_frozen BK187.out 3
        have hfz44_4 := blk_frozen BK187.out 4
        go_wp2_with (first | ((with_reducible refine gate_callee (f := 23) rfl ?_); refine goesL_ (some 94) rfl rfl Tryd.func23 (by kernel_rfl) rfl #[.string x7_3] rfl (by (try simp only [List.map_toArray, List.map_cons, List.map_nil]); first | done | rfl | (simp only [List.length_drop, List.length_take]; rfl)) ?_; (with_reducible refine (headgateref02_Digest.calls k3 x7_3 t201 _ A42.out).mono ?_); rintro e w45 ⟨rfl, hb⟩; refine ⟨_, rfl, ?_⟩; have n0_ := Aside0.mk (blk_below (bk_ BK187) hb); have n1_ := Aside0.mk (below_step (hb_ HB) hb); clear BK187; clear HB; have BK187 := n0_; have HB := n1_; clear n0_ n1_; (try clear hb); (try clear hb2); (try clear hk); (try clear hi)))
        go_ret2
        exact ⟨by first | rfl | (simp [errW_none, errW_some] <;> rfl) | (simp [*, errW_none, errW_some] <;> rfl) | (simp [bt, *]; done) | (unfold bt; simp [*]; done), by repeat (first | (with_reducible first | exact HB.out | apply below_alloc | apply pw_below_drewN | apply below_drew1 | refine below_set ?_ GE187.out) | exact HB.out)⟩
       rw [if_pos c29] at H
       have c29b0 : decide (x8_3 < (l0_0.length : Int)) = true := decide_eq_true c29
       clear c29
       refine neg_first (p := (0 ≤ x8_3)) (fun c30 => ?_) (fun c30 => ?_)
       ·rw [if_neg c30] at H
        exact absurd H (by simp)
       rw [if_pos c30] at H
       have c30b0 : decide (0 ≤ x8_3) = true := decide_eq_true c30
       clear c30
       replace H := Option.bind_eq_some_iff.mp H
       obtain ⟨t195, A310, H⟩ := H
       try dsimp only at H
       have A31 := Aside0.mk A310
       clear A310
       obtain ⟨y197, hy197⟩ : ∃ y_ : List Int, y_ = (([((((rd_T48 l0_0 x8_3).f0).size : Int)) % 256] : List Int)) := ⟨_, rfl⟩
       replace H : (if t195.size + (strOfNums y197).size ≤ 9223372036854775807 then (if (t195 ++ (strOfNums y197)).size + ((rd_T48 l0_0 x8_3).f0).size ≤ 9223372036854775807 then (if x7_3.size + ((t195 ++ (strOfNums y197)) ++ ((rd_T48 l0_0 x8_3).f0)).size ≤ 9223372036854775807 then (headgateref12_Encode.l1 k3 (x7_3 ++ ((t195 ++ (strOfNums y197)) ++ ((rd_T48 l0_0 x8_3).f0))) (wrap64 (x8_3 + 1)) l0_0 a0_1 a0_2 a0_3 a0_4) else (none)) else (none)) else (none)) = some (r1, r2) := by first | (rw [hy197]; with_reducible exact H) | (have H2_ := (Option.bind_some _ _).symm.trans H; rw [hy197]; with_reducible exact H2_) | (have H2_ := (Option.bind_some _ _).symm.trans H; with_reducible exact H2_) | with_reducible exact H | (rw [hy197]; exact H) | exact H
       have Ny197 := Aside0.mk hy197
       clear hy197
       refine neg_first (p := (t195.size + (strOfNums y197).size ≤ 9223372036854775807)) (fun c32 => ?_) (fun c32 => ?_)
       ·rw [if_neg c32] at H
        exact absurd H (by simp)
       rw [if_pos c32] at H
       have c32b0 := eq_true c32
       have c32b1 : decide (t195.size + (strOfNums y197).size ≤ 9223372036854775807) = true := decide_eq_true c32
       try have c32b2 : (9223372036854775807 < t195.size + (strOfNums y197).size) = False := eq_false (Nat.not_lt.2 c32)
       refine neg_first (p := ((t195 ++ (strOfNums y197)).size + ((rd_T48 l0_0 x8_3).f0).size ≤ 9223372036854775807)) (fun c33 => ?_) (fun c33 => ?_)
       ·rw [if_neg c33] at H
        exact absurd H (by simp)
       rw [if_pos c33] at H
       have c33b0 := eq_true c33
       have c33b1 : decide ((t195 ++ (strOfNums y197)).size + ((rd_T48 l0_0 x8_3).f0).size ≤ 9223372036854775807) = true := decide_eq_true c33
       try have c33b2 : (9223372036854775807 < (t195 ++ (strOfNums y197)).size + ((rd_T48 l0_0 x8_3).f0).size) = False := eq_false (Nat.not_lt.2 c33)
       (try have c33b4 : (9223372036854775807 < t195.size + (strOfNums y197).size + ((rd_T48 l0_0 x8_3).f0).size) = False := eq_false (by have h_ := c33; simp only [ByteArray.size_append, ByteArray.size_extract] at h_; omega))
       refine neg_first (p := (x7_3.size + ((t195 ++ (strOfNums y197)) ++ ((rd_T48 l0_0 x8_3).f0)).size ≤ 9223372036854775807)) (fun c34 => ?_) (fun c34 => ?_)
       ·rw [if_neg c34] at H
        exact absurd H (by simp)
       rw [if_pos c34] at H
       have c34b0 := eq_true c34
       have c34b1 : decide (x7_3.size + ((t195 ++ (strOfNums y197)) ++ ((rd_T48 l0_0 x8_3).f0)).size ≤ 9223372036854775807) = true := decide_eq_true c34
       try have c34b2 : (9223372036854775807 < x7_3.size + ((t195 ++ (strOfNums y197)) ++ ((rd_T48 l0_0 x8_3).f0)).size) = False := eq_false (Nat.not_lt.2 c34)
       (try have c34b4 : (9223372036854775807 < x7_3.size + t195.size + (strOfNums y197).size + ((rd_T48 l0_0 x8_3).f0).size) = False := eq_false (by have h_ := c34; simp only [ByteArray.size_append, ByteArray.size_extract] at h_; omega)); (try have c34b5 : (9223372036854775807 < x7_3.size + (t195.size + (strOfNums y197).size + ((rd_T48 l0_0 x8_3).f0).size)) = False := eq_false (by have h_ := c34; simp only [ByteArray.size_append] at h_; omega))
       have H' := Aside0.mk H
       clear H
       have hcz35_0 : wr.cell? ⟨gb187, 0, none⟩ = some (.slice A0_0 l0_0.length c0_0) := (blk_cell BK187.out 0).trans rfl
       have hcz35_1 : wr.cell? ⟨gb187, 1, none⟩ = some (.int .i64 a0_1) := (blk_cell BK187.out 1).trans rfl
       have hcz35_2 : wr.cell? ⟨gb187, 2, none⟩ = some (.string a0_2) := (blk_cell BK187.out 2).trans rfl
       have hcz35_3 : wr.cell? ⟨gb187, 3, none⟩ = some (.int .u32 a0_3) := (blk_cell BK187.out 3).trans rfl
       have hcz35_4 : wr.cell? ⟨gb187, 4, none⟩ = some (.bool a0_4) := (blk_cell BK187.out 4).trans rfl
       have hfz35_0 := blk_frozen BK187.out 0
       have hfz35_1 := blk_frozen BK187.out 1
       have hfz35_2 := blk_frozen BK187.out 2
       have hfz35_3 := blk_frozen BK187.out 3
       have hfz35_4 := blk_frozen BK187.out 4
       try go_wp2
       have n0_ := Aside0.mk (blk_drew BK187.out)
       have n1_ := Aside0.mk (below_drew1 HB.out)
       clear BK187
       clear HB
       have BK187 := n0_
       have HB := n1_
       clear n0_ n1_
       have p194 : 0 ≤ (x8_3 : Int) := of_decide_eq_true (by first | (with_reducible assumption) | assumption)
       have q194 : x8_3 < (l0_0.length : Int) := of_decide_eq_true (by first | (with_reducible assumption) | assumption)
       obtain ⟨ad194, e194, hx194_0, hx194_1⟩ := at_T48 HR0_0.out x8_3 p194 q194
       have hw194_1 := hx194_1
       have hw194_0 := hx194_0
       cases e194
       replace hx194_0 := (HB.out.cell (World.block_lt_of_cell? w _ hx194_0)).trans hx194_0
       replace hx194_1 := (HB.out.cell (World.block_lt_of_cell? w _ hx194_1)).trans hx194_1
       replace p194 := eq_true p194
       replace q194 := eq_true q194
       have p196 : 0 ≤ (x8_3 : Int) := of_decide_eq_true (by first | (with_reducible assumption) | assumption)
       have q196 : x8_3 < (l0_0.length : Int) := of_decide_eq_true (by first | (with_reducible assumption) | assumption)
       obtain ⟨ad196, e196, hx196_0, hx196_1⟩ := at_T48 HR0_0.out x8_3 p196 q196
       have hw196_1 := hx196_1
       have hw196_0 := hx196_0
       obtain rfl : ad194 = ad196 := (by injection e196)
       replace hx196_0 := (HB.out.cell (World.block_lt_of_cell? w _ hx196_0)).trans hx196_0
       replace hx196_1 := (HB.out.cell (World.block_lt_of_cell? w _ hx196_1)).trans hx196_1
       replace p196 := eq_true p196
       replace q196 := eq_true q196
       have p200 : 0 ≤ (x8_3 : Int) := of_decide_eq_true (by first | (with_reducible assumption) | assumption)
       have q200 : x8_3 < (l0_0.length : Int) := of_decide_eq_true (by first | (with_reducible assumption) | assumption)
       obtain ⟨ad200, e200, hx200_0, hx200_1⟩ := at_T48 HR0_0.out x8_3 p200 q200
       have hw200_1 := hx200_1
       have hw200_0 := hx200_0
       obtain rfl : ad194 = ad200 := (by injection e200)
       replace hx200_0 := (HB.out.cell (World.block_lt_of_cell? w _ hx200_0)).trans hx200_0
       replace hx200_1 := (HB.out.cell (World.block_lt_of_cell? w _ hx200_1)).trans hx200_1
       replace p200 := eq_true p200
       replace q200 := eq_true q200
       refine start_ (n := 28) (S := fun w' => w'.cell? ⟨gb187, 0, none⟩ = some (.slice (some ad194) l0_0.length c0_0) ∧ w'.cell? ⟨gb187, 1, none⟩ = some (.int .i64 a0_1) ∧ w'.cell? ⟨gb187, 2, none⟩ = some (.string a0_2) ∧ w'.cell? ⟨gb187, 3, none⟩ = some (.int .u32 a0_3) ∧ w'.cell? ⟨gb187, 4, none⟩ = some (.bool a0_4) ∧ w'.cell? (ad194.add ((x8_3).toNat * 2)) = some (.string ((rd_T48 l0_0 x8_3).f0)) ∧ w'.cell? ⟨(ad194.add ((x8_3).toNat * 2)).block, (ad194.add ((x8_3).toNat * 2)).off + 1, none⟩ = some (.int .u64 ((rd_T48 l0_0 x8_3).f1)) ∧ w'.cell? (ad194.add ((x8_3).toNat * 2)) = some (.string ((rd_T48 l0_0 x8_3).f0)) ∧ w'.cell? ⟨(ad194.add ((x8_3).toNat * 2)).block, (ad194.add ((x8_3).toNat * 2)).off + 1, none⟩ = some (.int .u64 ((rd_T48 l0_0 x8_3).f1)) ∧ w'.cell? (ad194.add ((x8_3).toNat * 2)) = some (.string ((rd_T48 l0_0 x8_3).f0)) ∧ w'.cell? ⟨(ad194.add ((x8_3).toNat * 2)).block, (ad194.add ((x8_3).toNat * 2)).off + 1, none⟩ = some (.int .u64 ((rd_T48 l0_0 x8_3).f1))) (ds := []) d12x0 (by kernel_rfl) rfl rfl ⟨(blk_cell BK187.out 0).trans rfl, (blk_cell BK187.out 1).trans rfl, (blk_cell BK187.out 2).trans rfl, (blk_cell BK187.out 3).trans rfl, (blk_cell BK187.out 4).trans rfl, ((HB.out.cell (World.block_lt_of_cell? w _ hw194_0)).trans hw194_0), ((HB.out.cell (World.block_lt_of_cell? w _ hw194_1)).trans hw194_1), ((HB.out.cell (World.block_lt_of_cell? w _ hw196_0)).trans hw196_0), ((HB.out.cell (World.block_lt_of_cell? w _ hw196_1)).trans hw196_1), ((HB.out.cell (World.block_lt_of_cell? w _ hw200_0)).trans hw200_0), ((HB.out.cell (World.block_lt_of_cell? w _ hw200_1)).trans hw200_1)⟩ (fun hHeld => ?_); refine with_tabW headgateref12_Encode.tab16 headgateref12_Encode.bits16 (fun HT_ HW_ => ?_)
       generalize wr.drew = w36 at BK187 HB hx194_0 hx194_1 hx196_0 hx196_1 hx200_0 hx200_1 hHeld ⊢
       refine pon_ 0 (some 65) d12x3 HT_.out ?_
       refine pon_ 1 (some 66) d12x12 HT_.out ?_
       refine pon_ 3 (some 68) d12x15 HT_.out ?_
       refine pon_ 8 (some 73) d12x16 HT_.out ?_
       refine pon_ 10 (some 75) d12x17 HT_.out ?_
       refine pon_ 19 (some 84) d12x18 HT_.out ?_
       refine pon_ 21 (some 86) d12x19 HT_.out ?_
       refine ptk_ 2 (some 67) d12x30 HT_.out HW_.out hHeld ?_
       refine pon_ 4 (some 69) d12x35 HT_.out ?_
       refine pon_ 5 (some 70) d12x37 HT_.out ?_
       refine ptk_ 6 (some 71) d12x42 HT_.out HW_.out hHeld ?_
       refine ptk_ 9 (some 74) d12x43 HT_.out HW_.out hHeld ?_
       refine pon_ 11 (some 76) d12x44 HT_.out ?_
       refine pon_ 12 (some 77) d12x45 HT_.out ?_
       refine ptk_ 13 (some 78) d12x46 HT_.out HW_.out hHeld ?_
       refine pon_ 14 (some 79) d12x47 HT_.out ?_
       refine pon_ 15 (some 80) d12x48 HT_.out ?_
       refine ptk_ 20 (some 85) d12x49 HT_.out HW_.out hHeld ?_
       refine pon_ 22 (some 87) d12x50 HT_.out ?_
       refine pon_ 23 (some 88) d12x51 HT_.out ?_
       refine ptk_ 24 (some 89) d12x52 HT_.out HW_.out hHeld ?_
       refine join_ (σ := Value) 4 d12x71 (fun s_ => [(72, .string t195), (81, s_), (82, .string (strOfNums y197))]) (fun s_ w' => (w'.cell? ⟨gb187, 0, none⟩ = some (.slice (some ad194) l0_0.length c0_0) ∧ w'.cell? ⟨gb187, 1, none⟩ = some (.int .i64 a0_1) ∧ w'.cell? ⟨gb187, 2, none⟩ = some (.string a0_2) ∧ w'.cell? ⟨gb187, 3, none⟩ = some (.int .u32 a0_3) ∧ w'.cell? ⟨gb187, 4, none⟩ = some (.bool a0_4) ∧ w'.cell? (ad194.add ((x8_3).toNat * 2)) = some (.string ((rd_T48 l0_0 x8_3).f0)) ∧ w'.cell? ⟨(ad194.add ((x8_3).toNat * 2)).block, (ad194.add ((x8_3).toNat * 2)).off + 1, none⟩ = some (.int .u64 ((rd_T48 l0_0 x8_3).f1)) ∧ w'.cell? (ad194.add ((x8_3).toNat * 2)) = some (.string ((rd_T48 l0_0 x8_3).f0)) ∧ w'.cell? ⟨(ad194.add ((x8_3).toNat * 2)).block, (ad194.add ((x8_3).toNat * 2)).off + 1, none⟩ = some (.int .u64 ((rd_T48 l0_0 x8_3).f1)) ∧ w'.cell? (ad194.add ((x8_3).toNat * 2)) = some (.string ((rd_T48 l0_0 x8_3).f0)) ∧ w'.cell? ⟨(ad194.add ((x8_3).toNat * 2)).block, (ad194.add ((x8_3).toNat * 2)).off + 1, none⟩ = some (.int .u64 ((rd_T48 l0_0 x8_3).f1))) ∧ (Kd.R (Kd.int .u8) 5 w' w.heap.size (fun _ => True) s_ y197) ∧ (w'.heap[gb187]? = some (.cells #[.slice (some ad194) l0_0.length c0_0, .int .i64 a0_1, .string a0_2, .int .u32 a0_3, .bool a0_4] 27 (0, 0))) ∧ (Below w.heap.size w w')) ?_ ?_
       rotate_left
       ·intro hCont
        refine two_ (i := 7) (j := 16) (Ni := some 72) (Nj := some 81) d12x67 d12x53 rfl rfl rfl rfl (two_of HT_.out (by kernel_rfl)) (by decide) (by decide) (fun K hK => ?_) (fun K hK => ?_)
        ·skip
         refine goes_ Tryd.func22 (by kernel_rfl) rfl #[.int .u64 ((rd_T48 l0_0 x8_3).f1), .int .i64 8] (by rfl) rfl rfl (by (try simp only [List.map_toArray, List.map_cons, List.map_nil]); first | done | rfl | (simp only [List.length_drop, List.length_take]; rfl)) ?_
         with_reducible refine (headgateref01_PutBig.calls k3 ((rd_T48 l0_0 x8_3).f1) 8 t195 _ A31.out).mono ?_
         rintro e w37 ⟨rfl, hb⟩
         refine ⟨_, rfl, ?_⟩
         have n0_ := Aside0.mk (blk_below (bk_ BK187) hb)
         have n1_ := Aside0.mk (below_step (hb_ HB) hb)
         clear BK187
         clear HB
         have BK187 := n0_
         have HB := n1_
         clear n0_ n1_
         (try clear hb)
         (try clear hb2)
         (try clear hk)
         (try clear hi)
         refine hK.out _ _ ⟨(blk_cell BK187.out 0).trans rfl, (blk_cell BK187.out 1).trans rfl, (blk_cell BK187.out 2).trans rfl, (blk_cell BK187.out 3).trans rfl, (blk_cell BK187.out 4).trans rfl, ((HB.out.cell (World.block_lt_of_cell? w _ hw194_0)).trans hw194_0), ((HB.out.cell (World.block_lt_of_cell? w _ hw194_1)).trans hw194_1), ((HB.out.cell (World.block_lt_of_cell? w _ hw196_0)).trans hw196_0), ((HB.out.cell (World.block_lt_of_cell? w _ hw196_1)).trans hw196_1), ((HB.out.cell (World.block_lt_of_cell? w _ hw200_0)).trans hw200_0), ((HB.out.cell (World.block_lt_of_cell? w _ hw200_1)).trans hw200_1)⟩ (fun hHeld => ?_)
         clear hK K
         refine norm_ (a' := ?_) ?_ ?_
         rotate_left
         ·show Act.put _ (some 72) _ = _
          simp only [Act.put, la_, lb_, lc_, i64_w, i32_w]
          rfl
         refine one_ (i := 16) (N := some 81) d12x69 rfl rfl (one_of HT_.out (by kernel_rfl)) (by decide) (fun K hK => ?_)
         refine Kd.R_lit_step (Kd.int .u8) _ 5 ?hg (N := 81) ?hd (xs := ([((((rd_T48 l0_0 x8_3).f0).size : Int)) % 256] : List Int)) (inner := [.int .u8 (((((rd_T48 l0_0 x8_3).f0).size : Int)) % 256)]) (ok := fun _ => True) (okp := fun _ => True) ?hr ?hp (fun _ hk => hk) trivial (Below.refl _ _) (Nat.le_refl _) (by simp) ?_; (case hd => rfl); (case hg => rfl); (case hr => first | (go_simp; done) | (go_simp; rfl)); (case hp => exact (Reps.one (show Kd.M (Kd.int .u8) _ _ _ (((((rd_T48 l0_0 x8_3).f0).size : Int)) % 256) [.int .u8 (((((rd_T48 l0_0 x8_3).f0).size : Int)) % 256)] from rfl) (Reps.none _ _)))
         intro v198 w38 ho39 hb hg_ hnew_
         clear hg_ hnew_
         (first | rw [← Ny197.out] at ho39 | (simp only [Int.reduceToNat] at ho39; rw [← Ny197.out] at ho39))
         have n0_ := Aside0.mk (Kd.R_lower ho39 (below_size (hb_ HB)))
         have n1_ := Aside0.mk (blk_below (bk_ BK187) hb)
         have n2_ := Aside0.mk (below_step (hb_ HB) hb)
         clear BK187
         clear HB
         have HO199 := n0_
         have BK187 := n1_
         have HB := n2_
         clear n0_ n1_ n2_
         clear hb ho39
         refine hK.out _ _ ⟨(blk_cell BK187.out 0).trans rfl, (blk_cell BK187.out 1).trans rfl, (blk_cell BK187.out 2).trans rfl, (blk_cell BK187.out 3).trans rfl, (blk_cell BK187.out 4).trans rfl, ((HB.out.cell (World.block_lt_of_cell? w _ hw194_0)).trans hw194_0), ((HB.out.cell (World.block_lt_of_cell? w _ hw194_1)).trans hw194_1), ((HB.out.cell (World.block_lt_of_cell? w _ hw196_0)).trans hw196_0), ((HB.out.cell (World.block_lt_of_cell? w _ hw196_1)).trans hw196_1), ((HB.out.cell (World.block_lt_of_cell? w _ hw200_0)).trans hw200_0), ((HB.out.cell (World.block_lt_of_cell? w _ hw200_1)).trans hw200_1)⟩ (fun hHeld => ?_)
         clear hK K
         refine norm_ (a' := ?_) ?_ ?_
         rotate_left
         ·show Act.put _ (some 81) _ = _
          simp only [Act.put, la_, lb_, lc_, i64_w, i32_w]
          rfl
         refine one_ (i := 17) (N := some 82) d12x71 rfl rfl (one_of HT_.out (by kernel_rfl)) (by decide) (fun K hK => ?_)
         have hcv40 := own_string (P := Tryd.prog) Tryd.underlying44 Tryd.underlying5 Tryd.underlying9 (Kd.own_of_R HO199.out)
         refine value_ (w1 := ?_) (v := ?_) (by rfl) rfl ?_ ?_
         rotate_left 2
         ·go_simp
          constructor
          ·rfl
          ·rfl
         clear hcv40
         refine hK.out _ _ ⟨(blk_cell BK187.out 0).trans rfl, (blk_cell BK187.out 1).trans rfl, (blk_cell BK187.out 2).trans rfl, (blk_cell BK187.out 3).trans rfl, (blk_cell BK187.out 4).trans rfl, ((HB.out.cell (World.block_lt_of_cell? w _ hw194_0)).trans hw194_0), ((HB.out.cell (World.block_lt_of_cell? w _ hw194_1)).trans hw194_1), ((HB.out.cell (World.block_lt_of_cell? w _ hw196_0)).trans hw196_0), ((HB.out.cell (World.block_lt_of_cell? w _ hw196_1)).trans hw196_1), ((HB.out.cell (World.block_lt_of_cell? w _ hw200_0)).trans hw200_0), ((HB.out.cell (World.block_lt_of_cell? w _ hw200_1)).trans hw200_1)⟩ (fun hHeld => ?_)
         clear hK K
         refine norm_ (a' := ?_) ?_ ?_
         rotate_left
         ·show Act.put _ (some 82) _ = _
          simp only [Act.put, la_, lb_, lc_, i64_w, i32_w]
          rfl
         exact norm_ (by simp only [putAll, Act.put, la_, lb_, lc_]) (hCont (v198) _ ⟨hHeld, (by (with_reducible repeat (first | apply Kd.R_alloc | apply Kd.R_drewN | apply Kd.R_drew)); exact HO199.out), (bk_ BK187), (hb_ HB)⟩)
        ·skip
         refine Kd.R_lit_step (Kd.int .u8) _ 5 ?hg (N := 81) ?hd (xs := ([((((rd_T48 l0_0 x8_3).f0).size : Int)) % 256] : List Int)) (inner := [.int .u8 (((((rd_T48 l0_0 x8_3).f0).size : Int)) % 256)]) (ok := fun _ => True) (okp := fun _ => True) ?hr ?hp (fun _ hk => hk) trivial (Below.refl _ _) (Nat.le_refl _) (by simp) ?_; (case hd => rfl); (case hg => rfl); (case hr => first | (go_simp; done) | (go_simp; rfl)); (case hp => exact (Reps.one (show Kd.M (Kd.int .u8) _ _ _ (((((rd_T48 l0_0 x8_3).f0).size : Int)) % 256) [.int .u8 (((((rd_T48 l0_0 x8_3).f0).size : Int)) % 256)] from rfl) (Reps.none _ _)))
         intro v198 w37 ho38 hb hg_ hnew_
         clear hg_ hnew_
         (first | rw [← Ny197.out] at ho38 | (simp only [Int.reduceToNat] at ho38; rw [← Ny197.out] at ho38))
         have n0_ := Aside0.mk (Kd.R_lower ho38 (below_size (hb_ HB)))
         have n1_ := Aside0.mk (blk_below (bk_ BK187) hb)
         have n2_ := Aside0.mk (below_step (hb_ HB) hb)
         clear BK187
         clear HB
         have HO199 := n0_
         have BK187 := n1_
         have HB := n2_
         clear n0_ n1_ n2_
         clear hb ho38
         refine hK.out _ _ ⟨(blk_cell BK187.out 0).trans rfl, (blk_cell BK187.out 1).trans rfl, (blk_cell BK187.out 2).trans rfl, (blk_cell BK187.out 3).trans rfl, (blk_cell BK187.out 4).trans rfl, ((HB.out.cell (World.block_lt_of_cell? w _ hw194_0)).trans hw194_0), ((HB.out.cell (World.block_lt_of_cell? w _ hw194_1)).trans hw194_1), ((HB.out.cell (World.block_lt_of_cell? w _ hw196_0)).trans hw196_0), ((HB.out.cell (World.block_lt_of_cell? w _ hw196_1)).trans hw196_1), ((HB.out.cell (World.block_lt_of_cell? w _ hw200_0)).trans hw200_0), ((HB.out.cell (World.block_lt_of_cell? w _ hw200_1)).trans hw200_1)⟩ (fun hHeld => ?_)
         clear hK K
         refine norm_ (a' := ?_) ?_ ?_
         rotate_left
         ·show Act.put _ (some 81) _ = _
          simp only [Act.put, la_, lb_, lc_, i64_w, i32_w]
          rfl
         refine two_ (i := 7) (j := 17) (Ni := some 72) (Nj := some 82) d12x69 d12x54 rfl rfl rfl rfl (two_of HT_.out (by kernel_rfl)) (by decide) (by decide) (fun K hK => ?_) (fun K hK => ?_)
         ·skip
          refine goes_ Tryd.func22 (by kernel_rfl) rfl #[.int .u64 ((rd_T48 l0_0 x8_3).f1), .int .i64 8] (by rfl) rfl rfl (by (try simp only [List.map_toArray, List.map_cons, List.map_nil]); first | done | rfl | (simp only [List.length_drop, List.length_take]; rfl)) ?_
          with_reducible refine (headgateref01_PutBig.calls k3 ((rd_T48 l0_0 x8_3).f1) 8 t195 _ A31.out).mono ?_
          rintro e w39 ⟨rfl, hb⟩
          refine ⟨_, rfl, ?_⟩
          have n0_ := Aside0.mk (Kd.R_below (by (with_reducible repeat (first | apply Kd.R_alloc | apply Kd.R_drewN | apply Kd.R_drew)); exact HO199.out) hb)
          have n1_ := Aside0.mk (blk_below (bk_ BK187) hb)
          have n2_ := Aside0.mk (below_step (hb_ HB) hb)
          clear HO199
          clear BK187
          clear HB
          have HO199 := n0_
          have BK187 := n1_
          have HB := n2_
          clear n0_ n1_ n2_
          (try clear hb)
          (try clear hb2)
          (try clear hk)
          (try clear hi)
          refine hK.out _ _ ⟨(blk_cell BK187.out 0).trans rfl, (blk_cell BK187.out 1).trans rfl, (blk_cell BK187.out 2).trans rfl, (blk_cell BK187.out 3).trans rfl, (blk_cell BK187.out 4).trans rfl, ((HB.out.cell (World.block_lt_of_cell? w _ hw194_0)).trans hw194_0), ((HB.out.cell (World.block_lt_of_cell? w _ hw194_1)).trans hw194_1), ((HB.out.cell (World.block_lt_of_cell? w _ hw196_0)).trans hw196_0), ((HB.out.cell (World.block_lt_of_cell? w _ hw196_1)).trans hw196_1), ((HB.out.cell (World.block_lt_of_cell? w _ hw200_0)).trans hw200_0), ((HB.out.cell (World.block_lt_of_cell? w _ hw200_1)).trans hw200_1)⟩ (fun hHeld => ?_)
          clear hK K
          refine norm_ (a' := ?_) ?_ ?_
          rotate_left
          ·show Act.put _ (some 72) _ = _
           simp only [Act.put, la_, lb_, lc_, i64_w, i32_w]
           rfl
          refine one_ (i := 17) (N := some 82) d12x71 rfl rfl (one_of HT_.out (by kernel_rfl)) (by decide) (fun K hK => ?_)
          have hcv40 := own_string (P := Tryd.prog) Tryd.underlying44 Tryd.underlying5 Tryd.underlying9 (Kd.own_of_R HO199.out)
          refine value_ (w1 := ?_) (v := ?_) (by rfl) rfl ?_ ?_
          rotate_left 2
          ·go_simp
           constructor
           ·rfl
           ·rfl
          clear hcv40
          refine hK.out _ _ ⟨(blk_cell BK187.out 0).trans rfl, (blk_cell BK187.out 1).trans rfl, (blk_cell BK187.out 2).trans rfl, (blk_cell BK187.out 3).trans rfl, (blk_cell BK187.out 4).trans rfl, ((HB.out.cell (World.block_lt_of_cell? w _ hw194_0)).trans hw194_0), ((HB.out.cell (World.block_lt_of_cell? w _ hw194_1)).trans hw194_1), ((HB.out.cell (World.block_lt_of_cell? w _ hw196_0)).trans hw196_0), ((HB.out.cell (World.block_lt_of_cell? w _ hw196_1)).trans hw196_1), ((HB.out.cell (World.block_lt_of_cell? w _ hw200_0)).trans hw200_0), ((HB.out.cell (World.block_lt_of_cell? w _ hw200_1)).trans hw200_1)⟩ (fun hHeld => ?_)
          clear hK K
          refine norm_ (a' := ?_) ?_ ?_
          rotate_left
          ·show Act.put _ (some 82) _ = _
           simp only [Act.put, la_, lb_, lc_, i64_w, i32_w]
           rfl
          exact norm_ (by simp only [putAll, Act.put, la_, lb_, lc_]) (hCont (v198) _ ⟨hHeld, (by (with_reducible repeat (first | apply Kd.R_alloc | apply Kd.R_drewN | apply Kd.R_drew)); exact HO199.out), (bk_ BK187), (hb_ HB)⟩)
         ·skip
          have hcv39 := own_string (P := Tryd.prog) Tryd.underlying44 Tryd.underlying5 Tryd.underlying9 (Kd.own_of_R HO199.out)
          refine value_ (w1 := ?_) (v := ?_) (by rfl) rfl ?_ ?_
          rotate_left 2
          ·go_simp
           constructor
           ·rfl
           ·rfl
          clear hcv39
          refine hK.out _ _ ⟨(blk_cell BK187.out 0).trans rfl, (blk_cell BK187.out 1).trans rfl, (blk_cell BK187.out 2).trans rfl, (blk_cell BK187.out 3).trans rfl, (blk_cell BK187.out 4).trans rfl, ((HB.out.cell (World.block_lt_of_cell? w _ hw194_0)).trans hw194_0), ((HB.out.cell (World.block_lt_of_cell? w _ hw194_1)).trans hw194_1), ((HB.out.cell (World.block_lt_of_cell? w _ hw196_0)).trans hw196_0), ((HB.out.cell (World.block_lt_of_cell? w _ hw196_1)).trans hw196_1), ((HB.out.cell (World.block_lt_of_cell? w _ hw200_0)).trans hw200_0), ((HB.out.cell (World.block_lt_of_cell? w _ hw200_1)).trans hw200_1)⟩ (fun hHeld => ?_)
          clear hK K
          refine norm_ (a' := ?_) ?_ ?_
          rotate_left
          ·show Act.put _ (some 82) _ = _
           simp only [Act.put, la_, lb_, lc_, i64_w, i32_w]
           rfl
          refine one_ (i := 7) (N := some 72) d12x71 rfl rfl (one_of HT_.out (by kernel_rfl)) (by decide) (fun K hK => ?_)
          refine goes_ Tryd.func22 (by kernel_rfl) rfl #[.int .u64 ((rd_T48 l0_0 x8_3).f1), .int .i64 8] (by rfl) rfl rfl (by (try simp only [List.map_toArray, List.map_cons, List.map_nil]); first | done | rfl | (simp only [List.length_drop, List.length_take]; rfl)) ?_
          with_reducible refine (headgateref01_PutBig.calls k3 ((rd_T48 l0_0 x8_3).f1) 8 t195 _ A31.out).mono ?_
          rintro e w40 ⟨rfl, hb⟩
          refine ⟨_, rfl, ?_⟩
          have n0_ := Aside0.mk (Kd.R_below (by (with_reducible repeat (first | apply Kd.R_alloc | apply Kd.R_drewN | apply Kd.R_drew)); exact HO199.out) hb)
          have n1_ := Aside0.mk (blk_below (bk_ BK187) hb)
          have n2_ := Aside0.mk (below_step (hb_ HB) hb)
          clear HO199
          clear BK187
          clear HB
          have HO199 := n0_
          have BK187 := n1_
          have HB := n2_
          clear n0_ n1_ n2_
          (try clear hb)
          (try clear hb2)
          (try clear hk)
          (try clear hi)
          refine hK.out _ _ ⟨(blk_cell BK187.out 0).trans rfl, (blk_cell BK187.out 1).trans rfl, (blk_cell BK187.out 2).trans rfl, (blk_cell BK187.out 3).trans rfl, (blk_cell BK187.out 4).trans rfl, ((HB.out.cell (World.block_lt_of_cell? w _ hw194_0)).trans hw194_0), ((HB.out.cell (World.block_lt_of_cell? w _ hw194_1)).trans hw194_1), ((HB.out.cell (World.block_lt_of_cell? w _ hw196_0)).trans hw196_0), ((HB.out.cell (World.block_lt_of_cell? w _ hw196_1)).trans hw196_1), ((HB.out.cell (World.block_lt_of_cell? w _ hw200_0)).trans hw200_0), ((HB.out.cell (World.block_lt_of_cell? w _ hw200_1)).trans hw200_1)⟩ (fun hHeld => ?_)
          clear hK K
          refine norm_ (a' := ?_) ?_ ?_
          rotate_left
          ·show Act.put _ (some 72) _ = _
           simp only [Act.put, la_, lb_, lc_, i64_w, i32_w]
           rfl
          exact norm_ (by simp only [putAll, Act.put, la_, lb_, lc_]) (hCont (v198) _ ⟨hHeld, (by (with_reducible repeat (first | apply Kd.R_alloc | apply Kd.R_drewN | apply Kd.R_drew)); exact HO199.out), (bk_ BK187), (hb_ HB)⟩)
       rintro v198 w41 ⟨hS_, h0_, h1_, h2_⟩
       have n0_ : Aside0 (Kd.R (Kd.int .u8) 5 w41 w.heap.size (fun _ => True) v198 y197) := ⟨h0_⟩
       have n1_ : Aside0 (w41.heap[gb187]? = some (.cells #[.slice (some ad194) l0_0.length c0_0, .int .i64 a0_1, .string a0_2, .int .u32 a0_3, .bool a0_4] 27 (0, 0))) := ⟨h1_⟩
       have n2_ : Aside0 (Below w.heap.size w w41) := ⟨h2_⟩
       clear BK187
       clear HB
       clear h0_ h1_ h2_
       have HO199 := n0_
       have BK187 := n1_
       have HB := n2_
       clear n0_ n1_ n2_
       have hHeld : w41.cell? ⟨gb187, 0, none⟩ = some (.slice (some ad194) l0_0.length c0_0) ∧ w41.cell? ⟨gb187, 1, none⟩ = some (.int .i64 a0_1) ∧ w41.cell? ⟨gb187, 2, none⟩ = some (.string a0_2) ∧ w41.cell? ⟨gb187, 3, none⟩ = some (.int .u32 a0_3) ∧ w41.cell? ⟨gb187, 4, none⟩ = some (.bool a0_4) ∧ w41.cell? (ad194.add ((x8_3).toNat * 2)) = some (.string ((rd_T48 l0_0 x8_3).f0)) ∧ w41.cell? ⟨(ad194.add ((x8_3).toNat * 2)).block, (ad194.add ((x8_3).toNat * 2)).off + 1, none⟩ = some (.int .u64 ((rd_T48 l0_0 x8_3).f1)) ∧ w41.cell? (ad194.add ((x8_3).toNat * 2)) = some (.string ((rd_T48 l0_0 x8_3).f0)) ∧ w41.cell? ⟨(ad194.add ((x8_3).toNat * 2)).block, (ad194.add ((x8_3).toNat * 2)).off + 1, none⟩ = some (.int .u64 ((rd_T48 l0_0 x8_3).f1)) ∧ w41.cell? (ad194.add ((x8_3).toNat * 2)) = some (.string ((rd_T48 l0_0 x8_3).f0)) ∧ w41.cell? ⟨(ad194.add ((x8_3).toNat * 2)).block, (ad194.add ((x8_3).toNat * 2)).off + 1, none⟩ = some (.int .u64 ((rd_T48 l0_0 x8_3).f1)) := hS_
       refine norm_ (a' := ?_) ?_ ?_
       rotate_left
       ·simp only [putAll, Act.put, la_, lb_, lc_]
        rfl
       refine pon_ 18 (some 83) d12x73 HT_.out ?_
       refine pon_ 25 (some 90) d12x74 HT_.out ?_
       refine pon_ 26 (some 91) d12x75 HT_.out ?_
       refine pon_ 27 (some 7) d12x76 HT_.out ?_
       refine done_ (done_of HT_.out (by kernel_rfl)) ?_
       try go_wp2
       go_roundg k3
       case measure => have := HK1.out; have := HJ16.out; have := HK3.out; omega
       case rel => exact ⟨(x7_3 ++ ((t195 ++ (strOfNums y197)) ++ ((rd_T48 l0_0 x8_3).f0))), (wrap64 (x8_3 + 1)), (by first | rfl | (simp; done) | (simp [*]; done)), (by first | rfl | (simp; done) | (simp [*]; done)), H', ⟨by have := HK1.out; have := HJ16.out; have := HK3.out; omega⟩, ⟨bk_ BK187⟩, ⟨hb_ HB⟩⟩
end Go.Proofs.YtmpicpenbhdbhaaDoor.P
