-- written by this session's patched copy of the printer (wip/tools/patch_print.py); Lean checks it
import Derived.Test.YtmfbmioooafelaaPx0
import Derived.Test.YtmfbmioooafelaaPx1
import Derived.Test.YtmfbmioooafelaaPx2
namespace Go.Proofs.Ytmfbmioooafelaa.P
open Go.RowKit Go.Proofs.YtmfbmioooafelaaW.PrintWords Go.Proofs.YtmfbmioooafelaaW.PrintLast Go.Proofs.YtmfbmioooafelaaW.PrintMore
attribute [local go_sem] max2_int min2_int max_two min_two max_three min_three max_four min_four   -- for this text's walks alone
set_option linter.unusedVariables false
set_option linter.unusedSimpArgs false

/-! ### identify_Controller: function 10 -/
def identify_Controller.f (k : Nat) (a0 : ByteArray) : Option (ByteArray) := (identify_number.f k 77 3 1).bind fun bt163 => ((identify_number.f k 78 1 2).bind fun bt165 => ((identify_number.f k 80 131072 4).bind fun bt167 => ((identify_number.f k 512 102 1).bind fun bt169 => ((identify_number.f k 513 68 1).bind fun bt171 => ((identify_number.f k 516 8 4).bind fun bt173 => ((identify_number.f k 520 44 2).bind fun bt175 => ((identify_number.f k 522 1 2).bind fun bt177 => ((identify_number.f k 525 1 1).bind fun bt179 => ((identify_number.f k 526 63 2).bind fun bt181 => (if 0 ≤ (mn (a0.size : Int) 256) then (if (mn (a0.size : Int) 256) ≤ (a0.size : Int) then ((identify_page.f (([(⟨4, (⟨#[72, 69, 65, 68, 71, 65, 84, 69, 45, 48, 48, 48, 49, 32, 32, 32, 32, 32, 32, 32]⟩ : ByteArray)⟩ : S34), (⟨24, (⟨#[72, 69, 65, 68, 71, 65, 84, 69, 32, 66, 76, 79, 67, 75, 32, 85, 78, 73, 84, 32, 32, 32, 32, 32, 32, 32, 32, 32, 32, 32, 32, 32, 32, 32, 32, 32, 32, 32, 32, 32]⟩ : ByteArray)⟩ : S34), (⟨64, (⟨#[48, 48, 48, 49, 32, 32, 32, 32]⟩ : ByteArray)⟩ : S34), (⟨bt163.1, bt163.2⟩ : S34), (⟨bt165.1, bt165.2⟩ : S34), (⟨bt167.1, bt167.2⟩ : S34), (⟨bt169.1, bt169.2⟩ : S34), (⟨bt171.1, bt171.2⟩ : S34), (⟨bt173.1, bt173.2⟩ : S34), (⟨bt175.1, bt175.2⟩ : S34), (⟨bt177.1, bt177.2⟩ : S34), (⟨bt179.1, bt179.2⟩ : S34), (⟨bt181.1, bt181.2⟩ : S34), (⟨768, a0.extract 0 ((mn (a0.size : Int) 256) : Int).toNat⟩ : S34)] : List (S34)))).bind fun t186 => (some t186)) else (none)) else (none)))))))))))
theorem identify_Controller.mono : ∀ a0 k, LeO (identify_Controller.f k a0) (identify_Controller.f (k + 1) a0) := by
  intro a0 k
  unfold identify_Controller.f
  repeat' first
      | (with_reducible exact identify_number.mono _ _ _ _)
      | (with_reducible exact LeO.refl _)
      | (with_reducible exact LeO.none _)
      | (with_reducible refine LeO.ite ?_ ?_)
      | (with_reducible refine LeO.bind ?_ (fun _ => ?_))
      | exact identify_number.mono _ _ _ _
      | exact LeO.none _
      | refine LeO.ite ?_ ?_
      | refine LeO.bind ?_ (fun _ => ?_)
def identify_Controller.T1 : Bool × List (List Nat × List Nat) := (true, [([], []), ([], []), ([], []), ([], []), ([3], []), ([4], []), ([5], []), ([6], []), ([7], []), ([8], []), ([9], []), ([10], []), ([11], []), ([], []), ([], []), ([14], [14]), ([15], [15]), ([13, 16], [13, 16]), ([17], [17]), ([0, 1, 2, 3, 4, 5, 6, 7, 8, 9, 10, 11, 12, 18], [0, 1, 2, 3, 4, 5, 6, 7, 8, 9, 10, 11, 12, 18]), ([19, 12], [19]), ([20, 20, 0, 1, 2, 3, 4, 5, 6, 7, 8, 9, 10, 11, 12, 13, 14, 15, 16, 17, 18, 19, 20], [20])])
def identify_Controller.B1 : List Nat := [0, 0, 0, 0, 8, 24, 56, 120, 248, 504, 1016, 2040, 4088, 0, 0, 16384, 49152, 122880, 253952, 524287, 1048575, 2097151]
theorem identify_Controller.tab1 : rtab .any (opsOf Try.f10 1) = identify_Controller.T1 := by kernel_rfl
theorem identify_Controller.bits1 : waitsOk identify_Controller.T1.2 identify_Controller.B1 = true := by kernel_rfl
set_option maxHeartbeats 8000000 in
set_option maxRecDepth 100000 in
theorem identify_Controller.calls (k : Nat) (a0 : ByteArray) (r : ByteArray) (w : World) (h : identify_Controller.f k a0 = some r) :
    Calls Try.prog 10 #[.string a0] w fun e w' => e = .returned (.string r) ∧ Below w.heap.size w w' := by
  have hu34 := Try.underlying34
  have HB := Aside0.mk (Below.refl w.heap.size w)
  have H : ((identify_number.f k 77 3 1).bind fun bt163 => ((identify_number.f k 78 1 2).bind fun bt165 => ((identify_number.f k 80 131072 4).bind fun bt167 => ((identify_number.f k 512 102 1).bind fun bt169 => ((identify_number.f k 513 68 1).bind fun bt171 => ((identify_number.f k 516 8 4).bind fun bt173 => ((identify_number.f k 520 44 2).bind fun bt175 => ((identify_number.f k 522 1 2).bind fun bt177 => ((identify_number.f k 525 1 1).bind fun bt179 => ((identify_number.f k 526 63 2).bind fun bt181 => (if 0 ≤ (mn (a0.size : Int) 256) then (if (mn (a0.size : Int) 256) ≤ (a0.size : Int) then ((identify_page.f (([(⟨4, (⟨#[72, 69, 65, 68, 71, 65, 84, 69, 45, 48, 48, 48, 49, 32, 32, 32, 32, 32, 32, 32]⟩ : ByteArray)⟩ : S34), (⟨24, (⟨#[72, 69, 65, 68, 71, 65, 84, 69, 32, 66, 76, 79, 67, 75, 32, 85, 78, 73, 84, 32, 32, 32, 32, 32, 32, 32, 32, 32, 32, 32, 32, 32, 32, 32, 32, 32, 32, 32, 32, 32]⟩ : ByteArray)⟩ : S34), (⟨64, (⟨#[48, 48, 48, 49, 32, 32, 32, 32]⟩ : ByteArray)⟩ : S34), (⟨bt163.1, bt163.2⟩ : S34), (⟨bt165.1, bt165.2⟩ : S34), (⟨bt167.1, bt167.2⟩ : S34), (⟨bt169.1, bt169.2⟩ : S34), (⟨bt171.1, bt171.2⟩ : S34), (⟨bt173.1, bt173.2⟩ : S34), (⟨bt175.1, bt175.2⟩ : S34), (⟨bt177.1, bt177.2⟩ : S34), (⟨bt179.1, bt179.2⟩ : S34), (⟨bt181.1, bt181.2⟩ : S34), (⟨768, a0.extract 0 ((mn (a0.size : Int) 256) : Int).toNat⟩ : S34)] : List (S34)))).bind fun t186 => (some t186)) else (none)) else (none)))))))))))) = some r := h
  clear h
  replace H := Option.bind_eq_some_iff.mp H
  obtain ⟨⟨t163, t164⟩, A20, H⟩ := H
  replace H : ((identify_number.f k 78 1 2).bind fun bt165 => ((identify_number.f k 80 131072 4).bind fun bt167 => ((identify_number.f k 512 102 1).bind fun bt169 => ((identify_number.f k 513 68 1).bind fun bt171 => ((identify_number.f k 516 8 4).bind fun bt173 => ((identify_number.f k 520 44 2).bind fun bt175 => ((identify_number.f k 522 1 2).bind fun bt177 => ((identify_number.f k 525 1 1).bind fun bt179 => ((identify_number.f k 526 63 2).bind fun bt181 => (if 0 ≤ (mn (a0.size : Int) 256) then (if (mn (a0.size : Int) 256) ≤ (a0.size : Int) then ((identify_page.f (([(⟨4, (⟨#[72, 69, 65, 68, 71, 65, 84, 69, 45, 48, 48, 48, 49, 32, 32, 32, 32, 32, 32, 32]⟩ : ByteArray)⟩ : S34), (⟨24, (⟨#[72, 69, 65, 68, 71, 65, 84, 69, 32, 66, 76, 79, 67, 75, 32, 85, 78, 73, 84, 32, 32, 32, 32, 32, 32, 32, 32, 32, 32, 32, 32, 32, 32, 32, 32, 32, 32, 32, 32, 32]⟩ : ByteArray)⟩ : S34), (⟨64, (⟨#[48, 48, 48, 49, 32, 32, 32, 32]⟩ : ByteArray)⟩ : S34), (⟨t163, t164⟩ : S34), (⟨bt165.1, bt165.2⟩ : S34), (⟨bt167.1, bt167.2⟩ : S34), (⟨bt169.1, bt169.2⟩ : S34), (⟨bt171.1, bt171.2⟩ : S34), (⟨bt173.1, bt173.2⟩ : S34), (⟨bt175.1, bt175.2⟩ : S34), (⟨bt177.1, bt177.2⟩ : S34), (⟨bt179.1, bt179.2⟩ : S34), (⟨bt181.1, bt181.2⟩ : S34), (⟨768, a0.extract 0 ((mn (a0.size : Int) 256) : Int).toNat⟩ : S34)] : List (S34)))).bind fun t186 => (some t186)) else (none)) else (none))))))))))) = some r := H
  have A2 := Aside0.mk A20
  clear A20
  replace H := Option.bind_eq_some_iff.mp H
  obtain ⟨⟨t165, t166⟩, A30, H⟩ := H
  replace H : ((identify_number.f k 80 131072 4).bind fun bt167 => ((identify_number.f k 512 102 1).bind fun bt169 => ((identify_number.f k 513 68 1).bind fun bt171 => ((identify_number.f k 516 8 4).bind fun bt173 => ((identify_number.f k 520 44 2).bind fun bt175 => ((identify_number.f k 522 1 2).bind fun bt177 => ((identify_number.f k 525 1 1).bind fun bt179 => ((identify_number.f k 526 63 2).bind fun bt181 => (if 0 ≤ (mn (a0.size : Int) 256) then (if (mn (a0.size : Int) 256) ≤ (a0.size : Int) then ((identify_page.f (([(⟨4, (⟨#[72, 69, 65, 68, 71, 65, 84, 69, 45, 48, 48, 48, 49, 32, 32, 32, 32, 32, 32, 32]⟩ : ByteArray)⟩ : S34), (⟨24, (⟨#[72, 69, 65, 68, 71, 65, 84, 69, 32, 66, 76, 79, 67, 75, 32, 85, 78, 73, 84, 32, 32, 32, 32, 32, 32, 32, 32, 32, 32, 32, 32, 32, 32, 32, 32, 32, 32, 32, 32, 32]⟩ : ByteArray)⟩ : S34), (⟨64, (⟨#[48, 48, 48, 49, 32, 32, 32, 32]⟩ : ByteArray)⟩ : S34), (⟨t163, t164⟩ : S34), (⟨t165, t166⟩ : S34), (⟨bt167.1, bt167.2⟩ : S34), (⟨bt169.1, bt169.2⟩ : S34), (⟨bt171.1, bt171.2⟩ : S34), (⟨bt173.1, bt173.2⟩ : S34), (⟨bt175.1, bt175.2⟩ : S34), (⟨bt177.1, bt177.2⟩ : S34), (⟨bt179.1, bt179.2⟩ : S34), (⟨bt181.1, bt181.2⟩ : S34), (⟨768, a0.extract 0 ((mn (a0.size : Int) 256) : Int).toNat⟩ : S34)] : List (S34)))).bind fun t186 => (some t186)) else (none)) else (none)))))))))) = some r := H
  have A3 := Aside0.mk A30
  clear A30
  replace H := Option.bind_eq_some_iff.mp H
  obtain ⟨⟨t167, t168⟩, A40, H⟩ := H
  replace H : ((identify_number.f k 512 102 1).bind fun bt169 => ((identify_number.f k 513 68 1).bind fun bt171 => ((identify_number.f k 516 8 4).bind fun bt173 => ((identify_number.f k 520 44 2).bind fun bt175 => ((identify_number.f k 522 1 2).bind fun bt177 => ((identify_number.f k 525 1 1).bind fun bt179 => ((identify_number.f k 526 63 2).bind fun bt181 => (if 0 ≤ (mn (a0.size : Int) 256) then (if (mn (a0.size : Int) 256) ≤ (a0.size : Int) then ((identify_page.f (([(⟨4, (⟨#[72, 69, 65, 68, 71, 65, 84, 69, 45, 48, 48, 48, 49, 32, 32, 32, 32, 32, 32, 32]⟩ : ByteArray)⟩ : S34), (⟨24, (⟨#[72, 69, 65, 68, 71, 65, 84, 69, 32, 66, 76, 79, 67, 75, 32, 85, 78, 73, 84, 32, 32, 32, 32, 32, 32, 32, 32, 32, 32, 32, 32, 32, 32, 32, 32, 32, 32, 32, 32, 32]⟩ : ByteArray)⟩ : S34), (⟨64, (⟨#[48, 48, 48, 49, 32, 32, 32, 32]⟩ : ByteArray)⟩ : S34), (⟨t163, t164⟩ : S34), (⟨t165, t166⟩ : S34), (⟨t167, t168⟩ : S34), (⟨bt169.1, bt169.2⟩ : S34), (⟨bt171.1, bt171.2⟩ : S34), (⟨bt173.1, bt173.2⟩ : S34), (⟨bt175.1, bt175.2⟩ : S34), (⟨bt177.1, bt177.2⟩ : S34), (⟨bt179.1, bt179.2⟩ : S34), (⟨bt181.1, bt181.2⟩ : S34), (⟨768, a0.extract 0 ((mn (a0.size : Int) 256) : Int).toNat⟩ : S34)] : List (S34)))).bind fun t186 => (some t186)) else (none)) else (none))))))))) = some r := H
  have A4 := Aside0.mk A40
  clear A40
  replace H := Option.bind_eq_some_iff.mp H
  obtain ⟨⟨t169, t170⟩, A50, H⟩ := H
  replace H : ((identify_number.f k 513 68 1).bind fun bt171 => ((identify_number.f k 516 8 4).bind fun bt173 => ((identify_number.f k 520 44 2).bind fun bt175 => ((identify_number.f k 522 1 2).bind fun bt177 => ((identify_number.f k 525 1 1).bind fun bt179 => ((identify_number.f k 526 63 2).bind fun bt181 => (if 0 ≤ (mn (a0.size : Int) 256) then (if (mn (a0.size : Int) 256) ≤ (a0.size : Int) then ((identify_page.f (([(⟨4, (⟨#[72, 69, 65, 68, 71, 65, 84, 69, 45, 48, 48, 48, 49, 32, 32, 32, 32, 32, 32, 32]⟩ : ByteArray)⟩ : S34), (⟨24, (⟨#[72, 69, 65, 68, 71, 65, 84, 69, 32, 66, 76, 79, 67, 75, 32, 85, 78, 73, 84, 32, 32, 32, 32, 32, 32, 32, 32, 32, 32, 32, 32, 32, 32, 32, 32, 32, 32, 32, 32, 32]⟩ : ByteArray)⟩ : S34), (⟨64, (⟨#[48, 48, 48, 49, 32, 32, 32, 32]⟩ : ByteArray)⟩ : S34), (⟨t163, t164⟩ : S34), (⟨t165, t166⟩ : S34), (⟨t167, t168⟩ : S34), (⟨t169, t170⟩ : S34), (⟨bt171.1, bt171.2⟩ : S34), (⟨bt173.1, bt173.2⟩ : S34), (⟨bt175.1, bt175.2⟩ : S34), (⟨bt177.1, bt177.2⟩ : S34), (⟨bt179.1, bt179.2⟩ : S34), (⟨bt181.1, bt181.2⟩ : S34), (⟨768, a0.extract 0 ((mn (a0.size : Int) 256) : Int).toNat⟩ : S34)] : List (S34)))).bind fun t186 => (some t186)) else (none)) else (none)))))))) = some r := H
  have A5 := Aside0.mk A50
  clear A50
  replace H := Option.bind_eq_some_iff.mp H
  obtain ⟨⟨t171, t172⟩, A60, H⟩ := H
  replace H : ((identify_number.f k 516 8 4).bind fun bt173 => ((identify_number.f k 520 44 2).bind fun bt175 => ((identify_number.f k 522 1 2).bind fun bt177 => ((identify_number.f k 525 1 1).bind fun bt179 => ((identify_number.f k 526 63 2).bind fun bt181 => (if 0 ≤ (mn (a0.size : Int) 256) then (if (mn (a0.size : Int) 256) ≤ (a0.size : Int) then ((identify_page.f (([(⟨4, (⟨#[72, 69, 65, 68, 71, 65, 84, 69, 45, 48, 48, 48, 49, 32, 32, 32, 32, 32, 32, 32]⟩ : ByteArray)⟩ : S34), (⟨24, (⟨#[72, 69, 65, 68, 71, 65, 84, 69, 32, 66, 76, 79, 67, 75, 32, 85, 78, 73, 84, 32, 32, 32, 32, 32, 32, 32, 32, 32, 32, 32, 32, 32, 32, 32, 32, 32, 32, 32, 32, 32]⟩ : ByteArray)⟩ : S34), (⟨64, (⟨#[48, 48, 48, 49, 32, 32, 32, 32]⟩ : ByteArray)⟩ : S34), (⟨t163, t164⟩ : S34), (⟨t165, t166⟩ : S34), (⟨t167, t168⟩ : S34), (⟨t169, t170⟩ : S34), (⟨t171, t172⟩ : S34), (⟨bt173.1, bt173.2⟩ : S34), (⟨bt175.1, bt175.2⟩ : S34), (⟨bt177.1, bt177.2⟩ : S34), (⟨bt179.1, bt179.2⟩ : S34), (⟨bt181.1, bt181.2⟩ : S34), (⟨768, a0.extract 0 ((mn (a0.size : Int) 256) : Int).toNat⟩ : S34)] : List (S34)))).bind fun t186 => (some t186)) else (none)) else (none))))))) = some r := H
  have A6 := Aside0.mk A60
  clear A60
  replace H := Option.bind_eq_some_iff.mp H
  obtain ⟨⟨t173, t174⟩, A70, H⟩ := H
  replace H : ((identify_number.f k 520 44 2).bind fun bt175 => ((identify_number.f k 522 1 2).bind fun bt177 => ((identify_number.f k 525 1 1).bind fun bt179 => ((identify_number.f k 526 63 2).bind fun bt181 => (if 0 ≤ (mn (a0.size : Int) 256) then (if (mn (a0.size : Int) 256) ≤ (a0.size : Int) then ((identify_page.f (([(⟨4, (⟨#[72, 69, 65, 68, 71, 65, 84, 69, 45, 48, 48, 48, 49, 32, 32, 32, 32, 32, 32, 32]⟩ : ByteArray)⟩ : S34), (⟨24, (⟨#[72, 69, 65, 68, 71, 65, 84, 69, 32, 66, 76, 79, 67, 75, 32, 85, 78, 73, 84, 32, 32, 32, 32, 32, 32, 32, 32, 32, 32, 32, 32, 32, 32, 32, 32, 32, 32, 32, 32, 32]⟩ : ByteArray)⟩ : S34), (⟨64, (⟨#[48, 48, 48, 49, 32, 32, 32, 32]⟩ : ByteArray)⟩ : S34), (⟨t163, t164⟩ : S34), (⟨t165, t166⟩ : S34), (⟨t167, t168⟩ : S34), (⟨t169, t170⟩ : S34), (⟨t171, t172⟩ : S34), (⟨t173, t174⟩ : S34), (⟨bt175.1, bt175.2⟩ : S34), (⟨bt177.1, bt177.2⟩ : S34), (⟨bt179.1, bt179.2⟩ : S34), (⟨bt181.1, bt181.2⟩ : S34), (⟨768, a0.extract 0 ((mn (a0.size : Int) 256) : Int).toNat⟩ : S34)] : List (S34)))).bind fun t186 => (some t186)) else (none)) else (none)))))) = some r := H
  have A7 := Aside0.mk A70
  clear A70
  replace H := Option.bind_eq_some_iff.mp H
  obtain ⟨⟨t175, t176⟩, A80, H⟩ := H
  replace H : ((identify_number.f k 522 1 2).bind fun bt177 => ((identify_number.f k 525 1 1).bind fun bt179 => ((identify_number.f k 526 63 2).bind fun bt181 => (if 0 ≤ (mn (a0.size : Int) 256) then (if (mn (a0.size : Int) 256) ≤ (a0.size : Int) then ((identify_page.f (([(⟨4, (⟨#[72, 69, 65, 68, 71, 65, 84, 69, 45, 48, 48, 48, 49, 32, 32, 32, 32, 32, 32, 32]⟩ : ByteArray)⟩ : S34), (⟨24, (⟨#[72, 69, 65, 68, 71, 65, 84, 69, 32, 66, 76, 79, 67, 75, 32, 85, 78, 73, 84, 32, 32, 32, 32, 32, 32, 32, 32, 32, 32, 32, 32, 32, 32, 32, 32, 32, 32, 32, 32, 32]⟩ : ByteArray)⟩ : S34), (⟨64, (⟨#[48, 48, 48, 49, 32, 32, 32, 32]⟩ : ByteArray)⟩ : S34), (⟨t163, t164⟩ : S34), (⟨t165, t166⟩ : S34), (⟨t167, t168⟩ : S34), (⟨t169, t170⟩ : S34), (⟨t171, t172⟩ : S34), (⟨t173, t174⟩ : S34), (⟨t175, t176⟩ : S34), (⟨bt177.1, bt177.2⟩ : S34), (⟨bt179.1, bt179.2⟩ : S34), (⟨bt181.1, bt181.2⟩ : S34), (⟨768, a0.extract 0 ((mn (a0.size : Int) 256) : Int).toNat⟩ : S34)] : List (S34)))).bind fun t186 => (some t186)) else (none)) else (none))))) = some r := H
  have A8 := Aside0.mk A80
  clear A80
  replace H := Option.bind_eq_some_iff.mp H
  obtain ⟨⟨t177, t178⟩, A90, H⟩ := H
  replace H : ((identify_number.f k 525 1 1).bind fun bt179 => ((identify_number.f k 526 63 2).bind fun bt181 => (if 0 ≤ (mn (a0.size : Int) 256) then (if (mn (a0.size : Int) 256) ≤ (a0.size : Int) then ((identify_page.f (([(⟨4, (⟨#[72, 69, 65, 68, 71, 65, 84, 69, 45, 48, 48, 48, 49, 32, 32, 32, 32, 32, 32, 32]⟩ : ByteArray)⟩ : S34), (⟨24, (⟨#[72, 69, 65, 68, 71, 65, 84, 69, 32, 66, 76, 79, 67, 75, 32, 85, 78, 73, 84, 32, 32, 32, 32, 32, 32, 32, 32, 32, 32, 32, 32, 32, 32, 32, 32, 32, 32, 32, 32, 32]⟩ : ByteArray)⟩ : S34), (⟨64, (⟨#[48, 48, 48, 49, 32, 32, 32, 32]⟩ : ByteArray)⟩ : S34), (⟨t163, t164⟩ : S34), (⟨t165, t166⟩ : S34), (⟨t167, t168⟩ : S34), (⟨t169, t170⟩ : S34), (⟨t171, t172⟩ : S34), (⟨t173, t174⟩ : S34), (⟨t175, t176⟩ : S34), (⟨t177, t178⟩ : S34), (⟨bt179.1, bt179.2⟩ : S34), (⟨bt181.1, bt181.2⟩ : S34), (⟨768, a0.extract 0 ((mn (a0.size : Int) 256) : Int).toNat⟩ : S34)] : List (S34)))).bind fun t186 => (some t186)) else (none)) else (none)))) = some r := H
  have A9 := Aside0.mk A90
  clear A90
  replace H := Option.bind_eq_some_iff.mp H
  obtain ⟨⟨t179, t180⟩, A100, H⟩ := H
  replace H : ((identify_number.f k 526 63 2).bind fun bt181 => (if 0 ≤ (mn (a0.size : Int) 256) then (if (mn (a0.size : Int) 256) ≤ (a0.size : Int) then ((identify_page.f (([(⟨4, (⟨#[72, 69, 65, 68, 71, 65, 84, 69, 45, 48, 48, 48, 49, 32, 32, 32, 32, 32, 32, 32]⟩ : ByteArray)⟩ : S34), (⟨24, (⟨#[72, 69, 65, 68, 71, 65, 84, 69, 32, 66, 76, 79, 67, 75, 32, 85, 78, 73, 84, 32, 32, 32, 32, 32, 32, 32, 32, 32, 32, 32, 32, 32, 32, 32, 32, 32, 32, 32, 32, 32]⟩ : ByteArray)⟩ : S34), (⟨64, (⟨#[48, 48, 48, 49, 32, 32, 32, 32]⟩ : ByteArray)⟩ : S34), (⟨t163, t164⟩ : S34), (⟨t165, t166⟩ : S34), (⟨t167, t168⟩ : S34), (⟨t169, t170⟩ : S34), (⟨t171, t172⟩ : S34), (⟨t173, t174⟩ : S34), (⟨t175, t176⟩ : S34), (⟨t177, t178⟩ : S34), (⟨t179, t180⟩ : S34), (⟨bt181.1, bt181.2⟩ : S34), (⟨768, a0.extract 0 ((mn (a0.size : Int) 256) : Int).toNat⟩ : S34)] : List (S34)))).bind fun t186 => (some t186)) else (none)) else (none))) = some r := H
  have A10 := Aside0.mk A100
  clear A100
  replace H := Option.bind_eq_some_iff.mp H
  obtain ⟨⟨t181, t182⟩, A110, H⟩ := H
  replace H : (if 0 ≤ (mn (a0.size : Int) 256) then (if (mn (a0.size : Int) 256) ≤ (a0.size : Int) then ((identify_page.f (([(⟨4, (⟨#[72, 69, 65, 68, 71, 65, 84, 69, 45, 48, 48, 48, 49, 32, 32, 32, 32, 32, 32, 32]⟩ : ByteArray)⟩ : S34), (⟨24, (⟨#[72, 69, 65, 68, 71, 65, 84, 69, 32, 66, 76, 79, 67, 75, 32, 85, 78, 73, 84, 32, 32, 32, 32, 32, 32, 32, 32, 32, 32, 32, 32, 32, 32, 32, 32, 32, 32, 32, 32, 32]⟩ : ByteArray)⟩ : S34), (⟨64, (⟨#[48, 48, 48, 49, 32, 32, 32, 32]⟩ : ByteArray)⟩ : S34), (⟨t163, t164⟩ : S34), (⟨t165, t166⟩ : S34), (⟨t167, t168⟩ : S34), (⟨t169, t170⟩ : S34), (⟨t171, t172⟩ : S34), (⟨t173, t174⟩ : S34), (⟨t175, t176⟩ : S34), (⟨t177, t178⟩ : S34), (⟨t179, t180⟩ : S34), (⟨t181, t182⟩ : S34), (⟨768, a0.extract 0 ((mn (a0.size : Int) 256) : Int).toNat⟩ : S34)] : List (S34)))).bind fun t186 => (some t186)) else (none)) else (none)) = some r := H
  have A11 := Aside0.mk A110
  clear A110
  obtain ⟨ji12, hji12⟩ : ∃ j_ : Int, (mn (a0.size : Int) 256) = j_ := ⟨_, rfl⟩
  replace H : (if 0 ≤ (ji12) then (if (ji12) ≤ (a0.size : Int) then ((identify_page.f (([(⟨4, (⟨#[72, 69, 65, 68, 71, 65, 84, 69, 45, 48, 48, 48, 49, 32, 32, 32, 32, 32, 32, 32]⟩ : ByteArray)⟩ : S34), (⟨24, (⟨#[72, 69, 65, 68, 71, 65, 84, 69, 32, 66, 76, 79, 67, 75, 32, 85, 78, 73, 84, 32, 32, 32, 32, 32, 32, 32, 32, 32, 32, 32, 32, 32, 32, 32, 32, 32, 32, 32, 32, 32]⟩ : ByteArray)⟩ : S34), (⟨64, (⟨#[48, 48, 48, 49, 32, 32, 32, 32]⟩ : ByteArray)⟩ : S34), (⟨t163, t164⟩ : S34), (⟨t165, t166⟩ : S34), (⟨t167, t168⟩ : S34), (⟨t169, t170⟩ : S34), (⟨t171, t172⟩ : S34), (⟨t173, t174⟩ : S34), (⟨t175, t176⟩ : S34), (⟨t177, t178⟩ : S34), (⟨t179, t180⟩ : S34), (⟨t181, t182⟩ : S34), (⟨768, a0.extract 0 ((ji12) : Int).toNat⟩ : S34)] : List (S34)))).bind fun t186 => (some t186)) else (none)) else (none)) = some r := by first | (rw [hji12] at H; exact H) | (simp only [hji12] at H ⊢; exact H)
  (try rw [hji12] at A2)
  (try rw [hji12] at A3)
  (try rw [hji12] at A4)
  (try rw [hji12] at A5)
  (try rw [hji12] at A6)
  (try rw [hji12] at A7)
  (try rw [hji12] at A8)
  (try rw [hji12] at A9)
  (try rw [hji12] at A10)
  (try rw [hji12] at A11)
  (try (have hji12h : ji12 ≤ 256 := by (rw [← hji12]; unfold mn; (repeat' split) <;> omega)))
  (try (have hji12g : ji12 ≤ 64 := by omega))
  (try (have hji12l : 0 ≤ ji12 := by (rw [← hji12]; unfold mn; (repeat' split) <;> omega)))
  (try (have hji12m : 0 ≤ ji12 := by omega))
  have hji12_ : (if 256 < (a0.size : Int) then 256 else (a0.size : Int)) = ji12 := hji12
  by_cases c13 : 0 ≤ (ji12)
  · rw [if_pos c13] at H
    have c13b0 := eq_true c13
    have c13b1 : decide (0 ≤ (ji12)) = true := decide_eq_true c13
    clear c13
    by_cases c14 : (ji12) ≤ (a0.size : Int)
    · rw [if_pos c14] at H
      have c14b0 := eq_true c14
      have c14b1 : decide ((ji12) ≤ (a0.size : Int)) = true := decide_eq_true c14
      clear c14
      obtain ⟨y183, hy183⟩ : ∃ y_ : List (S34), y_ = (([(⟨4, (⟨#[72, 69, 65, 68, 71, 65, 84, 69, 45, 48, 48, 48, 49, 32, 32, 32, 32, 32, 32, 32]⟩ : ByteArray)⟩ : S34), (⟨24, (⟨#[72, 69, 65, 68, 71, 65, 84, 69, 32, 66, 76, 79, 67, 75, 32, 85, 78, 73, 84, 32, 32, 32, 32, 32, 32, 32, 32, 32, 32, 32, 32, 32, 32, 32, 32, 32, 32, 32, 32, 32]⟩ : ByteArray)⟩ : S34), (⟨64, (⟨#[48, 48, 48, 49, 32, 32, 32, 32]⟩ : ByteArray)⟩ : S34), (⟨t163, t164⟩ : S34), (⟨t165, t166⟩ : S34), (⟨t167, t168⟩ : S34), (⟨t169, t170⟩ : S34), (⟨t171, t172⟩ : S34), (⟨t173, t174⟩ : S34), (⟨t175, t176⟩ : S34), (⟨t177, t178⟩ : S34), (⟨t179, t180⟩ : S34), (⟨t181, t182⟩ : S34), (⟨768, a0.extract 0 ((ji12) : Int).toNat⟩ : S34)] : List (S34))) := ⟨_, rfl⟩
      replace H : ((identify_page.f y183).bind fun t186 => (some t186)) = some r := by first | (rw [hy183]; with_reducible exact H) | (have H2_ := (Option.bind_some _ _).symm.trans H; rw [hy183]; with_reducible exact H2_) | (have H2_ := (Option.bind_some _ _).symm.trans H; with_reducible exact H2_) | with_reducible exact H | (rw [hy183]; exact H) | exact H
      have Ny183 := Aside0.mk hy183
      clear hy183
      replace H := Option.bind_eq_some_iff.mp H
      obtain ⟨t186, A150, H⟩ := H
      replace H : (some t186) = some r := H
      have A15 := Aside0.mk A150
      clear A150
      obtain rfl := Option.some.inj H
      go_enter Try.func10, Try.ntmps10
      try go_wp2
      have n0_ := Aside0.mk (below_drew1 HB.out)
      clear HB
      have HB := n0_
      clear n0_
      refine start_ (n := 22) (S := fun w' => True) (ds := []) #[false, false, false, false, false, false, false, false, false, false, false, false, false, false, false, false, false, false, false, false, false, false] (by kernel_rfl) rfl rfl trivial (fun hHeld => ?_); refine with_tabW identify_Controller.tab1 identify_Controller.bits1 (fun HT_ HW_ => ?_)
      generalize w.drew = w16 at HB hHeld ⊢
      refine pure_ (i := 0) (N := some 3) (v := ?_) (a' := ?_) #[true, false, false, false, false, false, false, false, false, false, false, false, false, false, false, false, false, false, false, false, false, false] rfl rfl (any_of HT_.out (by kernel_rfl)) (fun _ _ _ h => h) (Or.inl ⟨by rfl, ?_⟩) ?_ ?_
      rotate_left
      · intro w'
        go_simp
        with_reducible rfl
      rotate_left
      · simp only [Act.put, List.setIfInBounds_toArray, List.set_cons_zero, List.set_cons_succ, i64_w, i32_w]
        rfl
      refine pure_ (i := 1) (N := some 4) (v := ?_) (a' := ?_) #[true, true, false, false, false, false, false, false, false, false, false, false, false, false, false, false, false, false, false, false, false, false] rfl rfl (any_of HT_.out (by kernel_rfl)) (fun _ _ _ h => h) (Or.inl ⟨by rfl, ?_⟩) ?_ ?_
      rotate_left
      · intro w'
        go_simp
        with_reducible rfl
      rotate_left
      · simp only [Act.put, List.setIfInBounds_toArray, List.set_cons_zero, List.set_cons_succ, i64_w, i32_w]
        rfl
      refine pure_ (i := 2) (N := some 5) (v := ?_) (a' := ?_) #[true, true, true, false, false, false, false, false, false, false, false, false, false, false, false, false, false, false, false, false, false, false] rfl rfl (any_of HT_.out (by kernel_rfl)) (fun _ _ _ h => h) (Or.inl ⟨by rfl, ?_⟩) ?_ ?_
      rotate_left
      · intro w'
        go_simp
        with_reducible rfl
      rotate_left
      · simp only [Act.put, List.setIfInBounds_toArray, List.set_cons_zero, List.set_cons_succ, i64_w, i32_w]
        rfl
      refine pure_ (i := 13) (N := some 16) (v := ?_) (a' := ?_) #[true, true, true, false, false, false, false, false, false, false, false, false, false, true, false, false, false, false, false, false, false, false] rfl rfl (any_of HT_.out (by kernel_rfl)) (fun _ _ _ h => h) (Or.inl ⟨by rfl, ?_⟩) ?_ ?_
      rotate_left
      · intro w'
        go_simp
        with_reducible rfl
      rotate_left
      · simp only [Act.put, List.setIfInBounds_toArray, List.set_cons_zero, List.set_cons_succ, i64_w, i32_w]
        rfl
      refine pure_ (i := 14) (N := some 17) (v := ?_) (a' := ?_) #[true, true, true, false, false, false, false, false, false, false, false, false, false, true, true, false, false, false, false, false, false, false] rfl rfl (any_of HT_.out (by kernel_rfl)) (fun _ _ _ h => h) (Or.inl ⟨by rfl, ?_⟩) ?_ ?_
      rotate_left
      · intro w'
        go_simp
        with_reducible rfl
      rotate_left
      · simp only [Act.put, List.setIfInBounds_toArray, List.set_cons_zero, List.set_cons_succ, i64_w, i32_w]
        rfl
      refine pure_ (i := 15) (N := some 18) (v := ?_) (a' := ?_) #[true, true, true, false, false, false, false, false, false, false, false, false, false, true, true, true, false, false, false, false, false, false] rfl rfl (any_of HT_.out (by kernel_rfl)) (fun _ _ _ h => h) (Or.inl ⟨by rfl, ?_⟩) ?_ ?_
      rotate_left
      · intro w'
        go_simp
        with_reducible rfl
      rotate_left
      · simp only [Act.put, List.setIfInBounds_toArray, List.set_cons_zero, List.set_cons_succ, i64_w, i32_w]
        rfl
      refine pure_ (i := 16) (N := some 19) (v := ?_) (a' := ?_) #[true, true, true, false, false, false, false, false, false, false, false, false, false, true, true, true, true, false, false, false, false, false] rfl rfl (any_of HT_.out (by kernel_rfl)) (fun _ _ _ h => h) (Or.inl ⟨by rfl, ?_⟩) ?_ ?_
      rotate_left
      · intro w'
        go_simp
        with_reducible rfl
      rotate_left
      · simp only [Act.put, List.setIfInBounds_toArray, List.set_cons_zero, List.set_cons_succ, i64_w, i32_w]
        rfl
      refine pure_ (i := 17) (N := some 20) (v := ?_) (a' := ?_) #[true, true, true, false, false, false, false, false, false, false, false, false, false, true, true, true, true, true, false, false, false, false] rfl rfl (any_of HT_.out (by kernel_rfl)) (fun _ _ _ h => h) (Or.inl ⟨by rfl, ?_⟩) ?_ ?_
      rotate_left
      · intro w'
        go_simp
        with_reducible rfl
      rotate_left
      · simp only [Act.put, List.setIfInBounds_toArray, List.set_cons_zero, List.set_cons_succ, i64_w, i32_w]
        rfl
      refine pure_ (i := 18) (N := some 21) (v := ?_) (a' := ?_) #[true, true, true, false, false, false, false, false, false, false, false, false, false, true, true, true, true, true, true, false, false, false] rfl rfl (any_of HT_.out (by kernel_rfl)) (fun _ _ _ h => h) (Or.inl ⟨by rfl, ?_⟩) ?_ ?_
      rotate_left
      · intro w'
        go_simp
        with_reducible rfl
      rotate_left
      · simp only [Act.put, List.setIfInBounds_toArray, List.set_cons_zero, List.set_cons_succ, i64_w, i32_w]
        rfl
      refine one_ (i := 3) (N := some 6) #[true, true, true, true, false, false, false, false, false, false, false, false, false, true, true, true, true, true, true, false, false, false] rfl rfl (one_of HT_.out (by kernel_rfl)) (by decide) (fun K hK => ?_)
      refine goes_ Try.func13 (by kernel_rfl) rfl #[.int .i64 77, .int .i64 3, .int .i64 1] (by rfl) rfl rfl (by (try simp only [List.map_toArray, List.map_cons, List.map_nil]); first | done | rfl | (simp only [List.length_drop, List.length_take]; rfl)) ?_
      with_reducible refine (identify_number.calls k 77 3 1 t163 t164 _ A2.out).mono ?_
      rintro e w17 ⟨rfl, hb⟩
      refine ⟨_, rfl, ?_⟩
      have n0_ := Aside0.mk (below_step (by repeat (first | (with_reducible first | exact HB.out | apply below_alloc | apply pw_below_drewN | apply below_drew1) | exact HB.out)) hb)
      clear HB
      have HB := n0_
      clear n0_
      (try clear hb)
      (try clear hb2)
      (try clear hk)
      (try clear hi)
      refine hK.out _ _ trivial (fun hHeld => ?_)
      clear hK K
      refine norm_ (a' := ?_) ?_ ?_
      rotate_left
      · show Act.put _ (some 6) _ = _
        simp only [Act.put, List.setIfInBounds_toArray, List.set_cons_zero, List.set_cons_succ, i64_w, i32_w]
        rfl
      refine one_ (i := 4) (N := some 7) #[true, true, true, true, true, false, false, false, false, false, false, false, false, true, true, true, true, true, true, false, false, false] rfl rfl (one_of HT_.out (by kernel_rfl)) (by decide) (fun K hK => ?_)
      refine goes_ Try.func13 (by kernel_rfl) rfl #[.int .i64 78, .int .i64 1, .int .i64 2] (by rfl) rfl rfl (by (try simp only [List.map_toArray, List.map_cons, List.map_nil]); first | done | rfl | (simp only [List.length_drop, List.length_take]; rfl)) ?_
      with_reducible refine (identify_number.calls k 78 1 2 t165 t166 _ A3.out).mono ?_
      rintro e w18 ⟨rfl, hb⟩
      refine ⟨_, rfl, ?_⟩
      have n0_ := Aside0.mk (below_step (by repeat (first | (with_reducible first | exact HB.out | apply below_alloc | apply pw_below_drewN | apply below_drew1) | exact HB.out)) hb)
      clear HB
      have HB := n0_
      clear n0_
      (try clear hb)
      (try clear hb2)
      (try clear hk)
      (try clear hi)
      refine hK.out _ _ trivial (fun hHeld => ?_)
      clear hK K
      refine norm_ (a' := ?_) ?_ ?_
      rotate_left
      · show Act.put _ (some 7) _ = _
        simp only [Act.put, List.setIfInBounds_toArray, List.set_cons_zero, List.set_cons_succ, i64_w, i32_w]
        rfl
      refine one_ (i := 5) (N := some 8) #[true, true, true, true, true, true, false, false, false, false, false, false, false, true, true, true, true, true, true, false, false, false] rfl rfl (one_of HT_.out (by kernel_rfl)) (by decide) (fun K hK => ?_)
      refine goes_ Try.func13 (by kernel_rfl) rfl #[.int .i64 80, .int .i64 131072, .int .i64 4] (by rfl) rfl rfl (by (try simp only [List.map_toArray, List.map_cons, List.map_nil]); first | done | rfl | (simp only [List.length_drop, List.length_take]; rfl)) ?_
      with_reducible refine (identify_number.calls k 80 131072 4 t167 t168 _ A4.out).mono ?_
      rintro e w19 ⟨rfl, hb⟩
      refine ⟨_, rfl, ?_⟩
      have n0_ := Aside0.mk (below_step (by repeat (first | (with_reducible first | exact HB.out | apply below_alloc | apply pw_below_drewN | apply below_drew1) | exact HB.out)) hb)
      clear HB
      have HB := n0_
      clear n0_
      (try clear hb)
      (try clear hb2)
      (try clear hk)
      (try clear hi)
      refine hK.out _ _ trivial (fun hHeld => ?_)
      clear hK K
      refine norm_ (a' := ?_) ?_ ?_
      rotate_left
      · show Act.put _ (some 8) _ = _
        simp only [Act.put, List.setIfInBounds_toArray, List.set_cons_zero, List.set_cons_succ, i64_w, i32_w]
        rfl
      refine one_ (i := 6) (N := some 9) #[true, true, true, true, true, true, true, false, false, false, false, false, false, true, true, true, true, true, true, false, false, false] rfl rfl (one_of HT_.out (by kernel_rfl)) (by decide) (fun K hK => ?_)
      refine goes_ Try.func13 (by kernel_rfl) rfl #[.int .i64 512, .int .i64 102, .int .i64 1] (by rfl) rfl rfl (by (try simp only [List.map_toArray, List.map_cons, List.map_nil]); first | done | rfl | (simp only [List.length_drop, List.length_take]; rfl)) ?_
      with_reducible refine (identify_number.calls k 512 102 1 t169 t170 _ A5.out).mono ?_
      rintro e w20 ⟨rfl, hb⟩
      refine ⟨_, rfl, ?_⟩
      have n0_ := Aside0.mk (below_step (by repeat (first | (with_reducible first | exact HB.out | apply below_alloc | apply pw_below_drewN | apply below_drew1) | exact HB.out)) hb)
      clear HB
      have HB := n0_
      clear n0_
      (try clear hb)
      (try clear hb2)
      (try clear hk)
      (try clear hi)
      refine hK.out _ _ trivial (fun hHeld => ?_)
      clear hK K
      refine norm_ (a' := ?_) ?_ ?_
      rotate_left
      · show Act.put _ (some 9) _ = _
        simp only [Act.put, List.setIfInBounds_toArray, List.set_cons_zero, List.set_cons_succ, i64_w, i32_w]
        rfl
      refine one_ (i := 7) (N := some 10) #[true, true, true, true, true, true, true, true, false, false, false, false, false, true, true, true, true, true, true, false, false, false] rfl rfl (one_of HT_.out (by kernel_rfl)) (by decide) (fun K hK => ?_)
      refine goes_ Try.func13 (by kernel_rfl) rfl #[.int .i64 513, .int .i64 68, .int .i64 1] (by rfl) rfl rfl (by (try simp only [List.map_toArray, List.map_cons, List.map_nil]); first | done | rfl | (simp only [List.length_drop, List.length_take]; rfl)) ?_
      with_reducible refine (identify_number.calls k 513 68 1 t171 t172 _ A6.out).mono ?_
      rintro e w21 ⟨rfl, hb⟩
      refine ⟨_, rfl, ?_⟩
      have n0_ := Aside0.mk (below_step (by repeat (first | (with_reducible first | exact HB.out | apply below_alloc | apply pw_below_drewN | apply below_drew1) | exact HB.out)) hb)
      clear HB
      have HB := n0_
      clear n0_
      (try clear hb)
      (try clear hb2)
      (try clear hk)
      (try clear hi)
      refine hK.out _ _ trivial (fun hHeld => ?_)
      clear hK K
      refine norm_ (a' := ?_) ?_ ?_
      rotate_left
      · show Act.put _ (some 10) _ = _
        simp only [Act.put, List.setIfInBounds_toArray, List.set_cons_zero, List.set_cons_succ, i64_w, i32_w]
        rfl
      refine one_ (i := 8) (N := some 11) #[true, true, true, true, true, true, true, true, true, false, false, false, false, true, true, true, true, true, true, false, false, false] rfl rfl (one_of HT_.out (by kernel_rfl)) (by decide) (fun K hK => ?_)
      refine goes_ Try.func13 (by kernel_rfl) rfl #[.int .i64 516, .int .i64 8, .int .i64 4] (by rfl) rfl rfl (by (try simp only [List.map_toArray, List.map_cons, List.map_nil]); first | done | rfl | (simp only [List.length_drop, List.length_take]; rfl)) ?_
      with_reducible refine (identify_number.calls k 516 8 4 t173 t174 _ A7.out).mono ?_
      rintro e w22 ⟨rfl, hb⟩
      refine ⟨_, rfl, ?_⟩
      have n0_ := Aside0.mk (below_step (by repeat (first | (with_reducible first | exact HB.out | apply below_alloc | apply pw_below_drewN | apply below_drew1) | exact HB.out)) hb)
      clear HB
      have HB := n0_
      clear n0_
      (try clear hb)
      (try clear hb2)
      (try clear hk)
      (try clear hi)
      refine hK.out _ _ trivial (fun hHeld => ?_)
      clear hK K
      refine norm_ (a' := ?_) ?_ ?_
      rotate_left
      · show Act.put _ (some 11) _ = _
        simp only [Act.put, List.setIfInBounds_toArray, List.set_cons_zero, List.set_cons_succ, i64_w, i32_w]
        rfl
      refine one_ (i := 9) (N := some 12) #[true, true, true, true, true, true, true, true, true, true, false, false, false, true, true, true, true, true, true, false, false, false] rfl rfl (one_of HT_.out (by kernel_rfl)) (by decide) (fun K hK => ?_)
      refine goes_ Try.func13 (by kernel_rfl) rfl #[.int .i64 520, .int .i64 44, .int .i64 2] (by rfl) rfl rfl (by (try simp only [List.map_toArray, List.map_cons, List.map_nil]); first | done | rfl | (simp only [List.length_drop, List.length_take]; rfl)) ?_
      with_reducible refine (identify_number.calls k 520 44 2 t175 t176 _ A8.out).mono ?_
      rintro e w23 ⟨rfl, hb⟩
      refine ⟨_, rfl, ?_⟩
      have n0_ := Aside0.mk (below_step (by repeat (first | (with_reducible first | exact HB.out | apply below_alloc | apply pw_below_drewN | apply below_drew1) | exact HB.out)) hb)
      clear HB
      have HB := n0_
      clear n0_
      (try clear hb)
      (try clear hb2)
      (try clear hk)
      (try clear hi)
      refine hK.out _ _ trivial (fun hHeld => ?_)
      clear hK K
      refine norm_ (a' := ?_) ?_ ?_
      rotate_left
      · show Act.put _ (some 12) _ = _
        simp only [Act.put, List.setIfInBounds_toArray, List.set_cons_zero, List.set_cons_succ, i64_w, i32_w]
        rfl
      refine one_ (i := 10) (N := some 13) #[true, true, true, true, true, true, true, true, true, true, true, false, false, true, true, true, true, true, true, false, false, false] rfl rfl (one_of HT_.out (by kernel_rfl)) (by decide) (fun K hK => ?_)
      refine goes_ Try.func13 (by kernel_rfl) rfl #[.int .i64 522, .int .i64 1, .int .i64 2] (by rfl) rfl rfl (by (try simp only [List.map_toArray, List.map_cons, List.map_nil]); first | done | rfl | (simp only [List.length_drop, List.length_take]; rfl)) ?_
      with_reducible refine (identify_number.calls k 522 1 2 t177 t178 _ A9.out).mono ?_
      rintro e w24 ⟨rfl, hb⟩
      refine ⟨_, rfl, ?_⟩
      have n0_ := Aside0.mk (below_step (by repeat (first | (with_reducible first | exact HB.out | apply below_alloc | apply pw_below_drewN | apply below_drew1) | exact HB.out)) hb)
      clear HB
      have HB := n0_
      clear n0_
      (try clear hb)
      (try clear hb2)
      (try clear hk)
      (try clear hi)
      refine hK.out _ _ trivial (fun hHeld => ?_)
      clear hK K
      refine norm_ (a' := ?_) ?_ ?_
      rotate_left
      · show Act.put _ (some 13) _ = _
        simp only [Act.put, List.setIfInBounds_toArray, List.set_cons_zero, List.set_cons_succ, i64_w, i32_w]
        rfl
      refine one_ (i := 11) (N := some 14) #[true, true, true, true, true, true, true, true, true, true, true, true, false, true, true, true, true, true, true, false, false, false] rfl rfl (one_of HT_.out (by kernel_rfl)) (by decide) (fun K hK => ?_)
      refine goes_ Try.func13 (by kernel_rfl) rfl #[.int .i64 525, .int .i64 1, .int .i64 1] (by rfl) rfl rfl (by (try simp only [List.map_toArray, List.map_cons, List.map_nil]); first | done | rfl | (simp only [List.length_drop, List.length_take]; rfl)) ?_
      with_reducible refine (identify_number.calls k 525 1 1 t179 t180 _ A10.out).mono ?_
      rintro e w25 ⟨rfl, hb⟩
      refine ⟨_, rfl, ?_⟩
      have n0_ := Aside0.mk (below_step (by repeat (first | (with_reducible first | exact HB.out | apply below_alloc | apply pw_below_drewN | apply below_drew1) | exact HB.out)) hb)
      clear HB
      have HB := n0_
      clear n0_
      (try clear hb)
      (try clear hb2)
      (try clear hk)
      (try clear hi)
      refine hK.out _ _ trivial (fun hHeld => ?_)
      clear hK K
      refine norm_ (a' := ?_) ?_ ?_
      rotate_left
      · show Act.put _ (some 14) _ = _
        simp only [Act.put, List.setIfInBounds_toArray, List.set_cons_zero, List.set_cons_succ, i64_w, i32_w]
        rfl
      refine one_ (i := 12) (N := some 15) #[true, true, true, true, true, true, true, true, true, true, true, true, true, true, true, true, true, true, true, false, false, false] rfl rfl (one_of HT_.out (by kernel_rfl)) (by decide) (fun K hK => ?_)
      refine goes_ Try.func13 (by kernel_rfl) rfl #[.int .i64 526, .int .i64 63, .int .i64 2] (by rfl) rfl rfl (by (try simp only [List.map_toArray, List.map_cons, List.map_nil]); first | done | rfl | (simp only [List.length_drop, List.length_take]; rfl)) ?_
      with_reducible refine (identify_number.calls k 526 63 2 t181 t182 _ A11.out).mono ?_
      rintro e w26 ⟨rfl, hb⟩
      refine ⟨_, rfl, ?_⟩
      have n0_ := Aside0.mk (below_step (by repeat (first | (with_reducible first | exact HB.out | apply below_alloc | apply pw_below_drewN | apply below_drew1) | exact HB.out)) hb)
      clear HB
      have HB := n0_
      clear n0_
      (try clear hb)
      (try clear hb2)
      (try clear hk)
      (try clear hi)
      refine hK.out _ _ trivial (fun hHeld => ?_)
      clear hK K
      refine norm_ (a' := ?_) ?_ ?_
      rotate_left
      · show Act.put _ (some 15) _ = _
        simp only [Act.put, List.setIfInBounds_toArray, List.set_cons_zero, List.set_cons_succ, i64_w, i32_w]
        rfl
      refine one_ (i := 19) (N := some 22) #[true, true, true, true, true, true, true, true, true, true, true, true, true, true, true, true, true, true, true, true, false, false] rfl rfl (one_of HT_.out (by kernel_rfl)) (by decide) (fun K hK => ?_)
      refine Kd.R_lit_step k34 _ 34 ?hg (N := 22) ?hd (xs := ([(⟨4, (⟨#[72, 69, 65, 68, 71, 65, 84, 69, 45, 48, 48, 48, 49, 32, 32, 32, 32, 32, 32, 32]⟩ : ByteArray)⟩ : S34), (⟨24, (⟨#[72, 69, 65, 68, 71, 65, 84, 69, 32, 66, 76, 79, 67, 75, 32, 85, 78, 73, 84, 32, 32, 32, 32, 32, 32, 32, 32, 32, 32, 32, 32, 32, 32, 32, 32, 32, 32, 32, 32, 32]⟩ : ByteArray)⟩ : S34), (⟨64, (⟨#[48, 48, 48, 49, 32, 32, 32, 32]⟩ : ByteArray)⟩ : S34), (⟨t163, t164⟩ : S34), (⟨t165, t166⟩ : S34), (⟨t167, t168⟩ : S34), (⟨t169, t170⟩ : S34), (⟨t171, t172⟩ : S34), (⟨t173, t174⟩ : S34), (⟨t175, t176⟩ : S34), (⟨t177, t178⟩ : S34), (⟨t179, t180⟩ : S34), (⟨t181, t182⟩ : S34), (⟨768, a0.extract 0 ((ji12) : Int).toNat⟩ : S34)] : List (S34))) (inner := [.int .i64 4, .string (⟨#[72, 69, 65, 68, 71, 65, 84, 69, 45, 48, 48, 48, 49, 32, 32, 32, 32, 32, 32, 32]⟩ : ByteArray), .int .i64 24, .string (⟨#[72, 69, 65, 68, 71, 65, 84, 69, 32, 66, 76, 79, 67, 75, 32, 85, 78, 73, 84, 32, 32, 32, 32, 32, 32, 32, 32, 32, 32, 32, 32, 32, 32, 32, 32, 32, 32, 32, 32, 32]⟩ : ByteArray), .int .i64 64, .string (⟨#[48, 48, 48, 49, 32, 32, 32, 32]⟩ : ByteArray), .int .i64 t163, .string t164, .int .i64 t165, .string t166, .int .i64 t167, .string t168, .int .i64 t169, .string t170, .int .i64 t171, .string t172, .int .i64 t173, .string t174, .int .i64 t175, .string t176, .int .i64 t177, .string t178, .int .i64 t179, .string t180, .int .i64 t181, .string t182, .int .i64 768, .string (a0.extract 0 ((ji12) : Int).toNat)]) (ok := fun _ => True) (okp := fun _ => True) ?hr ?hp (fun _ hk => hk) trivial (Below.refl _ _) (Nat.le_refl _) (by simp) ?_; (case hd => rfl); (case hg => rfl); (case hr => first | (go_simp; done) | (go_simp; rfl)); (case hp => exact (Reps.c2 (show Kd.M k34 _ _ _ (⟨4, (⟨#[72, 69, 65, 68, 71, 65, 84, 69, 45, 48, 48, 48, 49, 32, 32, 32, 32, 32, 32, 32]⟩ : ByteArray)⟩ : S34) [.int .i64 4, .string (⟨#[72, 69, 65, 68, 71, 65, 84, 69, 45, 48, 48, 48, 49, 32, 32, 32, 32, 32, 32, 32]⟩ : ByteArray)] from (k34_mkM _ _ _ (⟨4, (⟨#[72, 69, 65, 68, 71, 65, 84, 69, 45, 48, 48, 48, 49, 32, 32, 32, 32, 32, 32, 32]⟩ : ByteArray)⟩ : S34) )) (Reps.c2 (show Kd.M k34 _ _ _ (⟨24, (⟨#[72, 69, 65, 68, 71, 65, 84, 69, 32, 66, 76, 79, 67, 75, 32, 85, 78, 73, 84, 32, 32, 32, 32, 32, 32, 32, 32, 32, 32, 32, 32, 32, 32, 32, 32, 32, 32, 32, 32, 32]⟩ : ByteArray)⟩ : S34) [.int .i64 24, .string (⟨#[72, 69, 65, 68, 71, 65, 84, 69, 32, 66, 76, 79, 67, 75, 32, 85, 78, 73, 84, 32, 32, 32, 32, 32, 32, 32, 32, 32, 32, 32, 32, 32, 32, 32, 32, 32, 32, 32, 32, 32]⟩ : ByteArray)] from (k34_mkM _ _ _ (⟨24, (⟨#[72, 69, 65, 68, 71, 65, 84, 69, 32, 66, 76, 79, 67, 75, 32, 85, 78, 73, 84, 32, 32, 32, 32, 32, 32, 32, 32, 32, 32, 32, 32, 32, 32, 32, 32, 32, 32, 32, 32, 32]⟩ : ByteArray)⟩ : S34) )) (Reps.c2 (show Kd.M k34 _ _ _ (⟨64, (⟨#[48, 48, 48, 49, 32, 32, 32, 32]⟩ : ByteArray)⟩ : S34) [.int .i64 64, .string (⟨#[48, 48, 48, 49, 32, 32, 32, 32]⟩ : ByteArray)] from (k34_mkM _ _ _ (⟨64, (⟨#[48, 48, 48, 49, 32, 32, 32, 32]⟩ : ByteArray)⟩ : S34) )) (Reps.c2 (show Kd.M k34 _ _ _ (⟨t163, t164⟩ : S34) [.int .i64 t163, .string t164] from (k34_mkM _ _ _ (⟨t163, t164⟩ : S34) )) (Reps.c2 (show Kd.M k34 _ _ _ (⟨t165, t166⟩ : S34) [.int .i64 t165, .string t166] from (k34_mkM _ _ _ (⟨t165, t166⟩ : S34) )) (Reps.c2 (show Kd.M k34 _ _ _ (⟨t167, t168⟩ : S34) [.int .i64 t167, .string t168] from (k34_mkM _ _ _ (⟨t167, t168⟩ : S34) )) (Reps.c2 (show Kd.M k34 _ _ _ (⟨t169, t170⟩ : S34) [.int .i64 t169, .string t170] from (k34_mkM _ _ _ (⟨t169, t170⟩ : S34) )) (Reps.c2 (show Kd.M k34 _ _ _ (⟨t171, t172⟩ : S34) [.int .i64 t171, .string t172] from (k34_mkM _ _ _ (⟨t171, t172⟩ : S34) )) (Reps.c2 (show Kd.M k34 _ _ _ (⟨t173, t174⟩ : S34) [.int .i64 t173, .string t174] from (k34_mkM _ _ _ (⟨t173, t174⟩ : S34) )) (Reps.c2 (show Kd.M k34 _ _ _ (⟨t175, t176⟩ : S34) [.int .i64 t175, .string t176] from (k34_mkM _ _ _ (⟨t175, t176⟩ : S34) )) (Reps.c2 (show Kd.M k34 _ _ _ (⟨t177, t178⟩ : S34) [.int .i64 t177, .string t178] from (k34_mkM _ _ _ (⟨t177, t178⟩ : S34) )) (Reps.c2 (show Kd.M k34 _ _ _ (⟨t179, t180⟩ : S34) [.int .i64 t179, .string t180] from (k34_mkM _ _ _ (⟨t179, t180⟩ : S34) )) (Reps.c2 (show Kd.M k34 _ _ _ (⟨t181, t182⟩ : S34) [.int .i64 t181, .string t182] from (k34_mkM _ _ _ (⟨t181, t182⟩ : S34) )) (Reps.c2 (show Kd.M k34 _ _ _ (⟨768, a0.extract 0 ((ji12) : Int).toNat⟩ : S34) [.int .i64 768, .string (a0.extract 0 ((ji12) : Int).toNat)] from (k34_mkM _ _ _ (⟨768, a0.extract 0 ((ji12) : Int).toNat⟩ : S34) )) (Reps.none _ _))))))))))))))))
      intro v184 w27 ho28 hb hg_ hnew_
      clear hg_ hnew_
      (first | rw [← Ny183.out] at ho28 | (simp only [Int.reduceToNat] at ho28; rw [← Ny183.out] at ho28))
      have n0_ := Aside0.mk (Kd.R_lower ho28 (below_size (by repeat (first | (with_reducible first | exact HB.out | apply below_alloc | apply pw_below_drewN | apply below_drew1) | exact HB.out))))
      have n1_ := Aside0.mk (below_step (by repeat (first | (with_reducible first | exact HB.out | apply below_alloc | apply pw_below_drewN | apply below_drew1) | exact HB.out)) hb)
      clear HB
      have HO185 := n0_
      have HB := n1_
      clear n0_ n1_
      clear hb ho28
      obtain ⟨Ao29, co29, eo29⟩ := Kd.R_slice HO185.out
      (first | subst eo29 | (injection eo29 with f1_ f2_ f3_; have f4_ := f1_.symm; have f5_ := f3_.symm; clear f1_ f2_ f3_; subst f4_; subst f5_))
      refine hK.out _ _ trivial (fun hHeld => ?_)
      clear hK K
      refine norm_ (a' := ?_) ?_ ?_
      rotate_left
      · show Act.put _ (some 22) _ = _
        simp only [Act.put, List.setIfInBounds_toArray, List.set_cons_zero, List.set_cons_succ, i64_w, i32_w]
        rfl
      refine one_ (i := 20) (N := some 23) #[true, true, true, true, true, true, true, true, true, true, true, true, true, true, true, true, true, true, true, true, true, false] rfl rfl (one_of HT_.out (by kernel_rfl)) (by decide) (fun K hK => ?_)
      refine goes_ Try.func14 (by kernel_rfl) rfl #[.slice Ao29 y183.length co29] (by rfl) rfl rfl (by (try simp only [List.map_toArray, List.map_cons, List.map_nil]); first | done | rfl | (simp only [List.length_drop, List.length_take]; rfl)) ?_
      with_reducible refine (identify_page.calls _ _ y183 t186 _ ?side1 ?side2 A15.out).mono ?_
      (case side1 => repeat (first | exact (Kd.R_reads' HO185.out).2.2 | (with_reducible refine Kd.C_alloc ?_ _) | (with_reducible refine Kd.C_drewN ?_ _) | (with_reducible refine Kd.C_drew ?_)))
      (case side2 => exact (Kd.R_reads' HO185.out).2.1)
      rintro e w30 ⟨rfl, hb⟩
      refine ⟨_, rfl, ?_⟩
      have n0_ := Aside0.mk (Kd.R_below (by (with_reducible repeat (first | apply Kd.R_alloc | apply Kd.R_drewN | apply Kd.R_drew)); exact HO185.out) hb)
      have n1_ := Aside0.mk (below_step (by repeat (first | (with_reducible first | exact HB.out | apply below_alloc | apply pw_below_drewN | apply below_drew1) | exact HB.out)) hb)
      clear HO185
      clear HB
      have HO185 := n0_
      have HB := n1_
      clear n0_ n1_
      (try clear hb)
      (try clear hb2)
      (try clear hk)
      (try clear hi)
      refine hK.out _ _ trivial (fun hHeld => ?_)
      clear hK K
      refine norm_ (a' := ?_) ?_ ?_
      rotate_left
      · show Act.put _ (some 23) _ = _
        simp only [Act.put, List.setIfInBounds_toArray, List.set_cons_zero, List.set_cons_succ, i64_w, i32_w]
        rfl
      refine pure_ (i := 21) (N := some 2) (v := ?_) (a' := ?_) #[true, true, true, true, true, true, true, true, true, true, true, true, true, true, true, true, true, true, true, true, true, true] rfl rfl (any_of HT_.out (by kernel_rfl)) (fun _ _ _ h => h) (Or.inl ⟨by rfl, ?_⟩) ?_ ?_
      rotate_left
      · intro w'
        go_simp
        with_reducible rfl
      rotate_left
      · simp only [Act.put, List.setIfInBounds_toArray, List.set_cons_zero, List.set_cons_succ, i64_w, i32_w]
        rfl
      refine done_ (done_of HT_.out (by kernel_rfl)) ?_
      try go_wp2
      go_ret
      exact ⟨by first | rfl | (simp [errW_none, errW_some] <;> rfl) | (simp only [← hji12]; first | rfl | (simp [errW_none, errW_some] <;> rfl)) | (simp [*, errW_none, errW_some] <;> rfl) | (simp [bt, *]; done) | (unfold bt; simp [*]; done), by repeat (first | (with_reducible first | exact HB.out | apply below_alloc | apply pw_below_drewN | apply below_drew1) | exact HB.out)⟩
    · rw [if_neg c14] at H
      exact absurd H (by simp)
  · rw [if_neg c13] at H
    exact absurd H (by simp)

/-! ### headgateref26_blanks: function 18 -/
def headgateref26_blanks.l0 : Nat → ByteArray → Int → Option (ByteArray)
  | 0, _, _ => none
  | k + 1, x0, x1 => if (x0.size : Int) < x1 then (if x0.size + 1 ≤ 9223372036854775807 then (headgateref26_blanks.l0 k (x0 ++ (⟨#[32]⟩ : ByteArray)) x1) else (none)) else (some x0)
def headgateref26_blanks.f (k : Nat) (a0 : ByteArray) (a1 : Int) : Option (ByteArray) := headgateref26_blanks.l0 k a0 a1
theorem headgateref26_blanks.mono_l : ∀ k, (∀ y0 y1, LeO (headgateref26_blanks.l0 k y0 y1) (headgateref26_blanks.l0 (k + 1) y0 y1))
  | 0 => fun _ _ r h => by simp [headgateref26_blanks.l0] at h
  | k + 1 => by
    have ih0 := headgateref26_blanks.mono_l k
    · intro y0 y1
      unfold headgateref26_blanks.l0
      repeat' first
      | (with_reducible exact ih0 _ _)
      | (with_reducible exact LeO.refl _)
      | (with_reducible exact LeO.none _)
      | (with_reducible refine LeO.ite ?_ ?_)
      | (with_reducible refine LeO.bind ?_ (fun _ => ?_))
      | exact ih0 _ _
      | exact LeO.none _
      | refine LeO.ite ?_ ?_
      | refine LeO.bind ?_ (fun _ => ?_)
theorem headgateref26_blanks.mono : ∀ a0 a1 k, LeO (headgateref26_blanks.f k a0 a1) (headgateref26_blanks.f (k + 1) a0 a1) := by
  intro a0 a1 k
  have ih0 := headgateref26_blanks.mono_l k
  unfold headgateref26_blanks.f
  repeat' first
      | (with_reducible exact ih0 _ _)
      | (with_reducible exact LeO.refl _)
      | (with_reducible exact LeO.none _)
      | (with_reducible refine LeO.ite ?_ ?_)
      | (with_reducible refine LeO.bind ?_ (fun _ => ?_))
      | exact ih0 _ _
      | exact LeO.none _
      | refine LeO.ite ?_ ?_
      | refine LeO.bind ?_ (fun _ => ?_)
set_option maxHeartbeats 8000000 in
set_option maxRecDepth 100000 in
theorem headgateref26_blanks.calls (k : Nat) (a0 : ByteArray) (a1 : Int) (r : ByteArray) (w : World) (h : headgateref26_blanks.f k a0 a1 = some r) :
    Calls Try.prog 18 #[.string a0, .int .i64 a1] w fun e w' => e = .returned (.string r) ∧ Drawn0 w w' := by
  have H : (headgateref26_blanks.l0 k a0 a1) = some r := h
  clear h
  have H' := Aside0.mk H
  clear H
  go_enter Try.func18, Try.ntmps18
  go_wp2
  go_loopg [0] k (fun kq v0 w' => ∃ (x0_1 : ByteArray), v0 = .string x0_1 ∧ Aside0 (headgateref26_blanks.l0 kq x0_1 a1 = some r) ∧ Aside0 (kq ≤ k) ∧ Drawn0 w w')
  case atStart => exact ⟨(a0), (by first | rfl | (simp; done) | (simp [*]; done)), H', ⟨Nat.le_refl _⟩, by repeat (first | exact Drawn0.refl _ | apply Drawn0.step)⟩
  case round =>
    clear H'
    try clear c1
    try clear p2
    obtain ⟨x0_1, rfl, HA, HK1, ⟨m1, rfl⟩⟩ := hrel
    cases gk with
    | zero => exact absurd HA.out (by simp [headgateref26_blanks.l0])
    | succ k1 =>
      have H := HA.out
      clear HA
      simp only [headgateref26_blanks.l0] at H
      by_cases c3 : (x0_1.size : Int) < a1
      · rw [if_pos c3] at H
        have c3b0 : decide ((x0_1.size : Int) < a1) = true := decide_eq_true c3
        clear c3
        by_cases c4 : x0_1.size + 1 ≤ 9223372036854775807
        · rw [if_pos c4] at H
          have c4b0 := eq_true c4
          have c4b1 : decide (x0_1.size + 1 ≤ 9223372036854775807) = true := decide_eq_true c4
          try have c4b2 : (9223372036854775807 < x0_1.size + 1) = False := eq_false (Nat.not_lt.2 c4)
          have H' := Aside0.mk H
          clear H
          go_wp2
          go_roundg k1
          case measure => have := HK1.out; omega
          case rel => exact ⟨(x0_1 ++ (⟨#[32]⟩ : ByteArray)), (by first | rfl | (simp; done) | (simp [*]; done)), H', ⟨by have := HK1.out; omega⟩, by repeat (first | exact Drawn0.refl _ | apply Drawn0.step)⟩
        · rw [if_neg c4] at H
          exact absurd H (by simp)
      · rw [if_neg c3] at H
        have c3b0 : decide ((x0_1.size : Int) < a1) = false := decide_eq_false c3
        clear c3
        obtain rfl := Option.some.inj H
        go_wp2
        go_ret
        exact ⟨by first | rfl | (simp; done) | (simp [*]; done), by repeat (first | exact Drawn0.refl _ | apply Drawn0.step)⟩

/-! ### headgateref26_Controller: function 11 -/
def headgateref26_Controller.j0 : Nat → ByteArray → Option (ByteArray)
  | 0, _ => none
  | k + 1, x0 => (headgateref26_page.f).bind fun t187 => ((headgateref26_blanks.f k (⟨#[72, 69, 65, 68, 71, 65, 84, 69, 45, 48, 48, 48, 49]⟩ : ByteArray) 20).bind fun t188 => ((headgateref26_put.f t187 4 t188).bind fun t189 => ((headgateref26_blanks.f k (⟨#[72, 69, 65, 68, 71, 65, 84, 69, 32, 66, 76, 79, 67, 75, 32, 85, 78, 73, 84]⟩ : ByteArray) 40).bind fun t190 => ((headgateref26_put.f t189 24 t190).bind fun t191 => ((headgateref26_blanks.f k (⟨#[48, 48, 48, 49]⟩ : ByteArray) 8).bind fun t192 => ((headgateref26_put.f t191 64 t192).bind fun t193 => ((headgateref26_num.f k t193 77 3 1).bind fun t194 => ((headgateref26_num.f k t194 78 1 2).bind fun t195 => ((headgateref26_num.f k t195 80 131072 4).bind fun t196 => ((headgateref26_num.f k t196 512 102 1).bind fun t197 => ((headgateref26_num.f k t197 513 68 1).bind fun t198 => ((headgateref26_num.f k t198 516 8 4).bind fun t199 => ((headgateref26_num.f k t199 520 44 2).bind fun t200 => ((headgateref26_num.f k t200 522 1 2).bind fun t201 => ((headgateref26_num.f k t201 525 1 1).bind fun t202 => ((headgateref26_num.f k t202 526 63 2).bind fun t203 => ((headgateref26_put.f t203 768 x0).bind fun t204 => (some t204))))))))))))))))))
def headgateref26_Controller.f (k : Nat) (a0 : ByteArray) : Option (ByteArray) := if (a0.size : Int) > 256 then (if 0 ≤ 256 then (if 256 ≤ (a0.size : Int) then (headgateref26_Controller.j0 k (a0.extract 0 256)) else (none)) else (none)) else (headgateref26_Controller.j0 k a0)
theorem headgateref26_Controller.mono_l : ∀ k, (∀ y0, LeO (headgateref26_Controller.j0 k y0) (headgateref26_Controller.j0 (k + 1) y0))
  | 0 => fun _ r h => by simp [headgateref26_Controller.j0] at h
  | k + 1 => by
    have ih0 := headgateref26_Controller.mono_l k
    · intro y0
      unfold headgateref26_Controller.j0
      repeat' first
      | (with_reducible exact ih0 _)
      | (with_reducible exact headgateref26_blanks.mono _ _ _)
      | (with_reducible exact headgateref26_num.mono _ _ _ _ _)
      | (with_reducible exact LeO.refl _)
      | (with_reducible exact LeO.none _)
      | (with_reducible refine LeO.ite ?_ ?_)
      | (with_reducible refine LeO.bind ?_ (fun _ => ?_))
      | exact ih0 _
      | exact headgateref26_blanks.mono _ _ _
      | exact headgateref26_num.mono _ _ _ _ _
      | exact LeO.none _
      | refine LeO.ite ?_ ?_
      | refine LeO.bind ?_ (fun _ => ?_)
theorem headgateref26_Controller.mono : ∀ a0 k, LeO (headgateref26_Controller.f k a0) (headgateref26_Controller.f (k + 1) a0) := by
  intro a0 k
  have ih0 := headgateref26_Controller.mono_l k
  unfold headgateref26_Controller.f
  repeat' first
      | (with_reducible exact ih0 _)
      | (with_reducible exact headgateref26_blanks.mono _ _ _)
      | (with_reducible exact headgateref26_num.mono _ _ _ _ _)
      | (with_reducible exact LeO.refl _)
      | (with_reducible exact LeO.none _)
      | (with_reducible refine LeO.ite ?_ ?_)
      | (with_reducible refine LeO.bind ?_ (fun _ => ?_))
      | exact ih0 _
      | exact headgateref26_blanks.mono _ _ _
      | exact headgateref26_num.mono _ _ _ _ _
      | exact LeO.none _
      | refine LeO.ite ?_ ?_
      | refine LeO.bind ?_ (fun _ => ?_)
set_option maxHeartbeats 8000000 in
set_option maxRecDepth 100000 in
theorem headgateref26_Controller.calls (k : Nat) (a0 : ByteArray) (r : ByteArray) (w : World) (h : headgateref26_Controller.f k a0 = some r) :
    Calls Try.prog 11 #[.string a0] w fun e w' => e = .returned (.string r) ∧ Below w.heap.size w w' := by
  have HB := Aside0.mk (Below.refl w.heap.size w)
  have H : (if (a0.size : Int) > 256 then (if 0 ≤ 256 then (if 256 ≤ (a0.size : Int) then (headgateref26_Controller.j0 k (a0.extract 0 256)) else (none)) else (none)) else (headgateref26_Controller.j0 k a0)) = some r := h
  clear h
  have HC2 := Aside0.mk H
  clear H
  go_enter Try.func11, Try.ntmps11
  go_upto_if 6 with (fail)
  go_cut [0] (fun v0 wc => ∃ (kq : Nat) (x0_1 : ByteArray), v0 = .string x0_1 ∧ Aside0 (headgateref26_Controller.j0 kq x0_1 = some r) ∧ Aside0 (kq ≤ k) ∧ Aside0 (Below w.heap.size w wc))
  case first =>
    have H := HC2.out
    clear HC2
    by_cases c3 : (a0.size : Int) > 256
    · rw [if_pos c3] at H
      have c3b0 : decide (256 < (a0.size : Int)) = true := decide_eq_true c3
      have c3b1 : decide (256 < a0.size) = true := decide_eq_true (by omega)
      clear c3
      (first | rw [c3b0] | (simp only [i64_w, i32_w]; rw [c3b0]) | skip)
      by_cases c4 : 0 ≤ 256
      · rw [if_pos c4] at H
        have c4b0 := eq_true c4
        have c4b1 : decide (0 ≤ 256) = true := decide_eq_true c4
        clear c4
        by_cases c5 : 256 ≤ (a0.size : Int)
        · rw [if_pos c5] at H
          have c5b0 := eq_true c5
          have c5b1 : decide (256 ≤ (a0.size : Int)) = true := decide_eq_true c5
          clear c5
          have H' := Aside0.mk H
          clear H
          go_wp2
          go_meet
          case rel => exact ⟨_, (a0.extract 0 256), (by first | rfl | (simp; done) | (simp [*]; done)), H', ⟨by first | omega | exact Nat.le_refl _⟩, ⟨by repeat (first | (with_reducible first | exact HB.out | apply below_alloc | apply pw_below_drewN | apply below_drew1) | exact HB.out)⟩⟩
        · rw [if_neg c5] at H
          exact absurd H (by simp)
      · rw [if_neg c4] at H
        exact absurd H (by simp)
    · rw [if_neg c3] at H
      have c3b0 : decide (256 < (a0.size : Int)) = false := decide_eq_false c3
      have c3b1 : decide (256 < a0.size) = false := decide_eq_false (by omega)
      clear c3
      (first | rw [c3b0] | (simp only [i64_w, i32_w]; rw [c3b0]) | skip)
      have H' := Aside0.mk H
      clear H
      go_wp2
      go_meet
      case rel => exact ⟨_, (a0), (by first | rfl | (simp; done) | (simp [*]; done)), H', ⟨by first | omega | exact Nat.le_refl _⟩, ⟨by repeat (first | (with_reducible first | exact HB.out | apply below_alloc | apply pw_below_drewN | apply below_drew1) | exact HB.out)⟩⟩
  case rest =>
    clear HC2
    try clear c1
    try clear p2
    try clear c3
    try clear c3b0
    try clear c3b1
    try clear c4
    try clear c4b0
    try clear c4b1
    try clear c5
    try clear c5b0
    try clear c5b1
    obtain ⟨kq, x0_1, rfl, HA, HJ1, HB⟩ := hcut
    cases kq with
    | zero => exact absurd HA.out (by simp [headgateref26_Controller.j0])
    | succ kj1 =>
      have H := HA.out
      clear HA
      simp only [headgateref26_Controller.j0] at H
      replace H := Option.bind_eq_some_iff.mp H
      obtain ⟨t187, A60, H⟩ := H
      replace H : ((headgateref26_blanks.f kj1 (⟨#[72, 69, 65, 68, 71, 65, 84, 69, 45, 48, 48, 48, 49]⟩ : ByteArray) 20).bind fun t188 => ((headgateref26_put.f t187 4 t188).bind fun t189 => ((headgateref26_blanks.f kj1 (⟨#[72, 69, 65, 68, 71, 65, 84, 69, 32, 66, 76, 79, 67, 75, 32, 85, 78, 73, 84]⟩ : ByteArray) 40).bind fun t190 => ((headgateref26_put.f t189 24 t190).bind fun t191 => ((headgateref26_blanks.f kj1 (⟨#[48, 48, 48, 49]⟩ : ByteArray) 8).bind fun t192 => ((headgateref26_put.f t191 64 t192).bind fun t193 => ((headgateref26_num.f kj1 t193 77 3 1).bind fun t194 => ((headgateref26_num.f kj1 t194 78 1 2).bind fun t195 => ((headgateref26_num.f kj1 t195 80 131072 4).bind fun t196 => ((headgateref26_num.f kj1 t196 512 102 1).bind fun t197 => ((headgateref26_num.f kj1 t197 513 68 1).bind fun t198 => ((headgateref26_num.f kj1 t198 516 8 4).bind fun t199 => ((headgateref26_num.f kj1 t199 520 44 2).bind fun t200 => ((headgateref26_num.f kj1 t200 522 1 2).bind fun t201 => ((headgateref26_num.f kj1 t201 525 1 1).bind fun t202 => ((headgateref26_num.f kj1 t202 526 63 2).bind fun t203 => ((headgateref26_put.f t203 768 x0_1).bind fun t204 => (some t204)))))))))))))))))) = some r := H
      have A6 := Aside0.mk A60
      clear A60
      replace H := Option.bind_eq_some_iff.mp H
      obtain ⟨t188, A70, H⟩ := H
      replace H : ((headgateref26_put.f t187 4 t188).bind fun t189 => ((headgateref26_blanks.f kj1 (⟨#[72, 69, 65, 68, 71, 65, 84, 69, 32, 66, 76, 79, 67, 75, 32, 85, 78, 73, 84]⟩ : ByteArray) 40).bind fun t190 => ((headgateref26_put.f t189 24 t190).bind fun t191 => ((headgateref26_blanks.f kj1 (⟨#[48, 48, 48, 49]⟩ : ByteArray) 8).bind fun t192 => ((headgateref26_put.f t191 64 t192).bind fun t193 => ((headgateref26_num.f kj1 t193 77 3 1).bind fun t194 => ((headgateref26_num.f kj1 t194 78 1 2).bind fun t195 => ((headgateref26_num.f kj1 t195 80 131072 4).bind fun t196 => ((headgateref26_num.f kj1 t196 512 102 1).bind fun t197 => ((headgateref26_num.f kj1 t197 513 68 1).bind fun t198 => ((headgateref26_num.f kj1 t198 516 8 4).bind fun t199 => ((headgateref26_num.f kj1 t199 520 44 2).bind fun t200 => ((headgateref26_num.f kj1 t200 522 1 2).bind fun t201 => ((headgateref26_num.f kj1 t201 525 1 1).bind fun t202 => ((headgateref26_num.f kj1 t202 526 63 2).bind fun t203 => ((headgateref26_put.f t203 768 x0_1).bind fun t204 => (some t204))))))))))))))))) = some r := H
      have A7 := Aside0.mk A70
      clear A70
      replace H := Option.bind_eq_some_iff.mp H
      obtain ⟨t189, A80, H⟩ := H
      replace H : ((headgateref26_blanks.f kj1 (⟨#[72, 69, 65, 68, 71, 65, 84, 69, 32, 66, 76, 79, 67, 75, 32, 85, 78, 73, 84]⟩ : ByteArray) 40).bind fun t190 => ((headgateref26_put.f t189 24 t190).bind fun t191 => ((headgateref26_blanks.f kj1 (⟨#[48, 48, 48, 49]⟩ : ByteArray) 8).bind fun t192 => ((headgateref26_put.f t191 64 t192).bind fun t193 => ((headgateref26_num.f kj1 t193 77 3 1).bind fun t194 => ((headgateref26_num.f kj1 t194 78 1 2).bind fun t195 => ((headgateref26_num.f kj1 t195 80 131072 4).bind fun t196 => ((headgateref26_num.f kj1 t196 512 102 1).bind fun t197 => ((headgateref26_num.f kj1 t197 513 68 1).bind fun t198 => ((headgateref26_num.f kj1 t198 516 8 4).bind fun t199 => ((headgateref26_num.f kj1 t199 520 44 2).bind fun t200 => ((headgateref26_num.f kj1 t200 522 1 2).bind fun t201 => ((headgateref26_num.f kj1 t201 525 1 1).bind fun t202 => ((headgateref26_num.f kj1 t202 526 63 2).bind fun t203 => ((headgateref26_put.f t203 768 x0_1).bind fun t204 => (some t204)))))))))))))))) = some r := H
      have A8 := Aside0.mk A80
      clear A80
      replace H := Option.bind_eq_some_iff.mp H
      obtain ⟨t190, A90, H⟩ := H
      replace H : ((headgateref26_put.f t189 24 t190).bind fun t191 => ((headgateref26_blanks.f kj1 (⟨#[48, 48, 48, 49]⟩ : ByteArray) 8).bind fun t192 => ((headgateref26_put.f t191 64 t192).bind fun t193 => ((headgateref26_num.f kj1 t193 77 3 1).bind fun t194 => ((headgateref26_num.f kj1 t194 78 1 2).bind fun t195 => ((headgateref26_num.f kj1 t195 80 131072 4).bind fun t196 => ((headgateref26_num.f kj1 t196 512 102 1).bind fun t197 => ((headgateref26_num.f kj1 t197 513 68 1).bind fun t198 => ((headgateref26_num.f kj1 t198 516 8 4).bind fun t199 => ((headgateref26_num.f kj1 t199 520 44 2).bind fun t200 => ((headgateref26_num.f kj1 t200 522 1 2).bind fun t201 => ((headgateref26_num.f kj1 t201 525 1 1).bind fun t202 => ((headgateref26_num.f kj1 t202 526 63 2).bind fun t203 => ((headgateref26_put.f t203 768 x0_1).bind fun t204 => (some t204))))))))))))))) = some r := H
      have A9 := Aside0.mk A90
      clear A90
      replace H := Option.bind_eq_some_iff.mp H
      obtain ⟨t191, A100, H⟩ := H
      replace H : ((headgateref26_blanks.f kj1 (⟨#[48, 48, 48, 49]⟩ : ByteArray) 8).bind fun t192 => ((headgateref26_put.f t191 64 t192).bind fun t193 => ((headgateref26_num.f kj1 t193 77 3 1).bind fun t194 => ((headgateref26_num.f kj1 t194 78 1 2).bind fun t195 => ((headgateref26_num.f kj1 t195 80 131072 4).bind fun t196 => ((headgateref26_num.f kj1 t196 512 102 1).bind fun t197 => ((headgateref26_num.f kj1 t197 513 68 1).bind fun t198 => ((headgateref26_num.f kj1 t198 516 8 4).bind fun t199 => ((headgateref26_num.f kj1 t199 520 44 2).bind fun t200 => ((headgateref26_num.f kj1 t200 522 1 2).bind fun t201 => ((headgateref26_num.f kj1 t201 525 1 1).bind fun t202 => ((headgateref26_num.f kj1 t202 526 63 2).bind fun t203 => ((headgateref26_put.f t203 768 x0_1).bind fun t204 => (some t204)))))))))))))) = some r := H
      have A10 := Aside0.mk A100
      clear A100
      replace H := Option.bind_eq_some_iff.mp H
      obtain ⟨t192, A110, H⟩ := H
      replace H : ((headgateref26_put.f t191 64 t192).bind fun t193 => ((headgateref26_num.f kj1 t193 77 3 1).bind fun t194 => ((headgateref26_num.f kj1 t194 78 1 2).bind fun t195 => ((headgateref26_num.f kj1 t195 80 131072 4).bind fun t196 => ((headgateref26_num.f kj1 t196 512 102 1).bind fun t197 => ((headgateref26_num.f kj1 t197 513 68 1).bind fun t198 => ((headgateref26_num.f kj1 t198 516 8 4).bind fun t199 => ((headgateref26_num.f kj1 t199 520 44 2).bind fun t200 => ((headgateref26_num.f kj1 t200 522 1 2).bind fun t201 => ((headgateref26_num.f kj1 t201 525 1 1).bind fun t202 => ((headgateref26_num.f kj1 t202 526 63 2).bind fun t203 => ((headgateref26_put.f t203 768 x0_1).bind fun t204 => (some t204))))))))))))) = some r := H
      have A11 := Aside0.mk A110
      clear A110
      replace H := Option.bind_eq_some_iff.mp H
      obtain ⟨t193, A120, H⟩ := H
      replace H : ((headgateref26_num.f kj1 t193 77 3 1).bind fun t194 => ((headgateref26_num.f kj1 t194 78 1 2).bind fun t195 => ((headgateref26_num.f kj1 t195 80 131072 4).bind fun t196 => ((headgateref26_num.f kj1 t196 512 102 1).bind fun t197 => ((headgateref26_num.f kj1 t197 513 68 1).bind fun t198 => ((headgateref26_num.f kj1 t198 516 8 4).bind fun t199 => ((headgateref26_num.f kj1 t199 520 44 2).bind fun t200 => ((headgateref26_num.f kj1 t200 522 1 2).bind fun t201 => ((headgateref26_num.f kj1 t201 525 1 1).bind fun t202 => ((headgateref26_num.f kj1 t202 526 63 2).bind fun t203 => ((headgateref26_put.f t203 768 x0_1).bind fun t204 => (some t204)))))))))))) = some r := H
      have A12 := Aside0.mk A120
      clear A120
      replace H := Option.bind_eq_some_iff.mp H
      obtain ⟨t194, A130, H⟩ := H
      replace H : ((headgateref26_num.f kj1 t194 78 1 2).bind fun t195 => ((headgateref26_num.f kj1 t195 80 131072 4).bind fun t196 => ((headgateref26_num.f kj1 t196 512 102 1).bind fun t197 => ((headgateref26_num.f kj1 t197 513 68 1).bind fun t198 => ((headgateref26_num.f kj1 t198 516 8 4).bind fun t199 => ((headgateref26_num.f kj1 t199 520 44 2).bind fun t200 => ((headgateref26_num.f kj1 t200 522 1 2).bind fun t201 => ((headgateref26_num.f kj1 t201 525 1 1).bind fun t202 => ((headgateref26_num.f kj1 t202 526 63 2).bind fun t203 => ((headgateref26_put.f t203 768 x0_1).bind fun t204 => (some t204))))))))))) = some r := H
      have A13 := Aside0.mk A130
      clear A130
      replace H := Option.bind_eq_some_iff.mp H
      obtain ⟨t195, A140, H⟩ := H
      replace H : ((headgateref26_num.f kj1 t195 80 131072 4).bind fun t196 => ((headgateref26_num.f kj1 t196 512 102 1).bind fun t197 => ((headgateref26_num.f kj1 t197 513 68 1).bind fun t198 => ((headgateref26_num.f kj1 t198 516 8 4).bind fun t199 => ((headgateref26_num.f kj1 t199 520 44 2).bind fun t200 => ((headgateref26_num.f kj1 t200 522 1 2).bind fun t201 => ((headgateref26_num.f kj1 t201 525 1 1).bind fun t202 => ((headgateref26_num.f kj1 t202 526 63 2).bind fun t203 => ((headgateref26_put.f t203 768 x0_1).bind fun t204 => (some t204)))))))))) = some r := H
      have A14 := Aside0.mk A140
      clear A140
      replace H := Option.bind_eq_some_iff.mp H
      obtain ⟨t196, A150, H⟩ := H
      replace H : ((headgateref26_num.f kj1 t196 512 102 1).bind fun t197 => ((headgateref26_num.f kj1 t197 513 68 1).bind fun t198 => ((headgateref26_num.f kj1 t198 516 8 4).bind fun t199 => ((headgateref26_num.f kj1 t199 520 44 2).bind fun t200 => ((headgateref26_num.f kj1 t200 522 1 2).bind fun t201 => ((headgateref26_num.f kj1 t201 525 1 1).bind fun t202 => ((headgateref26_num.f kj1 t202 526 63 2).bind fun t203 => ((headgateref26_put.f t203 768 x0_1).bind fun t204 => (some t204))))))))) = some r := H
      have A15 := Aside0.mk A150
      clear A150
      replace H := Option.bind_eq_some_iff.mp H
      obtain ⟨t197, A160, H⟩ := H
      replace H : ((headgateref26_num.f kj1 t197 513 68 1).bind fun t198 => ((headgateref26_num.f kj1 t198 516 8 4).bind fun t199 => ((headgateref26_num.f kj1 t199 520 44 2).bind fun t200 => ((headgateref26_num.f kj1 t200 522 1 2).bind fun t201 => ((headgateref26_num.f kj1 t201 525 1 1).bind fun t202 => ((headgateref26_num.f kj1 t202 526 63 2).bind fun t203 => ((headgateref26_put.f t203 768 x0_1).bind fun t204 => (some t204)))))))) = some r := H
      have A16 := Aside0.mk A160
      clear A160
      replace H := Option.bind_eq_some_iff.mp H
      obtain ⟨t198, A170, H⟩ := H
      replace H : ((headgateref26_num.f kj1 t198 516 8 4).bind fun t199 => ((headgateref26_num.f kj1 t199 520 44 2).bind fun t200 => ((headgateref26_num.f kj1 t200 522 1 2).bind fun t201 => ((headgateref26_num.f kj1 t201 525 1 1).bind fun t202 => ((headgateref26_num.f kj1 t202 526 63 2).bind fun t203 => ((headgateref26_put.f t203 768 x0_1).bind fun t204 => (some t204))))))) = some r := H
      have A17 := Aside0.mk A170
      clear A170
      replace H := Option.bind_eq_some_iff.mp H
      obtain ⟨t199, A180, H⟩ := H
      replace H : ((headgateref26_num.f kj1 t199 520 44 2).bind fun t200 => ((headgateref26_num.f kj1 t200 522 1 2).bind fun t201 => ((headgateref26_num.f kj1 t201 525 1 1).bind fun t202 => ((headgateref26_num.f kj1 t202 526 63 2).bind fun t203 => ((headgateref26_put.f t203 768 x0_1).bind fun t204 => (some t204)))))) = some r := H
      have A18 := Aside0.mk A180
      clear A180
      replace H := Option.bind_eq_some_iff.mp H
      obtain ⟨t200, A190, H⟩ := H
      replace H : ((headgateref26_num.f kj1 t200 522 1 2).bind fun t201 => ((headgateref26_num.f kj1 t201 525 1 1).bind fun t202 => ((headgateref26_num.f kj1 t202 526 63 2).bind fun t203 => ((headgateref26_put.f t203 768 x0_1).bind fun t204 => (some t204))))) = some r := H
      have A19 := Aside0.mk A190
      clear A190
      replace H := Option.bind_eq_some_iff.mp H
      obtain ⟨t201, A200, H⟩ := H
      replace H : ((headgateref26_num.f kj1 t201 525 1 1).bind fun t202 => ((headgateref26_num.f kj1 t202 526 63 2).bind fun t203 => ((headgateref26_put.f t203 768 x0_1).bind fun t204 => (some t204)))) = some r := H
      have A20 := Aside0.mk A200
      clear A200
      replace H := Option.bind_eq_some_iff.mp H
      obtain ⟨t202, A210, H⟩ := H
      replace H : ((headgateref26_num.f kj1 t202 526 63 2).bind fun t203 => ((headgateref26_put.f t203 768 x0_1).bind fun t204 => (some t204))) = some r := H
      have A21 := Aside0.mk A210
      clear A210
      replace H := Option.bind_eq_some_iff.mp H
      obtain ⟨t203, A220, H⟩ := H
      replace H : ((headgateref26_put.f t203 768 x0_1).bind fun t204 => (some t204)) = some r := H
      have A22 := Aside0.mk A220
      clear A220
      replace H := Option.bind_eq_some_iff.mp H
      obtain ⟨t204, A230, H⟩ := H
      replace H : (some t204) = some r := H
      have A23 := Aside0.mk A230
      clear A230
      obtain rfl := Option.some.inj H
      go_wp2_with (first | ((with_reducible refine gate_callee (f := 15) rfl ?_); refine goesL_ (some 9) rfl rfl Try.func15 (by kernel_rfl) rfl #[] rfl (by (try simp only [List.map_toArray, List.map_cons, List.map_nil]); first | done | rfl | (simp only [List.length_drop, List.length_take]; rfl)) ?_; (with_reducible refine (headgateref26_page.calls  t187 _ A6.out).mono ?_); rintro e w24 ⟨rfl, hb⟩; refine ⟨_, rfl, ?_⟩; have n0_ := Aside0.mk (below_step (by repeat (first | (with_reducible first | exact HB.out | apply below_alloc | apply pw_below_drewN | apply below_drew1) | exact HB.out)) hb); clear HB; have HB := n0_; clear n0_; (try clear hb); (try clear hb2); (try clear hk); (try clear hi)) | ((with_reducible refine gate_callee (f := 18) rfl ?_); refine goesL_ (some 10) rfl rfl Try.func18 (by kernel_rfl) rfl #[.string (⟨#[72, 69, 65, 68, 71, 65, 84, 69, 45, 48, 48, 48, 49]⟩ : ByteArray), .int .i64 20] rfl (by (try simp only [List.map_toArray, List.map_cons, List.map_nil]); first | done | rfl | (simp only [List.length_drop, List.length_take]; rfl)) ?_; (with_reducible refine (headgateref26_blanks.calls kj1 (⟨#[72, 69, 65, 68, 71, 65, 84, 69, 45, 48, 48, 48, 49]⟩ : ByteArray) 20 t188 _ A7.out).mono ?_); rintro e w' ⟨rfl, ⟨nd, rfl⟩⟩; refine ⟨_, rfl, ?_⟩) | ((with_reducible refine gate_callee (f := 17) rfl ?_); refine goesL_ (some 11) rfl rfl Try.func17 (by kernel_rfl) rfl #[.string t187, .int .i64 4, .string t188] rfl (by (try simp only [List.map_toArray, List.map_cons, List.map_nil]); first | done | rfl | (simp only [List.length_drop, List.length_take]; rfl)) ?_; (with_reducible refine (headgateref26_put.calls t187 4 t188 t189 _ A8.out).mono ?_); rintro e w' ⟨rfl, ⟨nd, rfl⟩⟩; refine ⟨_, rfl, ?_⟩) | ((with_reducible refine gate_callee (f := 18) rfl ?_); refine goesL_ (some 13) rfl rfl Try.func18 (by kernel_rfl) rfl #[.string (⟨#[72, 69, 65, 68, 71, 65, 84, 69, 32, 66, 76, 79, 67, 75, 32, 85, 78, 73, 84]⟩ : ByteArray), .int .i64 40] rfl (by (try simp only [List.map_toArray, List.map_cons, List.map_nil]); first | done | rfl | (simp only [List.length_drop, List.length_take]; rfl)) ?_; (with_reducible refine (headgateref26_blanks.calls kj1 (⟨#[72, 69, 65, 68, 71, 65, 84, 69, 32, 66, 76, 79, 67, 75, 32, 85, 78, 73, 84]⟩ : ByteArray) 40 t190 _ A9.out).mono ?_); rintro e w' ⟨rfl, ⟨nd, rfl⟩⟩; refine ⟨_, rfl, ?_⟩) | ((with_reducible refine gate_callee (f := 17) rfl ?_); refine goesL_ (some 14) rfl rfl Try.func17 (by kernel_rfl) rfl #[.string t189, .int .i64 24, .string t190] rfl (by (try simp only [List.map_toArray, List.map_cons, List.map_nil]); first | done | rfl | (simp only [List.length_drop, List.length_take]; rfl)) ?_; (with_reducible refine (headgateref26_put.calls t189 24 t190 t191 _ A10.out).mono ?_); rintro e w' ⟨rfl, ⟨nd, rfl⟩⟩; refine ⟨_, rfl, ?_⟩) | ((with_reducible refine gate_callee (f := 18) rfl ?_); refine goesL_ (some 16) rfl rfl Try.func18 (by kernel_rfl) rfl #[.string (⟨#[48, 48, 48, 49]⟩ : ByteArray), .int .i64 8] rfl (by (try simp only [List.map_toArray, List.map_cons, List.map_nil]); first | done | rfl | (simp only [List.length_drop, List.length_take]; rfl)) ?_; (with_reducible refine (headgateref26_blanks.calls kj1 (⟨#[48, 48, 48, 49]⟩ : ByteArray) 8 t192 _ A11.out).mono ?_); rintro e w' ⟨rfl, ⟨nd, rfl⟩⟩; refine ⟨_, rfl, ?_⟩) | ((with_reducible refine gate_callee (f := 17) rfl ?_); refine goesL_ (some 17) rfl rfl Try.func17 (by kernel_rfl) rfl #[.string t191, .int .i64 64, .string t192] rfl (by (try simp only [List.map_toArray, List.map_cons, List.map_nil]); first | done | rfl | (simp only [List.length_drop, List.length_take]; rfl)) ?_; (with_reducible refine (headgateref26_put.calls t191 64 t192 t193 _ A12.out).mono ?_); rintro e w' ⟨rfl, ⟨nd, rfl⟩⟩; refine ⟨_, rfl, ?_⟩) | ((with_reducible refine gate_callee (f := 16) rfl ?_); refine goesL_ (some 19) rfl rfl Try.func16 (by kernel_rfl) rfl #[.string t193, .int .i64 77, .int .i64 3, .int .i64 1] rfl (by (try simp only [List.map_toArray, List.map_cons, List.map_nil]); first | done | rfl | (simp only [List.length_drop, List.length_take]; rfl)) ?_; (with_reducible refine (headgateref26_num.calls kj1 t193 77 3 1 t194 _ A13.out).mono ?_); rintro e w25 ⟨rfl, hb⟩; refine ⟨_, rfl, ?_⟩; have n0_ := Aside0.mk (below_step (by repeat (first | (with_reducible first | exact HB.out | apply below_alloc | apply pw_below_drewN | apply below_drew1) | exact HB.out)) hb); clear HB; have HB := n0_; clear n0_; (try clear hb); (try clear hb2); (try clear hk); (try clear hi)) | ((with_reducible refine gate_callee (f := 16) rfl ?_); refine goesL_ (some 20) rfl rfl Try.func16 (by kernel_rfl) rfl #[.string t194, .int .i64 78, .int .i64 1, .int .i64 2] rfl (by (try simp only [List.map_toArray, List.map_cons, List.map_nil]); first | done | rfl | (simp only [List.length_drop, List.length_take]; rfl)) ?_; (with_reducible refine (headgateref26_num.calls kj1 t194 78 1 2 t195 _ A14.out).mono ?_); rintro e w26 ⟨rfl, hb⟩; refine ⟨_, rfl, ?_⟩; have n0_ := Aside0.mk (below_step (by repeat (first | (with_reducible first | exact HB.out | apply below_alloc | apply pw_below_drewN | apply below_drew1) | exact HB.out)) hb); clear HB; have HB := n0_; clear n0_; (try clear hb); (try clear hb2); (try clear hk); (try clear hi)) | ((with_reducible refine gate_callee (f := 16) rfl ?_); refine goesL_ (some 21) rfl rfl Try.func16 (by kernel_rfl) rfl #[.string t195, .int .i64 80, .int .i64 131072, .int .i64 4] rfl (by (try simp only [List.map_toArray, List.map_cons, List.map_nil]); first | done | rfl | (simp only [List.length_drop, List.length_take]; rfl)) ?_; (with_reducible refine (headgateref26_num.calls kj1 t195 80 131072 4 t196 _ A15.out).mono ?_); rintro e w27 ⟨rfl, hb⟩; refine ⟨_, rfl, ?_⟩; have n0_ := Aside0.mk (below_step (by repeat (first | (with_reducible first | exact HB.out | apply below_alloc | apply pw_below_drewN | apply below_drew1) | exact HB.out)) hb); clear HB; have HB := n0_; clear n0_; (try clear hb); (try clear hb2); (try clear hk); (try clear hi)) | ((with_reducible refine gate_callee (f := 16) rfl ?_); refine goesL_ (some 23) rfl rfl Try.func16 (by kernel_rfl) rfl #[.string t196, .int .i64 512, .int .i64 102, .int .i64 1] rfl (by (try simp only [List.map_toArray, List.map_cons, List.map_nil]); first | done | rfl | (simp only [List.length_drop, List.length_take]; rfl)) ?_; (with_reducible refine (headgateref26_num.calls kj1 t196 512 102 1 t197 _ A16.out).mono ?_); rintro e w28 ⟨rfl, hb⟩; refine ⟨_, rfl, ?_⟩; have n0_ := Aside0.mk (below_step (by repeat (first | (with_reducible first | exact HB.out | apply below_alloc | apply pw_below_drewN | apply below_drew1) | exact HB.out)) hb); clear HB; have HB := n0_; clear n0_; (try clear hb); (try clear hb2); (try clear hk); (try clear hi)) | ((with_reducible refine gate_callee (f := 16) rfl ?_); refine goesL_ (some 24) rfl rfl Try.func16 (by kernel_rfl) rfl #[.string t197, .int .i64 513, .int .i64 68, .int .i64 1] rfl (by (try simp only [List.map_toArray, List.map_cons, List.map_nil]); first | done | rfl | (simp only [List.length_drop, List.length_take]; rfl)) ?_; (with_reducible refine (headgateref26_num.calls kj1 t197 513 68 1 t198 _ A17.out).mono ?_); rintro e w29 ⟨rfl, hb⟩; refine ⟨_, rfl, ?_⟩; have n0_ := Aside0.mk (below_step (by repeat (first | (with_reducible first | exact HB.out | apply below_alloc | apply pw_below_drewN | apply below_drew1) | exact HB.out)) hb); clear HB; have HB := n0_; clear n0_; (try clear hb); (try clear hb2); (try clear hk); (try clear hi)) | ((with_reducible refine gate_callee (f := 16) rfl ?_); refine goesL_ (some 25) rfl rfl Try.func16 (by kernel_rfl) rfl #[.string t198, .int .i64 516, .int .i64 8, .int .i64 4] rfl (by (try simp only [List.map_toArray, List.map_cons, List.map_nil]); first | done | rfl | (simp only [List.length_drop, List.length_take]; rfl)) ?_; (with_reducible refine (headgateref26_num.calls kj1 t198 516 8 4 t199 _ A18.out).mono ?_); rintro e w30 ⟨rfl, hb⟩; refine ⟨_, rfl, ?_⟩; have n0_ := Aside0.mk (below_step (by repeat (first | (with_reducible first | exact HB.out | apply below_alloc | apply pw_below_drewN | apply below_drew1) | exact HB.out)) hb); clear HB; have HB := n0_; clear n0_; (try clear hb); (try clear hb2); (try clear hk); (try clear hi)) | ((with_reducible refine gate_callee (f := 16) rfl ?_); refine goesL_ (some 27) rfl rfl Try.func16 (by kernel_rfl) rfl #[.string t199, .int .i64 520, .int .i64 44, .int .i64 2] rfl (by (try simp only [List.map_toArray, List.map_cons, List.map_nil]); first | done | rfl | (simp only [List.length_drop, List.length_take]; rfl)) ?_; (with_reducible refine (headgateref26_num.calls kj1 t199 520 44 2 t200 _ A19.out).mono ?_); rintro e w31 ⟨rfl, hb⟩; refine ⟨_, rfl, ?_⟩; have n0_ := Aside0.mk (below_step (by repeat (first | (with_reducible first | exact HB.out | apply below_alloc | apply pw_below_drewN | apply below_drew1) | exact HB.out)) hb); clear HB; have HB := n0_; clear n0_; (try clear hb); (try clear hb2); (try clear hk); (try clear hi)) | ((with_reducible refine gate_callee (f := 16) rfl ?_); refine goesL_ (some 28) rfl rfl Try.func16 (by kernel_rfl) rfl #[.string t200, .int .i64 522, .int .i64 1, .int .i64 2] rfl (by (try simp only [List.map_toArray, List.map_cons, List.map_nil]); first | done | rfl | (simp only [List.length_drop, List.length_take]; rfl)) ?_; (with_reducible refine (headgateref26_num.calls kj1 t200 522 1 2 t201 _ A20.out).mono ?_); rintro e w32 ⟨rfl, hb⟩; refine ⟨_, rfl, ?_⟩; have n0_ := Aside0.mk (below_step (by repeat (first | (with_reducible first | exact HB.out | apply below_alloc | apply pw_below_drewN | apply below_drew1) | exact HB.out)) hb); clear HB; have HB := n0_; clear n0_; (try clear hb); (try clear hb2); (try clear hk); (try clear hi)) | ((with_reducible refine gate_callee (f := 16) rfl ?_); refine goesL_ (some 29) rfl rfl Try.func16 (by kernel_rfl) rfl #[.string t201, .int .i64 525, .int .i64 1, .int .i64 1] rfl (by (try simp only [List.map_toArray, List.map_cons, List.map_nil]); first | done | rfl | (simp only [List.length_drop, List.length_take]; rfl)) ?_; (with_reducible refine (headgateref26_num.calls kj1 t201 525 1 1 t202 _ A21.out).mono ?_); rintro e w33 ⟨rfl, hb⟩; refine ⟨_, rfl, ?_⟩; have n0_ := Aside0.mk (below_step (by repeat (first | (with_reducible first | exact HB.out | apply below_alloc | apply pw_below_drewN | apply below_drew1) | exact HB.out)) hb); clear HB; have HB := n0_; clear n0_; (try clear hb); (try clear hb2); (try clear hk); (try clear hi)) | ((with_reducible refine gate_callee (f := 16) rfl ?_); refine goesL_ (some 31) rfl rfl Try.func16 (by kernel_rfl) rfl #[.string t202, .int .i64 526, .int .i64 63, .int .i64 2] rfl (by (try simp only [List.map_toArray, List.map_cons, List.map_nil]); first | done | rfl | (simp only [List.length_drop, List.length_take]; rfl)) ?_; (with_reducible refine (headgateref26_num.calls kj1 t202 526 63 2 t203 _ A22.out).mono ?_); rintro e w34 ⟨rfl, hb⟩; refine ⟨_, rfl, ?_⟩; have n0_ := Aside0.mk (below_step (by repeat (first | (with_reducible first | exact HB.out | apply below_alloc | apply pw_below_drewN | apply below_drew1) | exact HB.out)) hb); clear HB; have HB := n0_; clear n0_; (try clear hb); (try clear hb2); (try clear hk); (try clear hi)) | ((with_reducible refine gate_callee (f := 17) rfl ?_); refine goesL_ (some 34) rfl rfl Try.func17 (by kernel_rfl) rfl #[.string t203, .int .i64 768, .string x0_1] rfl (by (try simp only [List.map_toArray, List.map_cons, List.map_nil]); first | done | rfl | (simp only [List.length_drop, List.length_take]; rfl)) ?_; (with_reducible refine (headgateref26_put.calls t203 768 x0_1 t204 _ A23.out).mono ?_); rintro e w' ⟨rfl, ⟨nd, rfl⟩⟩; refine ⟨_, rfl, ?_⟩))
      go_ret
      exact ⟨by first | rfl | (simp [errW_none, errW_some] <;> rfl) | (simp [*, errW_none, errW_some] <;> rfl) | (simp [bt, *]; done) | (unfold bt; simp [*]; done), by repeat (first | (with_reducible first | exact HB.out | apply below_alloc | apply pw_below_drewN | apply below_drew1) | exact HB.out)⟩

/-! ### headgateref26_Unit: function 12 -/
def headgateref26_Unit.f (k : Nat) (a0_0 : Int) (a0_1 : ByteArray) : Option (ByteArray) := (headgateref26_page.f).bind fun t206 => ((headgateref26_num.f k t206 0 (mx a0_0 0) 8).bind fun t207 => ((headgateref26_num.f k t207 8 (mx a0_0 0) 8).bind fun t208 => ((headgateref26_num.f k t208 16 (mx a0_0 0) 8).bind fun t209 => (if (a0_1.size : Int) > 16 then (if 0 ≤ 16 then (if 16 ≤ (a0_1.size : Int) then ((headgateref26_num.f k t209 31 127 1).bind fun t210 => ((headgateref26_put.f t210 104 (a0_1.extract 0 16)).bind fun t211 => ((headgateref26_num.f k t211 130 9 1).bind fun t212 => (some t212)))) else (none)) else (none)) else ((headgateref26_num.f k t209 31 127 1).bind fun t213 => ((headgateref26_put.f t213 104 a0_1).bind fun t214 => ((headgateref26_num.f k t214 130 9 1).bind fun t215 => (some t215))))))))
theorem headgateref26_Unit.mono : ∀ a0 a1 k, LeO (headgateref26_Unit.f k a0 a1) (headgateref26_Unit.f (k + 1) a0 a1) := by
  intro a0 a1 k
  unfold headgateref26_Unit.f
  repeat' first
      | (with_reducible exact headgateref26_num.mono _ _ _ _ _)
      | (with_reducible exact LeO.refl _)
      | (with_reducible exact LeO.none _)
      | (with_reducible refine LeO.ite ?_ ?_)
      | (with_reducible refine LeO.bind ?_ (fun _ => ?_))
      | exact headgateref26_num.mono _ _ _ _ _
      | exact LeO.none _
      | refine LeO.ite ?_ ?_
      | refine LeO.bind ?_ (fun _ => ?_)
set_option maxHeartbeats 8000000 in
set_option maxRecDepth 100000 in
theorem headgateref26_Unit.calls (k : Nat) (a0_0 : Int) (a0_1 : ByteArray) (r : ByteArray) (w : World) (h : headgateref26_Unit.f k a0_0 a0_1 = some r) :
    Calls Try.prog 12 #[.agg #[.int .i64 a0_0, .string a0_1]] w fun e w' => e = .returned (.string r) ∧ Below w.heap.size w w' := by
  have hu26 := Try.underlying26
  have HB := Aside0.mk (Below.refl w.heap.size w)
  have H : ((headgateref26_page.f).bind fun t206 => ((headgateref26_num.f k t206 0 (mx a0_0 0) 8).bind fun t207 => ((headgateref26_num.f k t207 8 (mx a0_0 0) 8).bind fun t208 => ((headgateref26_num.f k t208 16 (mx a0_0 0) 8).bind fun t209 => (if (a0_1.size : Int) > 16 then (if 0 ≤ 16 then (if 16 ≤ (a0_1.size : Int) then ((headgateref26_num.f k t209 31 127 1).bind fun t210 => ((headgateref26_put.f t210 104 (a0_1.extract 0 16)).bind fun t211 => ((headgateref26_num.f k t211 130 9 1).bind fun t212 => (some t212)))) else (none)) else (none)) else ((headgateref26_num.f k t209 31 127 1).bind fun t213 => ((headgateref26_put.f t213 104 a0_1).bind fun t214 => ((headgateref26_num.f k t214 130 9 1).bind fun t215 => (some t215))))))))) = some r := h
  clear h
  obtain ⟨ji2, hji2⟩ : ∃ j_ : Int, (mx a0_0 0) = j_ := ⟨_, rfl⟩
  replace H : ((headgateref26_page.f).bind fun t206 => ((headgateref26_num.f k t206 0 (ji2) 8).bind fun t207 => ((headgateref26_num.f k t207 8 (ji2) 8).bind fun t208 => ((headgateref26_num.f k t208 16 (ji2) 8).bind fun t209 => (if (a0_1.size : Int) > 16 then (if 0 ≤ 16 then (if 16 ≤ (a0_1.size : Int) then ((headgateref26_num.f k t209 31 127 1).bind fun t210 => ((headgateref26_put.f t210 104 (a0_1.extract 0 16)).bind fun t211 => ((headgateref26_num.f k t211 130 9 1).bind fun t212 => (some t212)))) else (none)) else (none)) else ((headgateref26_num.f k t209 31 127 1).bind fun t213 => ((headgateref26_put.f t213 104 a0_1).bind fun t214 => ((headgateref26_num.f k t214 130 9 1).bind fun t215 => (some t215))))))))) = some r := by first | (rw [hji2] at H; exact H) | (simp only [hji2] at H ⊢; exact H)
  (try (have hji2l : 0 ≤ ji2 := by (rw [← hji2]; unfold mx; (repeat' split) <;> omega)))
  (try (have hji2m : 0 ≤ ji2 := by omega))
  have hji2_ : (if a0_0 < 0 then 0 else a0_0) = ji2 := hji2
  replace H := Option.bind_eq_some_iff.mp H
  obtain ⟨t206, A30, H⟩ := H
  replace H : ((headgateref26_num.f k t206 0 (ji2) 8).bind fun t207 => ((headgateref26_num.f k t207 8 (ji2) 8).bind fun t208 => ((headgateref26_num.f k t208 16 (ji2) 8).bind fun t209 => (if (a0_1.size : Int) > 16 then (if 0 ≤ 16 then (if 16 ≤ (a0_1.size : Int) then ((headgateref26_num.f k t209 31 127 1).bind fun t210 => ((headgateref26_put.f t210 104 (a0_1.extract 0 16)).bind fun t211 => ((headgateref26_num.f k t211 130 9 1).bind fun t212 => (some t212)))) else (none)) else (none)) else ((headgateref26_num.f k t209 31 127 1).bind fun t213 => ((headgateref26_put.f t213 104 a0_1).bind fun t214 => ((headgateref26_num.f k t214 130 9 1).bind fun t215 => (some t215)))))))) = some r := H
  have A3 := Aside0.mk A30
  clear A30
  replace H := Option.bind_eq_some_iff.mp H
  obtain ⟨t207, A40, H⟩ := H
  replace H : ((headgateref26_num.f k t207 8 (ji2) 8).bind fun t208 => ((headgateref26_num.f k t208 16 (ji2) 8).bind fun t209 => (if (a0_1.size : Int) > 16 then (if 0 ≤ 16 then (if 16 ≤ (a0_1.size : Int) then ((headgateref26_num.f k t209 31 127 1).bind fun t210 => ((headgateref26_put.f t210 104 (a0_1.extract 0 16)).bind fun t211 => ((headgateref26_num.f k t211 130 9 1).bind fun t212 => (some t212)))) else (none)) else (none)) else ((headgateref26_num.f k t209 31 127 1).bind fun t213 => ((headgateref26_put.f t213 104 a0_1).bind fun t214 => ((headgateref26_num.f k t214 130 9 1).bind fun t215 => (some t215))))))) = some r := H
  have A4 := Aside0.mk A40
  clear A40
  replace H := Option.bind_eq_some_iff.mp H
  obtain ⟨t208, A50, H⟩ := H
  replace H : ((headgateref26_num.f k t208 16 (ji2) 8).bind fun t209 => (if (a0_1.size : Int) > 16 then (if 0 ≤ 16 then (if 16 ≤ (a0_1.size : Int) then ((headgateref26_num.f k t209 31 127 1).bind fun t210 => ((headgateref26_put.f t210 104 (a0_1.extract 0 16)).bind fun t211 => ((headgateref26_num.f k t211 130 9 1).bind fun t212 => (some t212)))) else (none)) else (none)) else ((headgateref26_num.f k t209 31 127 1).bind fun t213 => ((headgateref26_put.f t213 104 a0_1).bind fun t214 => ((headgateref26_num.f k t214 130 9 1).bind fun t215 => (some t215)))))) = some r := H
  have A5 := Aside0.mk A50
  clear A50
  replace H := Option.bind_eq_some_iff.mp H
  obtain ⟨t209, A60, H⟩ := H
  replace H : (if (a0_1.size : Int) > 16 then (if 0 ≤ 16 then (if 16 ≤ (a0_1.size : Int) then ((headgateref26_num.f k t209 31 127 1).bind fun t210 => ((headgateref26_put.f t210 104 (a0_1.extract 0 16)).bind fun t211 => ((headgateref26_num.f k t211 130 9 1).bind fun t212 => (some t212)))) else (none)) else (none)) else ((headgateref26_num.f k t209 31 127 1).bind fun t213 => ((headgateref26_put.f t213 104 a0_1).bind fun t214 => ((headgateref26_num.f k t214 130 9 1).bind fun t215 => (some t215))))) = some r := H
  have A6 := Aside0.mk A60
  clear A60
  by_cases c7 : (a0_1.size : Int) > 16
  · rw [if_pos c7] at H
    have c7b0 : decide (16 < (a0_1.size : Int)) = true := decide_eq_true c7
    have c7b1 : decide (16 < a0_1.size) = true := decide_eq_true (by omega)
    clear c7
    by_cases c8 : 0 ≤ 16
    · rw [if_pos c8] at H
      have c8b0 := eq_true c8
      have c8b1 : decide (0 ≤ 16) = true := decide_eq_true c8
      clear c8
      by_cases c9 : 16 ≤ (a0_1.size : Int)
      · rw [if_pos c9] at H
        have c9b0 := eq_true c9
        have c9b1 : decide (16 ≤ (a0_1.size : Int)) = true := decide_eq_true c9
        clear c9
        replace H := Option.bind_eq_some_iff.mp H
        obtain ⟨t210, A100, H⟩ := H
        replace H : ((headgateref26_put.f t210 104 (a0_1.extract 0 16)).bind fun t211 => ((headgateref26_num.f k t211 130 9 1).bind fun t212 => (some t212))) = some r := H
        have A10 := Aside0.mk A100
        clear A100
        replace H := Option.bind_eq_some_iff.mp H
        obtain ⟨t211, A110, H⟩ := H
        replace H : ((headgateref26_num.f k t211 130 9 1).bind fun t212 => (some t212)) = some r := H
        have A11 := Aside0.mk A110
        clear A110
        replace H := Option.bind_eq_some_iff.mp H
        obtain ⟨t212, A120, H⟩ := H
        replace H : (some t212) = some r := H
        have A12 := Aside0.mk A120
        clear A120
        obtain rfl := Option.some.inj H
        go_enter Try.func12, Try.ntmps12
        go_wp2_with (first | ((with_reducible refine gate_dst (N := 1) rfl ?_); refine box_event ?hg (N := 1) ?hd (cs := #[.int .i64 a0_0, .string a0_1]) (t := 26) ?hr ?_; (case hd => rfl); (case hg => rfl); (case hr => first | (go_simp; done) | (go_simp; rfl)); intro gb205 hg w13 hbox hb; have n0_ := Aside0.mk (below_step (by repeat (first | (with_reducible first | exact HB.out | apply below_alloc | apply pw_below_drewN | apply below_drew1) | exact HB.out)) hb); have n1_ := Aside0.mk (hbox); have n2_ := Aside0.mk ((by rw [hg]; exact (below_size (by repeat (first | (with_reducible first | exact HB.out | apply below_alloc | apply pw_below_drewN | apply below_drew1) | exact HB.out))) : w.heap.size ≤ gb205)); have n3_ := Aside0.mk ((by rw [hg]; exact (below_size (by repeat (first | (with_reducible first | exact HB.out | apply below_alloc | apply pw_below_drewN | apply below_drew1) | exact HB.out))) : w.heap.size ≤ gb205)); clear HB; have HB := n0_; have BK205 := n1_; have GW205 := n2_; have GE205 := n3_; clear n0_ n1_ n2_ n3_; clear hb hbox hg; have hcz14_0 : w13.cell? ⟨gb205, 0, none⟩ = some (.int .i64 a0_0) := (blk_cell BK205.out 0).trans rfl; have hcz14_1 : w13.cell? ⟨gb205, 1, none⟩ = some (.string a0_1) := (blk_cell BK205.out 1).trans rfl; have hfz14_0 := blk_frozen BK205.out 0; have hfz14_1 := blk_frozen BK205.out 1) | ((with_reducible refine gate_callee (f := 15) rfl ?_); refine goesL_ (some 9) rfl rfl Try.func15 (by kernel_rfl) rfl #[] rfl (by (try simp only [List.map_toArray, List.map_cons, List.map_nil]); first | done | rfl | (simp only [List.length_drop, List.length_take]; rfl)) ?_; (with_reducible refine (headgateref26_page.calls  t206 _ A3.out).mono ?_); rintro e w15 ⟨rfl, hb⟩; refine ⟨_, rfl, ?_⟩; have n0_ := Aside0.mk (blk_below (g := gb205) (o := .cells #[.int .i64 a0_0, .string a0_1] 26 (0, 0)) (by (with_reducible repeat (first | refine blk_drewN ?_ _ | refine blk_drew ?_ | refine blk_alloc ?_ _)); exact BK205.out) hb); have n1_ := Aside0.mk (below_step (by repeat (first | (with_reducible first | exact HB.out | apply below_alloc | apply pw_below_drewN | apply below_drew1 | refine below_set ?_ GE205.out) | exact HB.out)) hb); clear BK205; clear HB; have BK205 := n0_; have HB := n1_; clear n0_ n1_; (try clear hb); (try clear hb2); (try clear hk); (try clear hi)) | ((with_reducible refine gate_callee (f := 16) rfl ?_); refine goesL_ (some 11) rfl rfl Try.func16 (by kernel_rfl) rfl #[.string t206, .int .i64 0, .int .i64 ji2, .int .i64 8] rfl (by (try simp only [List.map_toArray, List.map_cons, List.map_nil]); first | done | (simp only [hji2]; rfl) | rfl | (simp only [List.length_drop, List.length_take]; rfl)) ?_; (with_reducible refine (headgateref26_num.calls k t206 0 ji2 8 t207 _ A4.out).mono ?_); rintro e w16 ⟨rfl, hb⟩; refine ⟨_, rfl, ?_⟩; have n0_ := Aside0.mk (blk_below (g := gb205) (o := .cells #[.int .i64 a0_0, .string a0_1] 26 (0, 0)) (by (with_reducible repeat (first | refine blk_drewN ?_ _ | refine blk_drew ?_ | refine blk_alloc ?_ _)); exact BK205.out) hb); have n1_ := Aside0.mk (below_step (by repeat (first | (with_reducible first | exact HB.out | apply below_alloc | apply pw_below_drewN | apply below_drew1 | refine below_set ?_ GE205.out) | exact HB.out)) hb); clear BK205; clear HB; have BK205 := n0_; have HB := n1_; clear n0_ n1_; (try clear hb); (try clear hb2); (try clear hk); (try clear hi)) | ((with_reducible refine gate_callee (f := 16) rfl ?_); refine goesL_ (some 13) rfl rfl Try.func16 (by kernel_rfl) rfl #[.string t207, .int .i64 8, .int .i64 ji2, .int .i64 8] rfl (by (try simp only [List.map_toArray, List.map_cons, List.map_nil]); first | done | (simp only [hji2]; rfl) | rfl | (simp only [List.length_drop, List.length_take]; rfl)) ?_; (with_reducible refine (headgateref26_num.calls k t207 8 ji2 8 t208 _ A5.out).mono ?_); rintro e w17 ⟨rfl, hb⟩; refine ⟨_, rfl, ?_⟩; have n0_ := Aside0.mk (blk_below (g := gb205) (o := .cells #[.int .i64 a0_0, .string a0_1] 26 (0, 0)) (by (with_reducible repeat (first | refine blk_drewN ?_ _ | refine blk_drew ?_ | refine blk_alloc ?_ _)); exact BK205.out) hb); have n1_ := Aside0.mk (below_step (by repeat (first | (with_reducible first | exact HB.out | apply below_alloc | apply pw_below_drewN | apply below_drew1 | refine below_set ?_ GE205.out) | exact HB.out)) hb); clear BK205; clear HB; have BK205 := n0_; have HB := n1_; clear n0_ n1_; (try clear hb); (try clear hb2); (try clear hk); (try clear hi)) | ((with_reducible refine gate_callee (f := 16) rfl ?_); refine goesL_ (some 15) rfl rfl Try.func16 (by kernel_rfl) rfl #[.string t208, .int .i64 16, .int .i64 ji2, .int .i64 8] rfl (by (try simp only [List.map_toArray, List.map_cons, List.map_nil]); first | done | (simp only [hji2]; rfl) | rfl | (simp only [List.length_drop, List.length_take]; rfl)) ?_; (with_reducible refine (headgateref26_num.calls k t208 16 ji2 8 t209 _ A6.out).mono ?_); rintro e w18 ⟨rfl, hb⟩; refine ⟨_, rfl, ?_⟩; have n0_ := Aside0.mk (blk_below (g := gb205) (o := .cells #[.int .i64 a0_0, .string a0_1] 26 (0, 0)) (by (with_reducible repeat (first | refine blk_drewN ?_ _ | refine blk_drew ?_ | refine blk_alloc ?_ _)); exact BK205.out) hb); have n1_ := Aside0.mk (below_step (by repeat (first | (with_reducible first | exact HB.out | apply below_alloc | apply pw_below_drewN | apply below_drew1 | refine below_set ?_ GE205.out) | exact HB.out)) hb); clear BK205; clear HB; have BK205 := n0_; have HB := n1_; clear n0_ n1_; (try clear hb); (try clear hb2); (try clear hk); (try clear hi); have hcz19_0 : w18.cell? ⟨gb205, 0, none⟩ = some (.int .i64 a0_0) := (blk_cell BK205.out 0).trans rfl; have hcz19_1 : w18.cell? ⟨gb205, 1, none⟩ = some (.string a0_1) := (blk_cell BK205.out 1).trans rfl; have hfz19_0 := blk_frozen BK205.out 0; have hfz19_1 := blk_frozen BK205.out 1) | ((with_reducible refine gate_callee (f := 16) rfl ?_); refine goesL_ (some 24) rfl rfl Try.func16 (by kernel_rfl) rfl #[.string t209, .int .i64 31, .int .i64 127, .int .i64 1] rfl (by (try simp only [List.map_toArray, List.map_cons, List.map_nil]); first | done | rfl | (simp only [List.length_drop, List.length_take]; rfl)) ?_; (with_reducible refine (headgateref26_num.calls k t209 31 127 1 t210 _ A10.out).mono ?_); rintro e w20 ⟨rfl, hb⟩; refine ⟨_, rfl, ?_⟩; have n0_ := Aside0.mk (blk_below (g := gb205) (o := .cells #[.int .i64 a0_0, .string a0_1] 26 (0, 0)) (by (with_reducible repeat (first | refine blk_drewN ?_ _ | refine blk_drew ?_ | refine blk_alloc ?_ _)); exact BK205.out) hb); have n1_ := Aside0.mk (below_step (by repeat (first | (with_reducible first | exact HB.out | apply below_alloc | apply pw_below_drewN | apply below_drew1 | refine below_set ?_ GE205.out) | exact HB.out)) hb); clear BK205; clear HB; have BK205 := n0_; have HB := n1_; clear n0_ n1_; (try clear hb); (try clear hb2); (try clear hk); (try clear hi)) | ((with_reducible refine gate_callee (f := 17) rfl ?_); refine goesL_ (some 26) rfl rfl Try.func17 (by kernel_rfl) rfl #[.string t210, .int .i64 104, .string (a0_1.extract 0 16)] rfl (by (try simp only [List.map_toArray, List.map_cons, List.map_nil]); first | done | rfl | (simp only [List.length_drop, List.length_take]; rfl)) ?_; (with_reducible refine (headgateref26_put.calls t210 104 (a0_1.extract 0 16) t211 _ A11.out).mono ?_); rintro e w' ⟨rfl, ⟨nd, rfl⟩⟩; refine ⟨_, rfl, ?_⟩) | ((with_reducible refine gate_callee (f := 16) rfl ?_); refine goesL_ (some 27) rfl rfl Try.func16 (by kernel_rfl) rfl #[.string t211, .int .i64 130, .int .i64 9, .int .i64 1] rfl (by (try simp only [List.map_toArray, List.map_cons, List.map_nil]); first | done | rfl | (simp only [List.length_drop, List.length_take]; rfl)) ?_; (with_reducible refine (headgateref26_num.calls k t211 130 9 1 t212 _ A12.out).mono ?_); rintro e w21 ⟨rfl, hb⟩; refine ⟨_, rfl, ?_⟩; have n0_ := Aside0.mk (blk_below (g := gb205) (o := .cells #[.int .i64 a0_0, .string a0_1] 26 (0, 0)) (by (with_reducible repeat (first | refine blk_drewN ?_ _ | refine blk_drew ?_ | refine blk_alloc ?_ _)); exact BK205.out) hb); have n1_ := Aside0.mk (below_step (by repeat (first | (with_reducible first | exact HB.out | apply below_alloc | apply pw_below_drewN | apply below_drew1 | refine below_set ?_ GE205.out) | exact HB.out)) hb); clear BK205; clear HB; have BK205 := n0_; have HB := n1_; clear n0_ n1_; (try clear hb); (try clear hb2); (try clear hk); (try clear hi)))
        go_ret
        exact ⟨by first | rfl | (simp [errW_none, errW_some] <;> rfl) | (simp only [← hji2]; first | rfl | (simp [errW_none, errW_some] <;> rfl)) | (simp [*, errW_none, errW_some] <;> rfl) | (simp [bt, *]; done) | (unfold bt; simp [*]; done), by repeat (first | (with_reducible first | exact HB.out | apply below_alloc | apply pw_below_drewN | apply below_drew1 | refine below_set ?_ GE205.out) | exact HB.out)⟩
      · rw [if_neg c9] at H
        exact absurd H (by simp)
    · rw [if_neg c8] at H
      exact absurd H (by simp)
  · rw [if_neg c7] at H
    have c7b0 : decide (16 < (a0_1.size : Int)) = false := decide_eq_false c7
    have c7b1 : decide (16 < a0_1.size) = false := decide_eq_false (by omega)
    clear c7
    replace H := Option.bind_eq_some_iff.mp H
    obtain ⟨t213, A220, H⟩ := H
    replace H : ((headgateref26_put.f t213 104 a0_1).bind fun t214 => ((headgateref26_num.f k t214 130 9 1).bind fun t215 => (some t215))) = some r := H
    have A22 := Aside0.mk A220
    clear A220
    replace H := Option.bind_eq_some_iff.mp H
    obtain ⟨t214, A230, H⟩ := H
    replace H : ((headgateref26_num.f k t214 130 9 1).bind fun t215 => (some t215)) = some r := H
    have A23 := Aside0.mk A230
    clear A230
    replace H := Option.bind_eq_some_iff.mp H
    obtain ⟨t215, A240, H⟩ := H
    replace H : (some t215) = some r := H
    have A24 := Aside0.mk A240
    clear A240
    obtain rfl := Option.some.inj H
    go_enter Try.func12, Try.ntmps12
    go_wp2_with (first | ((with_reducible refine gate_dst (N := 1) rfl ?_); refine box_event ?hg (N := 1) ?hd (cs := #[.int .i64 a0_0, .string a0_1]) (t := 26) ?hr ?_; (case hd => rfl); (case hg => rfl); (case hr => first | (go_simp; done) | (go_simp; rfl)); intro gb205 hg w25 hbox hb; have n0_ := Aside0.mk (below_step (by repeat (first | (with_reducible first | exact HB.out | apply below_alloc | apply pw_below_drewN | apply below_drew1) | exact HB.out)) hb); have n1_ := Aside0.mk (hbox); have n2_ := Aside0.mk ((by rw [hg]; exact (below_size (by repeat (first | (with_reducible first | exact HB.out | apply below_alloc | apply pw_below_drewN | apply below_drew1) | exact HB.out))) : w.heap.size ≤ gb205)); have n3_ := Aside0.mk ((by rw [hg]; exact (below_size (by repeat (first | (with_reducible first | exact HB.out | apply below_alloc | apply pw_below_drewN | apply below_drew1) | exact HB.out))) : w.heap.size ≤ gb205)); clear HB; have HB := n0_; have BK205 := n1_; have GW205 := n2_; have GE205 := n3_; clear n0_ n1_ n2_ n3_; clear hb hbox hg; have hcz26_0 : w25.cell? ⟨gb205, 0, none⟩ = some (.int .i64 a0_0) := (blk_cell BK205.out 0).trans rfl; have hcz26_1 : w25.cell? ⟨gb205, 1, none⟩ = some (.string a0_1) := (blk_cell BK205.out 1).trans rfl; have hfz26_0 := blk_frozen BK205.out 0; have hfz26_1 := blk_frozen BK205.out 1) | ((with_reducible refine gate_callee (f := 15) rfl ?_); refine goesL_ (some 9) rfl rfl Try.func15 (by kernel_rfl) rfl #[] rfl (by (try simp only [List.map_toArray, List.map_cons, List.map_nil]); first | done | rfl | (simp only [List.length_drop, List.length_take]; rfl)) ?_; (with_reducible refine (headgateref26_page.calls  t206 _ A3.out).mono ?_); rintro e w27 ⟨rfl, hb⟩; refine ⟨_, rfl, ?_⟩; have n0_ := Aside0.mk (blk_below (g := gb205) (o := .cells #[.int .i64 a0_0, .string a0_1] 26 (0, 0)) (by (with_reducible repeat (first | refine blk_drewN ?_ _ | refine blk_drew ?_ | refine blk_alloc ?_ _)); exact BK205.out) hb); have n1_ := Aside0.mk (below_step (by repeat (first | (with_reducible first | exact HB.out | apply below_alloc | apply pw_below_drewN | apply below_drew1 | refine below_set ?_ GE205.out) | exact HB.out)) hb); clear BK205; clear HB; have BK205 := n0_; have HB := n1_; clear n0_ n1_; (try clear hb); (try clear hb2); (try clear hk); (try clear hi)) | ((with_reducible refine gate_callee (f := 16) rfl ?_); refine goesL_ (some 11) rfl rfl Try.func16 (by kernel_rfl) rfl #[.string t206, .int .i64 0, .int .i64 ji2, .int .i64 8] rfl (by (try simp only [List.map_toArray, List.map_cons, List.map_nil]); first | done | (simp only [hji2]; rfl) | rfl | (simp only [List.length_drop, List.length_take]; rfl)) ?_; (with_reducible refine (headgateref26_num.calls k t206 0 ji2 8 t207 _ A4.out).mono ?_); rintro e w28 ⟨rfl, hb⟩; refine ⟨_, rfl, ?_⟩; have n0_ := Aside0.mk (blk_below (g := gb205) (o := .cells #[.int .i64 a0_0, .string a0_1] 26 (0, 0)) (by (with_reducible repeat (first | refine blk_drewN ?_ _ | refine blk_drew ?_ | refine blk_alloc ?_ _)); exact BK205.out) hb); have n1_ := Aside0.mk (below_step (by repeat (first | (with_reducible first | exact HB.out | apply below_alloc | apply pw_below_drewN | apply below_drew1 | refine below_set ?_ GE205.out) | exact HB.out)) hb); clear BK205; clear HB; have BK205 := n0_; have HB := n1_; clear n0_ n1_; (try clear hb); (try clear hb2); (try clear hk); (try clear hi)) | ((with_reducible refine gate_callee (f := 16) rfl ?_); refine goesL_ (some 13) rfl rfl Try.func16 (by kernel_rfl) rfl #[.string t207, .int .i64 8, .int .i64 ji2, .int .i64 8] rfl (by (try simp only [List.map_toArray, List.map_cons, List.map_nil]); first | done | (simp only [hji2]; rfl) | rfl | (simp only [List.length_drop, List.length_take]; rfl)) ?_; (with_reducible refine (headgateref26_num.calls k t207 8 ji2 8 t208 _ A5.out).mono ?_); rintro e w29 ⟨rfl, hb⟩; refine ⟨_, rfl, ?_⟩; have n0_ := Aside0.mk (blk_below (g := gb205) (o := .cells #[.int .i64 a0_0, .string a0_1] 26 (0, 0)) (by (with_reducible repeat (first | refine blk_drewN ?_ _ | refine blk_drew ?_ | refine blk_alloc ?_ _)); exact BK205.out) hb); have n1_ := Aside0.mk (below_step (by repeat (first | (with_reducible first | exact HB.out | apply below_alloc | apply pw_below_drewN | apply below_drew1 | refine below_set ?_ GE205.out) | exact HB.out)) hb); clear BK205; clear HB; have BK205 := n0_; have HB := n1_; clear n0_ n1_; (try clear hb); (try clear hb2); (try clear hk); (try clear hi)) | ((with_reducible refine gate_callee (f := 16) rfl ?_); refine goesL_ (some 15) rfl rfl Try.func16 (by kernel_rfl) rfl #[.string t208, .int .i64 16, .int .i64 ji2, .int .i64 8] rfl (by (try simp only [List.map_toArray, List.map_cons, List.map_nil]); first | done | (simp only [hji2]; rfl) | rfl | (simp only [List.length_drop, List.length_take]; rfl)) ?_; (with_reducible refine (headgateref26_num.calls k t208 16 ji2 8 t209 _ A6.out).mono ?_); rintro e w30 ⟨rfl, hb⟩; refine ⟨_, rfl, ?_⟩; have n0_ := Aside0.mk (blk_below (g := gb205) (o := .cells #[.int .i64 a0_0, .string a0_1] 26 (0, 0)) (by (with_reducible repeat (first | refine blk_drewN ?_ _ | refine blk_drew ?_ | refine blk_alloc ?_ _)); exact BK205.out) hb); have n1_ := Aside0.mk (below_step (by repeat (first | (with_reducible first | exact HB.out | apply below_alloc | apply pw_below_drewN | apply below_drew1 | refine below_set ?_ GE205.out) | exact HB.out)) hb); clear BK205; clear HB; have BK205 := n0_; have HB := n1_; clear n0_ n1_; (try clear hb); (try clear hb2); (try clear hk); (try clear hi); have hcz31_0 : w30.cell? ⟨gb205, 0, none⟩ = some (.int .i64 a0_0) := (blk_cell BK205.out 0).trans rfl; have hcz31_1 : w30.cell? ⟨gb205, 1, none⟩ = some (.string a0_1) := (blk_cell BK205.out 1).trans rfl; have hfz31_0 := blk_frozen BK205.out 0; have hfz31_1 := blk_frozen BK205.out 1) | ((with_reducible refine gate_callee (f := 16) rfl ?_); refine goesL_ (some 24) rfl rfl Try.func16 (by kernel_rfl) rfl #[.string t209, .int .i64 31, .int .i64 127, .int .i64 1] rfl (by (try simp only [List.map_toArray, List.map_cons, List.map_nil]); first | done | rfl | (simp only [List.length_drop, List.length_take]; rfl)) ?_; (with_reducible refine (headgateref26_num.calls k t209 31 127 1 t213 _ A22.out).mono ?_); rintro e w32 ⟨rfl, hb⟩; refine ⟨_, rfl, ?_⟩; have n0_ := Aside0.mk (blk_below (g := gb205) (o := .cells #[.int .i64 a0_0, .string a0_1] 26 (0, 0)) (by (with_reducible repeat (first | refine blk_drewN ?_ _ | refine blk_drew ?_ | refine blk_alloc ?_ _)); exact BK205.out) hb); have n1_ := Aside0.mk (below_step (by repeat (first | (with_reducible first | exact HB.out | apply below_alloc | apply pw_below_drewN | apply below_drew1 | refine below_set ?_ GE205.out) | exact HB.out)) hb); clear BK205; clear HB; have BK205 := n0_; have HB := n1_; clear n0_ n1_; (try clear hb); (try clear hb2); (try clear hk); (try clear hi)) | ((with_reducible refine gate_callee (f := 17) rfl ?_); refine goesL_ (some 26) rfl rfl Try.func17 (by kernel_rfl) rfl #[.string t213, .int .i64 104, .string a0_1] rfl (by (try simp only [List.map_toArray, List.map_cons, List.map_nil]); first | done | rfl | (simp only [List.length_drop, List.length_take]; rfl)) ?_; (with_reducible refine (headgateref26_put.calls t213 104 a0_1 t214 _ A23.out).mono ?_); rintro e w' ⟨rfl, ⟨nd, rfl⟩⟩; refine ⟨_, rfl, ?_⟩) | ((with_reducible refine gate_callee (f := 16) rfl ?_); refine goesL_ (some 27) rfl rfl Try.func16 (by kernel_rfl) rfl #[.string t214, .int .i64 130, .int .i64 9, .int .i64 1] rfl (by (try simp only [List.map_toArray, List.map_cons, List.map_nil]); first | done | rfl | (simp only [List.length_drop, List.length_take]; rfl)) ?_; (with_reducible refine (headgateref26_num.calls k t214 130 9 1 t215 _ A24.out).mono ?_); rintro e w33 ⟨rfl, hb⟩; refine ⟨_, rfl, ?_⟩; have n0_ := Aside0.mk (blk_below (g := gb205) (o := .cells #[.int .i64 a0_0, .string a0_1] 26 (0, 0)) (by (with_reducible repeat (first | refine blk_drewN ?_ _ | refine blk_drew ?_ | refine blk_alloc ?_ _)); exact BK205.out) hb); have n1_ := Aside0.mk (below_step (by repeat (first | (with_reducible first | exact HB.out | apply below_alloc | apply pw_below_drewN | apply below_drew1 | refine below_set ?_ GE205.out) | exact HB.out)) hb); clear BK205; clear HB; have BK205 := n0_; have HB := n1_; clear n0_ n1_; (try clear hb); (try clear hb2); (try clear hk); (try clear hi)))
    go_ret
    exact ⟨by first | rfl | (simp [errW_none, errW_some] <;> rfl) | (simp only [← hji2]; first | rfl | (simp [errW_none, errW_some] <;> rfl)) | (simp [*, errW_none, errW_some] <;> rfl) | (simp [bt, *]; done) | (unfold bt; simp [*]; done), by repeat (first | (with_reducible first | exact HB.out | apply below_alloc | apply pw_below_drewN | apply below_drew1 | refine below_set ?_ GE205.out) | exact HB.out)⟩

end Go.Proofs.Ytmfbmioooafelaa.P
