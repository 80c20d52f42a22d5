-- written by this session's patched copy of the printer (wip/tools/patch_print.py); Lean checks it
import Derived.Test.YtjogkfcjlljjcaaDoorXaResvTwice
namespace Go.Proofs.YtjogkfcjlljjcaaDoor.P
open Go.RowKit Go.Proofs.YtjogkfcjlljjcaaDoorW.PrintWords Go.Proofs.YtjogkfcjlljjcaaDoorW.PrintLast Go.Proofs.YtjogkfcjlljjcaaDoorW.PrintMore
attribute [local go_sem] max2_int min2_int max_two min_two max_three min_three max_four min_four   -- for this text's walks alone
set_option linter.unusedVariables false
set_option linter.unusedSimpArgs false
set_option linter.unnecessarySimpa false

/-! ### headgatelaw11_ResvTwice: function 7 -/
mutual
def headgatelaw11_ResvTwice.j0 : Nat → ByteArray → Int → Bool → List (S53) → Int → ByteArray → Int → Bool → Option (Bool)
 | 0, _, _, _, _, _, _, _, _ => none
 | k + 1, x1, x2, x36, x419000, x419001, x419002, x419003, x419004 => if x36 = true then ((headgatelaw11_wakes.f k).bind fun t422 => (some t422)) else ((headgateref11_Key.f k x419000 x419001 x419002 x419003 x419004 x1).bind fun t423 => ((headgatekeep_Mod.f x2 6).bind fun t424 => ((headgatekeep_CopyTable.f x419000 x419001 x419002 x419003 x419004).bind fun bt426 => ((resv_Do.f k bt426.1 bt426.2.1 bt426.2.2.1 bt426.2.2.2.1 bt426.2.2.2.2 9 0 x1 0 0 (⟨#[]⟩ : ByteArray) false ([] : List (S100)) t423 0 0 (wrap64 (1 + t424)) false 0).bind fun bt433 => ((headgatekeep_CopyTable.f bt433.1 bt433.2.1 bt433.2.2.1 bt433.2.2.2.1 bt433.2.2.2.2.1).bind fun bt445 => ((resv_Do.f k bt445.1 bt445.2.1 bt445.2.2.1 bt445.2.2.2.1 bt445.2.2.2.2 9 0 x1 0 0 (⟨#[]⟩ : ByteArray) false ([] : List (S100)) t423 0 0 (wrap64 (1 + t424)) false 0).bind fun bt452 => (if bt433.2.2.2.2.2.2 = 1 then (if bt452.2.2.2.2.2.2 = 1 then (if (bt452.2.2.2.2.2.1.length : Int) = 0 then ((headgatekeep_Tables.f k bt433.1 bt433.2.1 bt433.2.2.1 bt433.2.2.2.1 bt433.2.2.2.2.1 bt452.1 bt452.2.1 bt452.2.2.1 bt452.2.2.2.1 bt452.2.2.2.2.1).bind fun t464 => (if t464 = true then (headgatelaw11_ResvTwice.j1 k (bt433.2.2.2.1 != x419003) x419000 x419001 x419002 x419003 x419004 9 0 x1 0 0 (⟨#[]⟩ : ByteArray) false t423 0 0 (wrap64 (1 + t424)) false 0 bt452.1 bt452.2.1 bt452.2.2.1 bt452.2.2.2.1 bt452.2.2.2.2.1) else (headgatelaw11_ResvTwice.j1 k true x419000 x419001 x419002 x419003 x419004 9 0 x1 0 0 (⟨#[]⟩ : ByteArray) false t423 0 0 (wrap64 (1 + t424)) false 0 bt452.1 bt452.2.1 bt452.2.2.1 bt452.2.2.2.1 bt452.2.2.2.2.1))) else (headgatelaw11_ResvTwice.j1 k true x419000 x419001 x419002 x419003 x419004 9 0 x1 0 0 (⟨#[]⟩ : ByteArray) false t423 0 0 (wrap64 (1 + t424)) false 0 bt452.1 bt452.2.1 bt452.2.2.1 bt452.2.2.2.1 bt452.2.2.2.2.1)) else (headgatelaw11_ResvTwice.j1 k true x419000 x419001 x419002 x419003 x419004 9 0 x1 0 0 (⟨#[]⟩ : ByteArray) false t423 0 0 (wrap64 (1 + t424)) false 0 bt452.1 bt452.2.1 bt452.2.2.1 bt452.2.2.2.1 bt452.2.2.2.2.1)) else (headgatelaw11_ResvTwice.j1 k true x419000 x419001 x419002 x419003 x419004 9 0 x1 0 0 (⟨#[]⟩ : ByteArray) false t423 0 0 (wrap64 (1 + t424)) false 0 bt452.1 bt452.2.1 bt452.2.2.1 bt452.2.2.2.1 bt452.2.2.2.2.1))))))))
def headgatelaw11_ResvTwice.j1 : Nat → Bool → List (S53) → Int → ByteArray → Int → Bool → Int → Int → ByteArray → Int → Int → ByteArray → Bool → Int → Int → Int → Int → Bool → Int → List (S53) → Int → ByteArray → Int → Bool → Option (Bool)
 | 0, _, _, _, _, _, _, _, _, _, _, _, _, _, _, _, _, _, _, _, _, _, _, _, _ => none
 | k + 1, x85, x419000, x419001, x419002, x419003, x419004, x426000, x426001, x426002, x426003, x426004, x426005, x426006, x426008, x426009, x426010, x426011, x426012, x426013, x464000, x464001, x464002, x464003, x464004 => if x85 = true then (some false) else ((headgatekeep_CopyTable.f x464000 x464001 x464002 x464003 x464004).bind fun bt465 => ((resv_Do.f k bt465.1 bt465.2.1 bt465.2.2.1 bt465.2.2.2.1 bt465.2.2.2.2 10 x426001 x426002 x426003 x426004 x426005 x426006 ([] : List (S100)) x426008 x426009 x426010 x426011 x426012 x426013).bind fun bt472 => (if x426011 < 3 then (headgatelaw11_ResvTwice.j2 k bt472.2.2.2.2.2.1 bt472.2.2.2.2.2.2 0 x419000 x419001 x419002 x419003 x419004 bt472.1 bt472.2.1 bt472.2.2.1 bt472.2.2.2.1 bt472.2.2.2.2.1) else (headgatelaw11_ResvTwice.j2 k bt472.2.2.2.2.2.1 bt472.2.2.2.2.2.2 (wrap64 ((x419000.length : Int) - 1)) x419000 x419001 x419002 x419003 x419004 bt472.1 bt472.2.1 bt472.2.2.1 bt472.2.2.2.1 bt472.2.2.2.2.1))))
def headgatelaw11_ResvTwice.j2 : Nat → List (S46) → Int → Int → List (S53) → Int → ByteArray → Int → Bool → List (S53) → Int → ByteArray → Int → Bool → Option (Bool)
 | 0, _, _, _, _, _, _, _, _, _, _, _, _, _ => none
 | k + 1, x15, x16, x17, x419000, x419001, x419002, x419003, x419004, x484000, x484001, x484002, x484003, x484004 => if x16 = 1 then ((headgatekeep_Tables.f k x484000 x484001 x484002 x484003 x484004 x419000 x419001 x419002 x419003 x419004).bind fun t484 => (if t484 = true then (if (x15.length : Int) = x17 then ((headgatelaw11_wakes.f k).bind fun t485 => (some t485)) else (some false)) else (some false))) else (some false)
end
def headgatelaw11_ResvTwice.f (k : Nat) (l0_0 : List (S53)) (a0_1 : Int) (a0_2 : ByteArray) (a0_3 : Int) (a0_4 : Bool) (a1 : ByteArray) (a2 : Int) : Option (Bool) := (headgatelaw10_Large.f k l0_0 a0_1 a0_2 a0_3 a0_4).bind fun t419 => (if t419 = true then (headgatelaw11_ResvTwice.j0 k a1 a2 true l0_0 a0_1 a0_2 a0_3 a0_4) else ((headgateref11_Good.f k l0_0 a0_1 a0_2 a0_3 a0_4).bind fun t420 => (if t420 = true then ((headgateref11_Key.f k l0_0 a0_1 a0_2 a0_3 a0_4 a1).bind fun t421 => (if t421 = 0 then (headgatelaw11_ResvTwice.j0 k a1 a2 true l0_0 a0_1 a0_2 a0_3 a0_4) else (headgatelaw11_ResvTwice.j0 k a1 a2 (a0_1 != 0) l0_0 a0_1 a0_2 a0_3 a0_4))) else (headgatelaw11_ResvTwice.j0 k a1 a2 true l0_0 a0_1 a0_2 a0_3 a0_4))))
theorem headgatelaw11_ResvTwice.mono_l : ∀ k, (∀ y0 y1 y2 y3 y4 y5 y6 y7, LeO (headgatelaw11_ResvTwice.j0 k y0 y1 y2 y3 y4 y5 y6 y7) (headgatelaw11_ResvTwice.j0 (k + 1) y0 y1 y2 y3 y4 y5 y6 y7)) ∧ (∀ y0 y1 y2 y3 y4 y5 y6 y7 y8 y9 y10 y11 y12 y13 y14 y15 y16 y17 y18 y19 y20 y21 y22 y23, LeO (headgatelaw11_ResvTwice.j1 k y0 y1 y2 y3 y4 y5 y6 y7 y8 y9 y10 y11 y12 y13 y14 y15 y16 y17 y18 y19 y20 y21 y22 y23) (headgatelaw11_ResvTwice.j1 (k + 1) y0 y1 y2 y3 y4 y5 y6 y7 y8 y9 y10 y11 y12 y13 y14 y15 y16 y17 y18 y19 y20 y21 y22 y23)) ∧ (∀ y0 y1 y2 y3 y4 y5 y6 y7 y8 y9 y10 y11 y12, LeO (headgatelaw11_ResvTwice.j2 k y0 y1 y2 y3 y4 y5 y6 y7 y8 y9 y10 y11 y12) (headgatelaw11_ResvTwice.j2 (k + 1) y0 y1 y2 y3 y4 y5 y6 y7 y8 y9 y10 y11 y12))
 | 0 => ⟨fun _ _ _ _ _ _ _ _ r h => by simp [headgatelaw11_ResvTwice.j0] at h, fun _ _ _ _ _ _ _ _ _ _ _ _ _ _ _ _ _ _ _ _ _ _ _ _ r h => by simp [headgatelaw11_ResvTwice.j1] at h, fun _ _ _ _ _ _ _ _ _ _ _ _ _ r h => by simp [headgatelaw11_ResvTwice.j2] at h⟩
 | k + 1 => by
  obtain ⟨ih0, ih1, ih2⟩ := headgatelaw11_ResvTwice.mono_l k
  refine ⟨?_, ?_, ?_⟩
  ·intro y0 y1 y2 y3 y4 y5 y6 y7
   unfold headgatelaw11_ResvTwice.j0
   repeat' first
   | (with_reducible exact ih0 _ _ _ _ _ _ _ _)
   | (with_reducible exact ih1 _ _ _ _ _ _ _ _ _ _ _ _ _ _ _ _ _ _ _ _ _ _ _ _)
   | (with_reducible exact ih2 _ _ _ _ _ _ _ _ _ _ _ _ _)
   | (with_reducible exact headgatekeep_Tables.mono _ _ _ _ _ _ _ _ _ _ _)
   | (with_reducible exact headgatelaw10_Large.mono _ _ _ _ _ _)
   | (with_reducible exact headgatelaw11_wakes.mono _)
   | (with_reducible exact headgateref11_Good.mono _ _ _ _ _ _)
   | (with_reducible exact headgateref11_Key.mono _ _ _ _ _ _ _)
   | (with_reducible exact resv_Do.mono _ _ _ _ _ _ _ _ _ _ _ _ _ _ _ _ _ _ _ _)
   | (with_reducible exact LeO.refl _)
   | (with_reducible exact LeO.none _)
   | (with_reducible refine LeO.ite ?_ ?_)
   | (with_reducible refine LeO.bind ?_ (fun _ => ?_))
   | exact ih0 _ _ _ _ _ _ _ _
   | exact ih1 _ _ _ _ _ _ _ _ _ _ _ _ _ _ _ _ _ _ _ _ _ _ _ _
   | exact ih2 _ _ _ _ _ _ _ _ _ _ _ _ _
   | exact headgatekeep_Tables.mono _ _ _ _ _ _ _ _ _ _ _
   | exact headgatelaw10_Large.mono _ _ _ _ _ _
   | exact headgatelaw11_wakes.mono _
   | exact headgateref11_Good.mono _ _ _ _ _ _
   | exact headgateref11_Key.mono _ _ _ _ _ _ _
   | exact resv_Do.mono _ _ _ _ _ _ _ _ _ _ _ _ _ _ _ _ _ _ _ _
   | exact LeO.none _
   | refine LeO.ite ?_ ?_
   | refine LeO.bind ?_ (fun _ => ?_)
  ·intro y0 y1 y2 y3 y4 y5 y6 y7 y8 y9 y10 y11 y12 y13 y14 y15 y16 y17 y18 y19 y20 y21 y22 y23
   unfold headgatelaw11_ResvTwice.j1
   repeat' first
   | (with_reducible exact ih0 _ _ _ _ _ _ _ _)
   | (with_reducible exact ih1 _ _ _ _ _ _ _ _ _ _ _ _ _ _ _ _ _ _ _ _ _ _ _ _)
   | (with_reducible exact ih2 _ _ _ _ _ _ _ _ _ _ _ _ _)
   | (with_reducible exact headgatekeep_Tables.mono _ _ _ _ _ _ _ _ _ _ _)
   | (with_reducible exact headgatelaw10_Large.mono _ _ _ _ _ _)
   | (with_reducible exact headgatelaw11_wakes.mono _)
   | (with_reducible exact headgateref11_Good.mono _ _ _ _ _ _)
   | (with_reducible exact headgateref11_Key.mono _ _ _ _ _ _ _)
   | (with_reducible exact resv_Do.mono _ _ _ _ _ _ _ _ _ _ _ _ _ _ _ _ _ _ _ _)
   | (with_reducible exact LeO.refl _)
   | (with_reducible exact LeO.none _)
   | (with_reducible refine LeO.ite ?_ ?_)
   | (with_reducible refine LeO.bind ?_ (fun _ => ?_))
   | exact ih0 _ _ _ _ _ _ _ _
   | exact ih1 _ _ _ _ _ _ _ _ _ _ _ _ _ _ _ _ _ _ _ _ _ _ _ _
   | exact ih2 _ _ _ _ _ _ _ _ _ _ _ _ _
   | exact headgatekeep_Tables.mono _ _ _ _ _ _ _ _ _ _ _
   | exact headgatelaw10_Large.mono _ _ _ _ _ _
   | exact headgatelaw11_wakes.mono _
   | exact headgateref11_Good.mono _ _ _ _ _ _
   | exact headgateref11_Key.mono _ _ _ _ _ _ _
   | exact resv_Do.mono _ _ _ _ _ _ _ _ _ _ _ _ _ _ _ _ _ _ _ _
   | exact LeO.none _
   | refine LeO.ite ?_ ?_
   | refine LeO.bind ?_ (fun _ => ?_)
  ·intro y0 y1 y2 y3 y4 y5 y6 y7 y8 y9 y10 y11 y12
   unfold headgatelaw11_ResvTwice.j2
   repeat' first
   | (with_reducible exact ih0 _ _ _ _ _ _ _ _)
   | (with_reducible exact ih1 _ _ _ _ _ _ _ _ _ _ _ _ _ _ _ _ _ _ _ _ _ _ _ _)
   | (with_reducible exact ih2 _ _ _ _ _ _ _ _ _ _ _ _ _)
   | (with_reducible exact headgatekeep_Tables.mono _ _ _ _ _ _ _ _ _ _ _)
   | (with_reducible exact headgatelaw10_Large.mono _ _ _ _ _ _)
   | (with_reducible exact headgatelaw11_wakes.mono _)
   | (with_reducible exact headgateref11_Good.mono _ _ _ _ _ _)
   | (with_reducible exact headgateref11_Key.mono _ _ _ _ _ _ _)
   | (with_reducible exact resv_Do.mono _ _ _ _ _ _ _ _ _ _ _ _ _ _ _ _ _ _ _ _)
   | (with_reducible exact LeO.refl _)
   | (with_reducible exact LeO.none _)
   | (with_reducible refine LeO.ite ?_ ?_)
   | (with_reducible refine LeO.bind ?_ (fun _ => ?_))
   | exact ih0 _ _ _ _ _ _ _ _
   | exact ih1 _ _ _ _ _ _ _ _ _ _ _ _ _ _ _ _ _ _ _ _ _ _ _ _
   | exact ih2 _ _ _ _ _ _ _ _ _ _ _ _ _
   | exact headgatekeep_Tables.mono _ _ _ _ _ _ _ _ _ _ _
   | exact headgatelaw10_Large.mono _ _ _ _ _ _
   | exact headgatelaw11_wakes.mono _
   | exact headgateref11_Good.mono _ _ _ _ _ _
   | exact headgateref11_Key.mono _ _ _ _ _ _ _
   | exact resv_Do.mono _ _ _ _ _ _ _ _ _ _ _ _ _ _ _ _ _ _ _ _
   | exact LeO.none _
   | refine LeO.ite ?_ ?_
   | refine LeO.bind ?_ (fun _ => ?_)
theorem headgatelaw11_ResvTwice.mono : ∀ a0 a1 a2 a3 a4 a5 a6 k, LeO (headgatelaw11_ResvTwice.f k a0 a1 a2 a3 a4 a5 a6) (headgatelaw11_ResvTwice.f (k + 1) a0 a1 a2 a3 a4 a5 a6) := by
 intro a0 a1 a2 a3 a4 a5 a6 k
 obtain ⟨ih0, ih1, ih2⟩ := headgatelaw11_ResvTwice.mono_l k
 unfold headgatelaw11_ResvTwice.f
 repeat' first
   | (with_reducible exact ih0 _ _ _ _ _ _ _ _)
   | (with_reducible exact ih1 _ _ _ _ _ _ _ _ _ _ _ _ _ _ _ _ _ _ _ _ _ _ _ _)
   | (with_reducible exact ih2 _ _ _ _ _ _ _ _ _ _ _ _ _)
   | (with_reducible exact headgatekeep_Tables.mono _ _ _ _ _ _ _ _ _ _ _)
   | (with_reducible exact headgatelaw10_Large.mono _ _ _ _ _ _)
   | (with_reducible exact headgatelaw11_wakes.mono _)
   | (with_reducible exact headgateref11_Good.mono _ _ _ _ _ _)
   | (with_reducible exact headgateref11_Key.mono _ _ _ _ _ _ _)
   | (with_reducible exact resv_Do.mono _ _ _ _ _ _ _ _ _ _ _ _ _ _ _ _ _ _ _ _)
   | (with_reducible exact LeO.refl _)
   | (with_reducible exact LeO.none _)
   | (with_reducible refine LeO.ite ?_ ?_)
   | (with_reducible refine LeO.bind ?_ (fun _ => ?_))
   | exact ih0 _ _ _ _ _ _ _ _
   | exact ih1 _ _ _ _ _ _ _ _ _ _ _ _ _ _ _ _ _ _ _ _ _ _ _ _
   | exact ih2 _ _ _ _ _ _ _ _ _ _ _ _ _
   | exact headgatekeep_Tables.mono _ _ _ _ _ _ _ _ _ _ _
   | exact headgatelaw10_Large.mono _ _ _ _ _ _
   | exact headgatelaw11_wakes.mono _
   | exact headgateref11_Good.mono _ _ _ _ _ _
   | exact headgateref11_Key.mono _ _ _ _ _ _ _
   | exact resv_Do.mono _ _ _ _ _ _ _ _ _ _ _ _ _ _ _ _ _ _ _ _
   | exact LeO.none _
   | refine LeO.ite ?_ ?_
   | refine LeO.bind ?_ (fun _ => ?_)
theorem cf_ {w : World} {g b o j : Nat} {v : Value} (h : g ≠ b) : (w.setCell ⟨b, o, none⟩ v).cell? ⟨g, j, none⟩ = w.cell? ⟨g, j, none⟩ := cell_far (p := ⟨b, o, none⟩) h _
end Go.Proofs.YtjogkfcjlljjcaaDoor.P
