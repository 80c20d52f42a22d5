-- written by this session's patched copy of the printer (wip/tools/patch_print.py); Lean checks it
import Derived.Test.YtgphjijejoagcaaPx0
import Derived.Test.YtgphjijejoagcaaPx1
import Derived.Test.YtgphjijejoagcaaPx2
namespace Go.Proofs.Ytgphjijejoagcaa.P
open Go.RowKit Go.Proofs.YtgphjijejoagcaaW.PrintWords Go.Proofs.YtgphjijejoagcaaW.PrintLast Go.Proofs.YtgphjijejoagcaaW.PrintMore
attribute [local go_sem] max2_int min2_int max_two min_two max_three min_three max_four min_four   -- for this text's walks alone
set_option linter.unusedVariables false
set_option linter.unusedSimpArgs false

/-! ### headgateref03_AsIqn: function 18 -/
def headgateref03_AsIqn.f (k : Nat) (a0 : ByteArray) : Option (ByteArray × Int) := if 12 + a0.size ≤ 9223372036854775807 then ((headgateref03_Iqn.f k ((⟨#[105, 113, 110, 46, 50, 48, 50, 48, 45, 48, 49, 46]⟩ : ByteArray) ++ a0)).bind fun t119 => (if t119 = true then (some ((⟨#[105, 113, 110, 46, 50, 48, 50, 48, 45, 48, 49, 46]⟩ : ByteArray) ++ a0, 0)) else (some ((⟨#[]⟩ : ByteArray), 30)))) else (none)
theorem headgateref03_AsIqn.mono : ∀ a0 k, LeO (headgateref03_AsIqn.f k a0) (headgateref03_AsIqn.f (k + 1) a0) := by
  intro a0 k
  unfold headgateref03_AsIqn.f
  repeat' first
      | (with_reducible exact headgateref03_Iqn.mono _ _)
      | (with_reducible exact LeO.refl _)
      | (with_reducible exact LeO.none _)
      | (with_reducible refine LeO.ite ?_ ?_)
      | (with_reducible refine LeO.bind ?_ (fun _ => ?_))
      | exact headgateref03_Iqn.mono _ _
      | exact LeO.none _
      | refine LeO.ite ?_ ?_
      | refine LeO.bind ?_ (fun _ => ?_)
set_option maxHeartbeats 8000000 in
set_option maxRecDepth 100000 in
theorem headgateref03_AsIqn.calls (k : Nat) (a0 : ByteArray) (r1 : ByteArray) (r2 : Int) (w : World) (h : headgateref03_AsIqn.f k a0 = some (r1, r2)) :
    Calls Try.prog 18 #[.string a0] w fun e w' => e = .returned (.tuple #[.string r1, .int .i64 r2]) ∧ Drawn0 w w' := by
  have H : (if 12 + a0.size ≤ 9223372036854775807 then ((headgateref03_Iqn.f k ((⟨#[105, 113, 110, 46, 50, 48, 50, 48, 45, 48, 49, 46]⟩ : ByteArray) ++ a0)).bind fun t119 => (if t119 = true then (some ((⟨#[105, 113, 110, 46, 50, 48, 50, 48, 45, 48, 49, 46]⟩ : ByteArray) ++ a0, 0)) else (some ((⟨#[]⟩ : ByteArray), 30)))) else (none)) = some (r1, r2) := h
  clear h
  by_cases c2 : 12 + a0.size ≤ 9223372036854775807
  · rw [if_pos c2] at H
    have c2b0 := eq_true c2
    have c2b1 : decide (12 + a0.size ≤ 9223372036854775807) = true := decide_eq_true c2
    try have c2b2 : (9223372036854775807 < 12 + a0.size) = False := eq_false (Nat.not_lt.2 c2)
    replace H := Option.bind_eq_some_iff.mp H
    obtain ⟨t119, A30, H⟩ := H
    replace H : (if t119 = true then (some ((⟨#[105, 113, 110, 46, 50, 48, 50, 48, 45, 48, 49, 46]⟩ : ByteArray) ++ a0, 0)) else (some ((⟨#[]⟩ : ByteArray), 30))) = some (r1, r2) := H
    have A3 := Aside0.mk A30
    clear A30
    by_cases c4 : t119 = true
    · subst c4
      have H1 : (some ((⟨#[105, 113, 110, 46, 50, 48, 50, 48, 45, 48, 49, 46]⟩ : ByteArray) ++ a0, 0)) = some (r1, r2) := by rw [if_pos rfl] at H; exact H
      clear H
      have H := H1
      clear H1
      simp only [Option.some.injEq, Prod.mk.injEq] at H
      obtain ⟨rfl, rfl⟩ := H
      go_enter Try.func18, Try.ntmps18
      go_wp2_with (first | ((with_reducible refine gate_callee (f := 13) rfl ?_); refine goesL_ (some 8) rfl rfl Try.func13 (by kernel_rfl) rfl #[.string ((⟨#[105, 113, 110, 46, 50, 48, 50, 48, 45, 48, 49, 46]⟩ : ByteArray) ++ a0)] rfl (by (try simp only [List.map_toArray, List.map_cons, List.map_nil]); first | done | rfl | (simp only [List.length_drop, List.length_take]; rfl)) ?_; (with_reducible refine (headgateref03_Iqn.calls k ((⟨#[105, 113, 110, 46, 50, 48, 50, 48, 45, 48, 49, 46]⟩ : ByteArray) ++ a0) true _ A3.out).mono ?_); rintro e w' ⟨rfl, ⟨nd, rfl⟩⟩; refine ⟨_, rfl, ?_⟩))
      go_ret2
      exact ⟨by first | rfl | (simp; done) | (simp [*]; done), by repeat (first | exact Drawn0.refl _ | apply Drawn0.step)⟩
    · replace c4 := Bool.eq_false_iff.mpr c4
      subst c4
      have H1 : (some ((⟨#[]⟩ : ByteArray), 30)) = some (r1, r2) := by rw [if_neg (show ¬ (false = true) by decide)] at H; exact H
      clear H
      have H := H1
      clear H1
      simp only [Option.some.injEq, Prod.mk.injEq] at H
      obtain ⟨rfl, rfl⟩ := H
      go_enter Try.func18, Try.ntmps18
      go_wp2_with (first | ((with_reducible refine gate_callee (f := 13) rfl ?_); refine goesL_ (some 8) rfl rfl Try.func13 (by kernel_rfl) rfl #[.string ((⟨#[105, 113, 110, 46, 50, 48, 50, 48, 45, 48, 49, 46]⟩ : ByteArray) ++ a0)] rfl (by (try simp only [List.map_toArray, List.map_cons, List.map_nil]); first | done | rfl | (simp only [List.length_drop, List.length_take]; rfl)) ?_; (with_reducible refine (headgateref03_Iqn.calls k ((⟨#[105, 113, 110, 46, 50, 48, 50, 48, 45, 48, 49, 46]⟩ : ByteArray) ++ a0) false _ A3.out).mono ?_); rintro e w' ⟨rfl, ⟨nd, rfl⟩⟩; refine ⟨_, rfl, ?_⟩))
      go_ret2
      exact ⟨by first | rfl | (simp; done) | (simp [*]; done), by repeat (first | exact Drawn0.refl _ | apply Drawn0.step)⟩
  · rw [if_neg c2] at H
    exact absurd H (by simp)

/-! ### names_AsNqn: function 19 -/
def names_AsNqn.f (a0 : ByteArray) : Option (ByteArray × Int) :=
  if a0.size > 64 then some (⟨#[]⟩, 30)
  else (names_Nqn.f ((⟨#[110, 113, 110, 46, 50, 48, 50, 48, 45, 48, 49, 46]⟩ : ByteArray) ++ a0)).bind fun b => if b = true then some ((⟨#[110, 113, 110, 46, 50, 48, 50, 48, 45, 48, 49, 46]⟩ : ByteArray) ++ a0, 0) else some (⟨#[]⟩, 30)
def names_AsNqn.g (P a0 : ByteArray) : Option (ByteArray × Int) :=
  if a0.size > 64 then some (⟨#[]⟩, 30)
  else (names_Nqn.f (P ++ a0)).bind fun b => if b = true then some (P ++ a0, 0) else some (⟨#[]⟩, 30)
set_option maxHeartbeats 8000000 in
set_option maxRecDepth 100000 in
theorem names_AsNqn.inner (P a0 : ByteArray) (hz : P.size = 12) (r1 : ByteArray) (r2 : Int) (w : World) (h : names_AsNqn.g P a0 = some (r1, r2)) :
    Calls Try.prog 26 #[.string P, .string a0, .func (.func 14) #[] #[]] w fun e w' => e = .returned (.tuple #[.string r1, .int .i64 r2]) ∧ Below w.heap.size w w' := by
  have HB := Aside0.mk (Below.refl w.heap.size w)
  unfold names_AsNqn.g at h
  by_cases h1 : a0.size > 64
  · rw [if_pos h1] at h
    obtain ⟨rfl, rfl⟩ := Prod.mk.inj (Option.some.inj h)
    have d1 : decide (64 < a0.size) = true := decide_eq_true h1
    have d2 : decide ((64 : Int) < (a0.size : Int)) = true := decide_eq_true (by omega)
    clear h h1
    go_enter Try.func26, Try.ntmps26
    go_wp2
    go_ret2
    exact ⟨rfl, HB.out⟩
  · rw [if_neg h1] at h
    replace h := Option.bind_eq_some_iff.mp h
    obtain ⟨b, hb, h⟩ := h
    have HI := Aside0.mk hb
    clear hb
    have d1 : decide (64 < a0.size) = false := decide_eq_false h1
    have d2 : decide ((64 : Int) < (a0.size : Int)) = false := decide_eq_false (by omega)
    have hc0 : P.size + a0.size ≤ 9223372036854775807 := by omega
    have hc1 := eq_true hc0
    have hc2 : decide (P.size + a0.size ≤ 9223372036854775807) = true := decide_eq_true hc0
    have hc3 : (9223372036854775807 < P.size + a0.size) = False := eq_false (Nat.not_lt.2 hc0)
    have hc4 : decide (9223372036854775807 < P.size + a0.size) = false := decide_eq_false (Nat.not_lt.2 hc0)
    clear hz
    clear h1
    cases b
    · rw [if_neg (by decide)] at h
      obtain ⟨rfl, rfl⟩ := Prod.mk.inj (Option.some.inj h)
      clear h
      go_enter Try.func26, Try.ntmps26
      go_wp2_with (first
        | (go_at_call 14; refine (names_Nqn.calls _ false _ HI.out).mono ?_; rintro e w1 ⟨rfl, hb⟩; have n1_ := Aside0.mk (below_step HB.out hb); clear HB hb; have HB := n1_; clear n1_))
      go_ret2
      exact ⟨rfl, HB.out⟩
    · rw [if_pos rfl] at h
      obtain ⟨rfl, rfl⟩ := Prod.mk.inj (Option.some.inj h)
      clear h
      go_enter Try.func26, Try.ntmps26
      go_wp2_with (first
        | (go_at_call 14; refine (names_Nqn.calls _ true _ HI.out).mono ?_; rintro e w1 ⟨rfl, hb⟩; have n1_ := Aside0.mk (below_step HB.out hb); clear HB hb; have HB := n1_; clear n1_))
      go_ret2
      exact ⟨rfl, HB.out⟩
set_option maxHeartbeats 8000000 in
set_option maxRecDepth 100000 in
theorem names_AsNqn.calls (a0 : ByteArray) (r1 : ByteArray) (r2 : Int) (w : World) (h : names_AsNqn.f a0 = some (r1, r2)) :
    Calls Try.prog 19 #[.string a0] w fun e w' => e = .returned (.tuple #[.string r1, .int .i64 r2]) ∧ Below w.heap.size w w' := by
  have HB := Aside0.mk (Below.refl w.heap.size w)
  have HH := Aside0.mk h
  clear h
  go_enter Try.func19, Try.ntmps19
  go_wp2_with (first
    | (go_at_call 26; refine (names_AsNqn.inner _ a0 rfl r1 r2 _ HH.out).mono ?_; rintro e w1 ⟨rfl, hb⟩; have n1_ := Aside0.mk (below_step HB.out hb); clear HB hb; have HB := n1_; clear n1_))
  go_ret2
  exact ⟨rfl, HB.out⟩

/-! ### headgateref03_Nqn: function 15 -/
def headgateref03_Nqn.f (k : Nat) (a0 : ByteArray) : Option (Bool) := (headgateref03_dated.f k a0 (⟨#[110, 113, 110, 46]⟩ : ByteArray)).bind fun t120 => (some t120)
theorem headgateref03_Nqn.mono : ∀ a0 k, LeO (headgateref03_Nqn.f k a0) (headgateref03_Nqn.f (k + 1) a0) := by
  intro a0 k
  unfold headgateref03_Nqn.f
  repeat' first
      | (with_reducible exact headgateref03_dated.mono _ _ _)
      | (with_reducible exact LeO.refl _)
      | (with_reducible exact LeO.none _)
      | (with_reducible refine LeO.ite ?_ ?_)
      | (with_reducible refine LeO.bind ?_ (fun _ => ?_))
      | exact headgateref03_dated.mono _ _ _
      | exact LeO.none _
      | refine LeO.ite ?_ ?_
      | refine LeO.bind ?_ (fun _ => ?_)
set_option maxHeartbeats 8000000 in
set_option maxRecDepth 100000 in
theorem headgateref03_Nqn.calls (k : Nat) (a0 : ByteArray) (r : Bool) (w : World) (h : headgateref03_Nqn.f k a0 = some r) :
    Calls Try.prog 15 #[.string a0] w fun e w' => e = .returned (.bool r) ∧ Drawn0 w w' := by
  have H : ((headgateref03_dated.f k a0 (⟨#[110, 113, 110, 46]⟩ : ByteArray)).bind fun t120 => (some t120)) = some r := h
  clear h
  replace H := Option.bind_eq_some_iff.mp H
  obtain ⟨t120, A20, H⟩ := H
  replace H : (some t120) = some r := H
  have A2 := Aside0.mk A20
  clear A20
  obtain rfl := Option.some.inj H
  go_enter Try.func15, Try.ntmps15
  go_wp2_with (first | ((with_reducible refine gate_callee (f := 25) rfl ?_); refine goesL_ (some 4) rfl rfl Try.func25 (by kernel_rfl) rfl #[.string a0, .string (⟨#[110, 113, 110, 46]⟩ : ByteArray)] rfl (by (try simp only [List.map_toArray, List.map_cons, List.map_nil]); first | done | rfl | (simp only [List.length_drop, List.length_take]; rfl)) ?_; (with_reducible refine (headgateref03_dated.calls k a0 (⟨#[110, 113, 110, 46]⟩ : ByteArray) t120 _ A2.out).mono ?_); rintro e w' ⟨rfl, ⟨nd, rfl⟩⟩; refine ⟨_, rfl, ?_⟩))
  go_ret
  exact ⟨by first | rfl | (simp; done) | (simp [*]; done), by repeat (first | exact Drawn0.refl _ | apply Drawn0.step)⟩

/-! ### headgateref03_AsNqn: function 20 -/
def headgateref03_AsNqn.f (k : Nat) (a0 : ByteArray) : Option (ByteArray × Int) := if 12 + a0.size ≤ 9223372036854775807 then ((headgateref03_Nqn.f k ((⟨#[110, 113, 110, 46, 50, 48, 50, 48, 45, 48, 49, 46]⟩ : ByteArray) ++ a0)).bind fun t121 => (if t121 = true then (some ((⟨#[110, 113, 110, 46, 50, 48, 50, 48, 45, 48, 49, 46]⟩ : ByteArray) ++ a0, 0)) else (some ((⟨#[]⟩ : ByteArray), 30)))) else (none)
theorem headgateref03_AsNqn.mono : ∀ a0 k, LeO (headgateref03_AsNqn.f k a0) (headgateref03_AsNqn.f (k + 1) a0) := by
  intro a0 k
  unfold headgateref03_AsNqn.f
  repeat' first
      | (with_reducible exact headgateref03_Nqn.mono _ _)
      | (with_reducible exact LeO.refl _)
      | (with_reducible exact LeO.none _)
      | (with_reducible refine LeO.ite ?_ ?_)
      | (with_reducible refine LeO.bind ?_ (fun _ => ?_))
      | exact headgateref03_Nqn.mono _ _
      | exact LeO.none _
      | refine LeO.ite ?_ ?_
      | refine LeO.bind ?_ (fun _ => ?_)
set_option maxHeartbeats 8000000 in
set_option maxRecDepth 100000 in
theorem headgateref03_AsNqn.calls (k : Nat) (a0 : ByteArray) (r1 : ByteArray) (r2 : Int) (w : World) (h : headgateref03_AsNqn.f k a0 = some (r1, r2)) :
    Calls Try.prog 20 #[.string a0] w fun e w' => e = .returned (.tuple #[.string r1, .int .i64 r2]) ∧ Drawn0 w w' := by
  have H : (if 12 + a0.size ≤ 9223372036854775807 then ((headgateref03_Nqn.f k ((⟨#[110, 113, 110, 46, 50, 48, 50, 48, 45, 48, 49, 46]⟩ : ByteArray) ++ a0)).bind fun t121 => (if t121 = true then (some ((⟨#[110, 113, 110, 46, 50, 48, 50, 48, 45, 48, 49, 46]⟩ : ByteArray) ++ a0, 0)) else (some ((⟨#[]⟩ : ByteArray), 30)))) else (none)) = some (r1, r2) := h
  clear h
  by_cases c2 : 12 + a0.size ≤ 9223372036854775807
  · rw [if_pos c2] at H
    have c2b0 := eq_true c2
    have c2b1 : decide (12 + a0.size ≤ 9223372036854775807) = true := decide_eq_true c2
    try have c2b2 : (9223372036854775807 < 12 + a0.size) = False := eq_false (Nat.not_lt.2 c2)
    replace H := Option.bind_eq_some_iff.mp H
    obtain ⟨t121, A30, H⟩ := H
    replace H : (if t121 = true then (some ((⟨#[110, 113, 110, 46, 50, 48, 50, 48, 45, 48, 49, 46]⟩ : ByteArray) ++ a0, 0)) else (some ((⟨#[]⟩ : ByteArray), 30))) = some (r1, r2) := H
    have A3 := Aside0.mk A30
    clear A30
    by_cases c4 : t121 = true
    · subst c4
      have H1 : (some ((⟨#[110, 113, 110, 46, 50, 48, 50, 48, 45, 48, 49, 46]⟩ : ByteArray) ++ a0, 0)) = some (r1, r2) := by rw [if_pos rfl] at H; exact H
      clear H
      have H := H1
      clear H1
      simp only [Option.some.injEq, Prod.mk.injEq] at H
      obtain ⟨rfl, rfl⟩ := H
      go_enter Try.func20, Try.ntmps20
      go_wp2_with (first | ((with_reducible refine gate_callee (f := 15) rfl ?_); refine goesL_ (some 8) rfl rfl Try.func15 (by kernel_rfl) rfl #[.string ((⟨#[110, 113, 110, 46, 50, 48, 50, 48, 45, 48, 49, 46]⟩ : ByteArray) ++ a0)] rfl (by (try simp only [List.map_toArray, List.map_cons, List.map_nil]); first | done | rfl | (simp only [List.length_drop, List.length_take]; rfl)) ?_; (with_reducible refine (headgateref03_Nqn.calls k ((⟨#[110, 113, 110, 46, 50, 48, 50, 48, 45, 48, 49, 46]⟩ : ByteArray) ++ a0) true _ A3.out).mono ?_); rintro e w' ⟨rfl, ⟨nd, rfl⟩⟩; refine ⟨_, rfl, ?_⟩))
      go_ret2
      exact ⟨by first | rfl | (simp; done) | (simp [*]; done), by repeat (first | exact Drawn0.refl _ | apply Drawn0.step)⟩
    · replace c4 := Bool.eq_false_iff.mpr c4
      subst c4
      have H1 : (some ((⟨#[]⟩ : ByteArray), 30)) = some (r1, r2) := by rw [if_neg (show ¬ (false = true) by decide)] at H; exact H
      clear H
      have H := H1
      clear H1
      simp only [Option.some.injEq, Prod.mk.injEq] at H
      obtain ⟨rfl, rfl⟩ := H
      go_enter Try.func20, Try.ntmps20
      go_wp2_with (first | ((with_reducible refine gate_callee (f := 15) rfl ?_); refine goesL_ (some 8) rfl rfl Try.func15 (by kernel_rfl) rfl #[.string ((⟨#[110, 113, 110, 46, 50, 48, 50, 48, 45, 48, 49, 46]⟩ : ByteArray) ++ a0)] rfl (by (try simp only [List.map_toArray, List.map_cons, List.map_nil]); first | done | rfl | (simp only [List.length_drop, List.length_take]; rfl)) ?_; (with_reducible refine (headgateref03_Nqn.calls k ((⟨#[110, 113, 110, 46, 50, 48, 50, 48, 45, 48, 49, 46]⟩ : ByteArray) ++ a0) false _ A3.out).mono ?_); rintro e w' ⟨rfl, ⟨nd, rfl⟩⟩; refine ⟨_, rfl, ?_⟩))
      go_ret2
      exact ⟨by first | rfl | (simp; done) | (simp [*]; done), by repeat (first | exact Drawn0.refl _ | apply Drawn0.step)⟩
  · rw [if_neg c2] at H
    exact absurd H (by simp)

/-! ### headgatelaw03_NamesMakes: function 5 -/
def headgatelaw03_NamesMakes.f (k : Nat) (a0 : ByteArray) : Option (Bool) := if (a0.size : Int) > 20000 then ((headgatelaw03_wakes.f).bind fun t122 => (some t122)) else ((names_AsIqn.f a0).bind fun bt123 => ((headgateref03_AsIqn.f k a0).bind fun bt125 => ((names_AsNqn.f a0).bind fun bt127 => ((headgateref03_AsNqn.f k a0).bind fun bt129 => (if bt123.1.toList = bt125.1.toList then (if bt123.2 = bt125.2 then (if bt127.1.toList = bt129.1.toList then (if bt127.2 = bt129.2 then ((headgatelaw03_wakes.f).bind fun t131 => (some t131)) else (some false)) else (some false)) else (some false)) else (some false))))))
theorem headgatelaw03_NamesMakes.mono : ∀ a0 k, LeO (headgatelaw03_NamesMakes.f k a0) (headgatelaw03_NamesMakes.f (k + 1) a0) := by
  intro a0 k
  unfold headgatelaw03_NamesMakes.f
  repeat' first
      | (with_reducible exact headgateref03_AsIqn.mono _ _)
      | (with_reducible exact headgateref03_AsNqn.mono _ _)
      | (with_reducible exact LeO.refl _)
      | (with_reducible exact LeO.none _)
      | (with_reducible refine LeO.ite ?_ ?_)
      | (with_reducible refine LeO.bind ?_ (fun _ => ?_))
      | exact headgateref03_AsIqn.mono _ _
      | exact headgateref03_AsNqn.mono _ _
      | exact LeO.none _
      | refine LeO.ite ?_ ?_
      | refine LeO.bind ?_ (fun _ => ?_)
set_option maxHeartbeats 8000000 in
set_option maxRecDepth 100000 in
theorem headgatelaw03_NamesMakes.calls (k : Nat) (a0 : ByteArray) (r : Bool) (w : World) (hT : r = true) (h : headgatelaw03_NamesMakes.f k a0 = some r) :
    Calls Try.prog 5 #[.string a0] w fun e w' => e = .returned (.bool r) ∧ Below w.heap.size w w' := by
  have HT0 := Aside0.mk hT
  clear hT
  have HB := Aside0.mk (Below.refl w.heap.size w)
  have H : (if (a0.size : Int) > 20000 then ((headgatelaw03_wakes.f).bind fun t122 => (some t122)) else ((names_AsIqn.f a0).bind fun bt123 => ((headgateref03_AsIqn.f k a0).bind fun bt125 => ((names_AsNqn.f a0).bind fun bt127 => ((headgateref03_AsNqn.f k a0).bind fun bt129 => (if bt123.1.toList = bt125.1.toList then (if bt123.2 = bt125.2 then (if bt127.1.toList = bt129.1.toList then (if bt127.2 = bt129.2 then ((headgatelaw03_wakes.f).bind fun t131 => (some t131)) else (some false)) else (some false)) else (some false)) else (some false))))))) = some r := h
  clear h
  by_cases c2 : (a0.size : Int) > 20000
  · rw [if_pos c2] at H
    have c2b0 : decide (20000 < (a0.size : Int)) = true := decide_eq_true c2
    have c2b1 : decide (20000 < a0.size) = true := decide_eq_true (by omega)
    clear c2
    replace H := Option.bind_eq_some_iff.mp H
    obtain ⟨t122, A30, H⟩ := H
    replace H : (some t122) = some r := H
    have A3 := Aside0.mk A30
    clear A30
    obtain rfl := Option.some.inj H
    go_enter Try.func5, Try.ntmps5
    go_wp2_with (first | ((with_reducible refine gate_callee (f := 7) rfl ?_); refine goesL_ (some 14) rfl rfl Try.func7 (by kernel_rfl) rfl #[] rfl (by (try simp only [List.map_toArray, List.map_cons, List.map_nil]); first | done | rfl | (simp only [List.length_drop, List.length_take]; rfl)) ?_; (with_reducible refine (headgatelaw03_wakes.calls  t122 _ A3.out).mono ?_); rintro e w4 ⟨rfl, hb⟩; refine ⟨_, rfl, ?_⟩; have n0_ := Aside0.mk (below_step (by repeat (first | (with_reducible first | exact HB.out | apply below_alloc | apply pw_below_drewN | apply below_drew1) | exact HB.out)) hb); clear HB; have HB := n0_; clear n0_; (try clear hb); (try clear hb2); (try clear hk); (try clear hi)))
    go_ret
    exact ⟨by first | rfl | (simp [errW_none, errW_some] <;> rfl) | (simp [*, errW_none, errW_some] <;> rfl) | (simp [bt, *]; done) | (unfold bt; simp [*]; done), by repeat (first | (with_reducible first | exact HB.out | apply below_alloc | apply pw_below_drewN | apply below_drew1) | exact HB.out)⟩
  · rw [if_neg c2] at H
    have c2b0 : decide (20000 < (a0.size : Int)) = false := decide_eq_false c2
    have c2b1 : decide (20000 < a0.size) = false := decide_eq_false (by omega)
    clear c2
    replace H := Option.bind_eq_some_iff.mp H
    obtain ⟨⟨t123, t124⟩, A50, H⟩ := H
    replace H : ((headgateref03_AsIqn.f k a0).bind fun bt125 => ((names_AsNqn.f a0).bind fun bt127 => ((headgateref03_AsNqn.f k a0).bind fun bt129 => (if t123.toList = bt125.1.toList then (if t124 = bt125.2 then (if bt127.1.toList = bt129.1.toList then (if bt127.2 = bt129.2 then ((headgatelaw03_wakes.f).bind fun t131 => (some t131)) else (some false)) else (some false)) else (some false)) else (some false))))) = some r := H
    have A5 := Aside0.mk A50
    clear A50
    replace H := Option.bind_eq_some_iff.mp H
    obtain ⟨⟨t125, t126⟩, A60, H⟩ := H
    replace H : ((names_AsNqn.f a0).bind fun bt127 => ((headgateref03_AsNqn.f k a0).bind fun bt129 => (if t123.toList = t125.toList then (if t124 = t126 then (if bt127.1.toList = bt129.1.toList then (if bt127.2 = bt129.2 then ((headgatelaw03_wakes.f).bind fun t131 => (some t131)) else (some false)) else (some false)) else (some false)) else (some false)))) = some r := H
    have A6 := Aside0.mk A60
    clear A60
    replace H := Option.bind_eq_some_iff.mp H
    obtain ⟨⟨t127, t128⟩, A70, H⟩ := H
    replace H : ((headgateref03_AsNqn.f k a0).bind fun bt129 => (if t123.toList = t125.toList then (if t124 = t126 then (if t127.toList = bt129.1.toList then (if t128 = bt129.2 then ((headgatelaw03_wakes.f).bind fun t131 => (some t131)) else (some false)) else (some false)) else (some false)) else (some false))) = some r := H
    have A7 := Aside0.mk A70
    clear A70
    replace H := Option.bind_eq_some_iff.mp H
    obtain ⟨⟨t129, t130⟩, A80, H⟩ := H
    replace H : (if t123.toList = t125.toList then (if t124 = t126 then (if t127.toList = t129.toList then (if t128 = t130 then ((headgatelaw03_wakes.f).bind fun t131 => (some t131)) else (some false)) else (some false)) else (some false)) else (some false)) = some r := H
    have A8 := Aside0.mk A80
    clear A80
    by_cases c9 : t123.toList = t125.toList
    · rw [if_pos c9] at H
      have c9b0 : (t123.toList == t125.toList) = true := beq_iff_eq.mpr c9
      have c9b1 : (t123.toList != t125.toList) = false := bne_eq_false_iff_eq.mpr c9
      clear c9
      by_cases c10 : t124 = t126
      · rw [if_pos c10] at H
        have c10b0 : (t124 == t126) = true := beq_iff_eq.mpr c10
        have c10b1 : (t124 != t126) = false := bne_eq_false_iff_eq.mpr c10
        clear c10
        by_cases c11 : t127.toList = t129.toList
        · rw [if_pos c11] at H
          have c11b0 : (t127.toList == t129.toList) = true := beq_iff_eq.mpr c11
          have c11b1 : (t127.toList != t129.toList) = false := bne_eq_false_iff_eq.mpr c11
          clear c11
          by_cases c12 : t128 = t130
          · rw [if_pos c12] at H
            have c12b0 : (t128 == t130) = true := beq_iff_eq.mpr c12
            have c12b1 : (t128 != t130) = false := bne_eq_false_iff_eq.mpr c12
            clear c12
            replace H := Option.bind_eq_some_iff.mp H
            obtain ⟨t131, A130, H⟩ := H
            replace H : (some t131) = some r := H
            have A13 := Aside0.mk A130
            clear A130
            obtain rfl := Option.some.inj H
            go_enter Try.func5, Try.ntmps5
            go_wp2_with (first | ((with_reducible refine gate_callee (f := 17) rfl ?_); refine goesL_ (some 17) rfl rfl Try.func17 (by kernel_rfl) rfl #[.string a0] rfl (by (try simp only [List.map_toArray, List.map_cons, List.map_nil]); first | done | rfl | (simp only [List.length_drop, List.length_take]; rfl)) ?_; (with_reducible refine (names_AsIqn.calls a0 t123 t124 _ A5.out).mono ?_); rintro e w14 ⟨rfl, hb⟩; refine ⟨_, rfl, ?_⟩; have n0_ := Aside0.mk (below_step (by repeat (first | (with_reducible first | exact HB.out | apply below_alloc | apply pw_below_drewN | apply below_drew1) | exact HB.out)) hb); clear HB; have HB := n0_; clear n0_; (try clear hb); (try clear hb2); (try clear hk); (try clear hi)) | ((with_reducible refine gate_callee (f := 18) rfl ?_); refine goesL_ (some 22) rfl rfl Try.func18 (by kernel_rfl) rfl #[.string a0] rfl (by (try simp only [List.map_toArray, List.map_cons, List.map_nil]); first | done | rfl | (simp only [List.length_drop, List.length_take]; rfl)) ?_; (with_reducible refine (headgateref03_AsIqn.calls k a0 t125 t126 _ A6.out).mono ?_); rintro e w' ⟨rfl, ⟨nd, rfl⟩⟩; refine ⟨_, rfl, ?_⟩) | ((with_reducible refine gate_callee (f := 19) rfl ?_); refine goesL_ (some 27) rfl rfl Try.func19 (by kernel_rfl) rfl #[.string a0] rfl (by (try simp only [List.map_toArray, List.map_cons, List.map_nil]); first | done | rfl | (simp only [List.length_drop, List.length_take]; rfl)) ?_; (with_reducible refine (names_AsNqn.calls a0 t127 t128 _ A7.out).mono ?_); rintro e w15 ⟨rfl, hb⟩; refine ⟨_, rfl, ?_⟩; have n0_ := Aside0.mk (below_step (by repeat (first | (with_reducible first | exact HB.out | apply below_alloc | apply pw_below_drewN | apply below_drew1) | exact HB.out)) hb); clear HB; have HB := n0_; clear n0_; (try clear hb); (try clear hb2); (try clear hk); (try clear hi)) | ((with_reducible refine gate_callee (f := 20) rfl ?_); refine goesL_ (some 32) rfl rfl Try.func20 (by kernel_rfl) rfl #[.string a0] rfl (by (try simp only [List.map_toArray, List.map_cons, List.map_nil]); first | done | rfl | (simp only [List.length_drop, List.length_take]; rfl)) ?_; (with_reducible refine (headgateref03_AsNqn.calls k a0 t129 t130 _ A8.out).mono ?_); rintro e w' ⟨rfl, ⟨nd, rfl⟩⟩; refine ⟨_, rfl, ?_⟩) | (go_at_call 7; (with_reducible refine (headgatelaw03_wakes.calls  t131 _ A13.out).mono ?_); rintro e w16 ⟨rfl, hb⟩; have n0_ := Aside0.mk (below_step (by repeat (first | (with_reducible first | exact HB.out | apply below_alloc | apply pw_below_drewN | apply below_drew1) | exact HB.out)) hb); clear HB; have HB := n0_; clear n0_; (try clear hb); (try clear hb2); (try clear hk); (try clear hi)))
            go_ret
            exact ⟨by first | rfl | (simp [errW_none, errW_some] <;> rfl) | (simp [*, errW_none, errW_some] <;> rfl) | (simp [bt, *]; done) | (unfold bt; simp [*]; done), by repeat (first | (with_reducible first | exact HB.out | apply below_alloc | apply pw_below_drewN | apply below_drew1) | exact HB.out)⟩
          · rw [if_neg c12] at H
            have c12b0 : (t128 == t130) = false := beq_eq_false_iff_ne.mpr c12
            have c12b1 : (t128 != t130) = true := bne_iff_ne.mpr c12
            exact absurd ((Option.some.inj H).trans HT0.out) (by decide)
        · rw [if_neg c11] at H
          have c11b0 : (t127.toList == t129.toList) = false := beq_eq_false_iff_ne.mpr c11
          have c11b1 : (t127.toList != t129.toList) = true := bne_iff_ne.mpr c11
          exact absurd ((Option.some.inj H).trans HT0.out) (by decide)
      · rw [if_neg c10] at H
        have c10b0 : (t124 == t126) = false := beq_eq_false_iff_ne.mpr c10
        have c10b1 : (t124 != t126) = true := bne_iff_ne.mpr c10
        exact absurd ((Option.some.inj H).trans HT0.out) (by decide)
    · rw [if_neg c9] at H
      have c9b0 : (t123.toList == t125.toList) = false := beq_eq_false_iff_ne.mpr c9
      have c9b1 : (t123.toList != t125.toList) = true := bne_iff_ne.mpr c9
      exact absurd ((Option.some.inj H).trans HT0.out) (by decide)

/-! ### headgatelaw03_NamesBack: function 6 -/
def headgatelaw03_NamesBack.j0 : Nat → ByteArray → ByteArray → Int → ByteArray → Int → Bool → Option (Bool)
  | 0, _, _, _, _, _, _ => none
  | k + 1, x0, x3, x4, x5, x6, x30 => if x30 = true then (if x4 = 30 then (if x6 = 30 then (if x3.toList = ([] : List UInt8) then (if x5.toList = ([] : List UInt8) then ((headgatelaw03_wakes.f).bind fun t137 => (some t137)) else (some false)) else (some false)) else (some false)) else (some false)) else ((names_Host.f x3).bind fun bt138 => ((names_Host.f x5).bind fun bt140 => (if bt138.2 = 0 then (if bt140.2 = 0 then (if bt138.1.toList = x0.toList then (if bt140.1.toList = x0.toList then ((names_Iqn.f x3).bind fun t142 => (if t142 = true then ((names_Nqn.f x5).bind fun t143 => (if t143 = true then ((names_Iqn.f x5).bind fun t144 => (if t144 = true then (some false) else ((names_Nqn.f x3).bind fun t145 => (if t145 = true then (some false) else ((headgatelaw03_wakes.f).bind fun t146 => (some t146)))))) else (some false))) else (some false))) else (some false)) else (some false)) else (some false)) else (some false))))
def headgatelaw03_NamesBack.f (k : Nat) (a0 : ByteArray) : Option (Bool) := if (a0.size : Int) > 20000 then ((headgatelaw03_wakes.f).bind fun t132 => (some t132)) else ((names_AsIqn.f a0).bind fun bt133 => ((names_AsNqn.f a0).bind fun bt135 => (if bt133.2 = 0 then (headgatelaw03_NamesBack.j0 k a0 bt133.1 bt133.2 bt135.1 bt135.2 (bt135.2 != 0)) else (headgatelaw03_NamesBack.j0 k a0 bt133.1 bt133.2 bt135.1 bt135.2 true))))
theorem headgatelaw03_NamesBack.mono_l : ∀ k, (∀ y0 y1 y2 y3 y4 y5, LeO (headgatelaw03_NamesBack.j0 k y0 y1 y2 y3 y4 y5) (headgatelaw03_NamesBack.j0 (k + 1) y0 y1 y2 y3 y4 y5))
  | 0 => fun _ _ _ _ _ _ r h => by simp [headgatelaw03_NamesBack.j0] at h
  | k + 1 => by
    have ih0 := headgatelaw03_NamesBack.mono_l k
    · intro y0 y1 y2 y3 y4 y5
      unfold headgatelaw03_NamesBack.j0
      repeat' first
      | (with_reducible exact ih0 _ _ _ _ _ _)
      | (with_reducible exact LeO.refl _)
      | (with_reducible exact LeO.none _)
      | (with_reducible refine LeO.ite ?_ ?_)
      | (with_reducible refine LeO.bind ?_ (fun _ => ?_))
      | exact ih0 _ _ _ _ _ _
      | exact LeO.none _
      | refine LeO.ite ?_ ?_
      | refine LeO.bind ?_ (fun _ => ?_)
theorem headgatelaw03_NamesBack.mono : ∀ a0 k, LeO (headgatelaw03_NamesBack.f k a0) (headgatelaw03_NamesBack.f (k + 1) a0) := by
  intro a0 k
  have ih0 := headgatelaw03_NamesBack.mono_l k
  unfold headgatelaw03_NamesBack.f
  repeat' first
      | (with_reducible exact ih0 _ _ _ _ _ _)
      | (with_reducible exact LeO.refl _)
      | (with_reducible exact LeO.none _)
      | (with_reducible refine LeO.ite ?_ ?_)
      | (with_reducible refine LeO.bind ?_ (fun _ => ?_))
      | exact ih0 _ _ _ _ _ _
      | exact LeO.none _
      | refine LeO.ite ?_ ?_
      | refine LeO.bind ?_ (fun _ => ?_)
set_option maxHeartbeats 8000000 in
set_option maxRecDepth 100000 in
theorem headgatelaw03_NamesBack.calls (k : Nat) (a0 : ByteArray) (r : Bool) (w : World) (hT : r = true) (h : headgatelaw03_NamesBack.f k a0 = some r) :
    Calls Try.prog 6 #[.string a0] w fun e w' => e = .returned (.bool r) ∧ Below w.heap.size w w' := by
  have HT0 := Aside0.mk hT
  clear hT
  have HB := Aside0.mk (Below.refl w.heap.size w)
  have H : (if (a0.size : Int) > 20000 then ((headgatelaw03_wakes.f).bind fun t132 => (some t132)) else ((names_AsIqn.f a0).bind fun bt133 => ((names_AsNqn.f a0).bind fun bt135 => (if bt133.2 = 0 then (headgatelaw03_NamesBack.j0 k a0 bt133.1 bt133.2 bt135.1 bt135.2 (bt135.2 != 0)) else (headgatelaw03_NamesBack.j0 k a0 bt133.1 bt133.2 bt135.1 bt135.2 true))))) = some r := h
  clear h
  by_cases c2 : (a0.size : Int) > 20000
  · rw [if_pos c2] at H
    have c2b0 : decide (20000 < (a0.size : Int)) = true := decide_eq_true c2
    have c2b1 : decide (20000 < a0.size) = true := decide_eq_true (by omega)
    clear c2
    replace H := Option.bind_eq_some_iff.mp H
    obtain ⟨t132, A30, H⟩ := H
    replace H : (some t132) = some r := H
    have A3 := Aside0.mk A30
    clear A30
    obtain rfl := Option.some.inj H
    go_enter Try.func6, Try.ntmps6
    go_wp2_with (first | ((with_reducible refine gate_callee (f := 7) rfl ?_); refine goesL_ (some 14) rfl rfl Try.func7 (by kernel_rfl) rfl #[] rfl (by (try simp only [List.map_toArray, List.map_cons, List.map_nil]); first | done | rfl | (simp only [List.length_drop, List.length_take]; rfl)) ?_; (with_reducible refine (headgatelaw03_wakes.calls  t132 _ A3.out).mono ?_); rintro e w4 ⟨rfl, hb⟩; refine ⟨_, rfl, ?_⟩; have n0_ := Aside0.mk (below_step (by repeat (first | (with_reducible first | exact HB.out | apply below_alloc | apply pw_below_drewN | apply below_drew1) | exact HB.out)) hb); clear HB; have HB := n0_; clear n0_; (try clear hb); (try clear hb2); (try clear hk); (try clear hi)))
    go_ret
    exact ⟨by first | rfl | (simp [errW_none, errW_some] <;> rfl) | (simp [*, errW_none, errW_some] <;> rfl) | (simp [bt, *]; done) | (unfold bt; simp [*]; done), by repeat (first | (with_reducible first | exact HB.out | apply below_alloc | apply pw_below_drewN | apply below_drew1) | exact HB.out)⟩
  · rw [if_neg c2] at H
    have c2b0 : decide (20000 < (a0.size : Int)) = false := decide_eq_false c2
    have c2b1 : decide (20000 < a0.size) = false := decide_eq_false (by omega)
    clear c2
    replace H := Option.bind_eq_some_iff.mp H
    obtain ⟨⟨t133, t134⟩, A50, H⟩ := H
    replace H : ((names_AsNqn.f a0).bind fun bt135 => (if t134 = 0 then (headgatelaw03_NamesBack.j0 k a0 t133 t134 bt135.1 bt135.2 (bt135.2 != 0)) else (headgatelaw03_NamesBack.j0 k a0 t133 t134 bt135.1 bt135.2 true))) = some r := H
    have A5 := Aside0.mk A50
    clear A50
    replace H := Option.bind_eq_some_iff.mp H
    obtain ⟨⟨t135, t136⟩, A60, H⟩ := H
    replace H : (if t134 = 0 then (headgatelaw03_NamesBack.j0 k a0 t133 t134 t135 t136 (t136 != 0)) else (headgatelaw03_NamesBack.j0 k a0 t133 t134 t135 t136 true)) = some r := H
    have A6 := Aside0.mk A60
    clear A60
    have HC7 := Aside0.mk H
    clear H
    go_enter Try.func6, Try.ntmps6
    go_upto_region 5 with (first | ((with_reducible refine gate_callee (f := 17) rfl ?_); refine goesL_ (some 17) rfl rfl Try.func17 (by kernel_rfl) rfl #[.string a0] rfl (by (try simp only [List.map_toArray, List.map_cons, List.map_nil]); first | done | rfl | (simp only [List.length_drop, List.length_take]; rfl)) ?_; (with_reducible refine (names_AsIqn.calls a0 t133 t134 _ A5.out).mono ?_); rintro e w8 ⟨rfl, hb⟩; refine ⟨_, rfl, ?_⟩; have n0_ := Aside0.mk (below_step (by repeat (first | (with_reducible first | exact HB.out | apply below_alloc | apply pw_below_drewN | apply below_drew1) | exact HB.out)) hb); clear HB; have HB := n0_; clear n0_; (try clear hb); (try clear hb2); (try clear hk); (try clear hi)) | ((with_reducible refine gate_callee (f := 19) rfl ?_); refine goesL_ (some 22) rfl rfl Try.func19 (by kernel_rfl) rfl #[.string a0] rfl (by (try simp only [List.map_toArray, List.map_cons, List.map_nil]); first | done | rfl | (simp only [List.length_drop, List.length_take]; rfl)) ?_; (with_reducible refine (names_AsNqn.calls a0 t135 t136 _ A6.out).mono ?_); rintro e w9 ⟨rfl, hb⟩; refine ⟨_, rfl, ?_⟩; have n0_ := Aside0.mk (below_step (by repeat (first | (with_reducible first | exact HB.out | apply below_alloc | apply pw_below_drewN | apply below_drew1) | exact HB.out)) hb); clear HB; have HB := n0_; clear n0_; (try clear hb); (try clear hb2); (try clear hk); (try clear hi)))
    (try simp only [Act.put, List.setIfInBounds_toArray, List.set_cons_zero, List.set_cons_succ])
    go_cut [30] (fun v30 wc => ∃ (kq : Nat) (x30_6 : Bool), v30 = .bool x30_6 ∧ Aside0 (headgatelaw03_NamesBack.j0 kq a0 t133 t134 t135 t136 x30_6 = some r) ∧ Aside0 (kq ≤ k) ∧ Aside0 (Below w.heap.size w wc))
    case first =>
      have H := HC7.out
      clear HC7
      by_cases c10 : t134 = 0
      · rw [if_pos c10] at H
        have c10b0 : (t134 == 0) = true := beq_iff_eq.mpr c10
        have c10b1 : (t134 != 0) = false := bne_eq_false_iff_eq.mpr c10
        clear c10
        (first | rw [c10b0] | (simp only [i64_w, i32_w]; rw [c10b0]) | skip)
        have H' := Aside0.mk H
        clear H
        go_wp2
        go_meet
        case rel => exact ⟨_, ((t136 != 0)), (by first | rfl | (simp; done) | (simp [*]; done)), H', ⟨by first | omega | exact Nat.le_refl _⟩, ⟨by repeat (first | (with_reducible first | exact HB.out | apply below_alloc | apply pw_below_drewN | apply below_drew1) | exact HB.out)⟩⟩
      · rw [if_neg c10] at H
        have c10b0 : (t134 == 0) = false := beq_eq_false_iff_ne.mpr c10
        have c10b1 : (t134 != 0) = true := bne_iff_ne.mpr c10
        (first | rw [c10b0] | (simp only [i64_w, i32_w]; rw [c10b0]) | skip)
        have H' := Aside0.mk H
        clear H
        go_wp2
        go_meet
        case rel => exact ⟨_, (true), (by first | rfl | (simp; done) | (simp [*]; done)), H', ⟨by first | omega | exact Nat.le_refl _⟩, ⟨by repeat (first | (with_reducible first | exact HB.out | apply below_alloc | apply pw_below_drewN | apply below_drew1) | exact HB.out)⟩⟩
    case rest =>
      clear HC7
      try clear c1
      try clear c2
      try clear c2b0
      try clear c2b1
      try clear p2
      try clear c6
      try clear c7
      try clear c10
      try clear c10b0
      try clear c10b1
      obtain ⟨kq, x30_6, rfl, HA, HJ6, HB⟩ := hcut
      cases kq with
      | zero => exact absurd HA.out (by simp [headgatelaw03_NamesBack.j0])
      | succ kj6 =>
        have H := HA.out
        clear HA
        simp only [headgatelaw03_NamesBack.j0] at H
        by_cases c11 : x30_6 = true
        · subst c11
          have H1 : (if t134 = 30 then (if t136 = 30 then (if t133.toList = ([] : List UInt8) then (if t135.toList = ([] : List UInt8) then ((headgatelaw03_wakes.f).bind fun t137 => (some t137)) else (some false)) else (some false)) else (some false)) else (some false)) = some r := by rw [if_pos rfl] at H; exact H
          clear H
          have H := H1
          clear H1
          by_cases c12 : t134 = 30
          · rw [if_pos c12] at H
            have c12b0 : (t134 == 30) = true := beq_iff_eq.mpr c12
            have c12b1 : (t134 != 30) = false := bne_eq_false_iff_eq.mpr c12
            clear c12
            by_cases c13 : t136 = 30
            · rw [if_pos c13] at H
              have c13b0 : (t136 == 30) = true := beq_iff_eq.mpr c13
              have c13b1 : (t136 != 30) = false := bne_eq_false_iff_eq.mpr c13
              clear c13
              by_cases c14 : t133.toList = ([] : List UInt8)
              · rw [if_pos c14] at H
                have c14b0 : (t133.toList == ([] : List UInt8)) = true := beq_iff_eq.mpr c14
                have c14b1 : (t133.toList != ([] : List UInt8)) = false := bne_eq_false_iff_eq.mpr c14
                (try (have c14b2 : (t133 = ByteArray.empty) = True := eq_true (by have h_ := c14; rw [ByteArray.toList_eq] at h_; exact ByteArray.ext (Array.toList_eq_nil_iff.mp h_))))
                clear c14
                by_cases c15 : t135.toList = ([] : List UInt8)
                · rw [if_pos c15] at H
                  have c15b0 : (t135.toList == ([] : List UInt8)) = true := beq_iff_eq.mpr c15
                  have c15b1 : (t135.toList != ([] : List UInt8)) = false := bne_eq_false_iff_eq.mpr c15
                  (try (have c15b2 : (t135 = ByteArray.empty) = True := eq_true (by have h_ := c15; rw [ByteArray.toList_eq] at h_; exact ByteArray.ext (Array.toList_eq_nil_iff.mp h_))))
                  clear c15
                  replace H := Option.bind_eq_some_iff.mp H
                  obtain ⟨t137, A160, H⟩ := H
                  replace H : (some t137) = some r := H
                  have A16 := Aside0.mk A160
                  clear A160
                  obtain rfl := Option.some.inj H
                  go_wp2_with (first | (go_at_call 7; (with_reducible refine (headgatelaw03_wakes.calls  t137 _ A16.out).mono ?_); rintro e w17 ⟨rfl, hb⟩; have n0_ := Aside0.mk (below_step (by repeat (first | (with_reducible first | exact HB.out | apply below_alloc | apply pw_below_drewN | apply below_drew1) | exact HB.out)) hb); clear HB; have HB := n0_; clear n0_; (try clear hb); (try clear hb2); (try clear hk); (try clear hi)))
                  go_ret
                  exact ⟨by first | rfl | (simp [errW_none, errW_some] <;> rfl) | (simp [*, errW_none, errW_some] <;> rfl) | (simp [bt, *]; done) | (unfold bt; simp [*]; done), by repeat (first | (with_reducible first | exact HB.out | apply below_alloc | apply pw_below_drewN | apply below_drew1) | exact HB.out)⟩
                · rw [if_neg c15] at H
                  have c15b0 : (t135.toList == ([] : List UInt8)) = false := beq_eq_false_iff_ne.mpr c15
                  have c15b1 : (t135.toList != ([] : List UInt8)) = true := bne_iff_ne.mpr c15
                  (try (have c15b2 : (t135 = ByteArray.empty) = False := eq_false (fun h_ => c15 (by rw [h_, ByteArray.toList_eq]; rfl))))
                  exact absurd ((Option.some.inj H).trans HT0.out) (by decide)
              · rw [if_neg c14] at H
                have c14b0 : (t133.toList == ([] : List UInt8)) = false := beq_eq_false_iff_ne.mpr c14
                have c14b1 : (t133.toList != ([] : List UInt8)) = true := bne_iff_ne.mpr c14
                (try (have c14b2 : (t133 = ByteArray.empty) = False := eq_false (fun h_ => c14 (by rw [h_, ByteArray.toList_eq]; rfl))))
                exact absurd ((Option.some.inj H).trans HT0.out) (by decide)
            · rw [if_neg c13] at H
              have c13b0 : (t136 == 30) = false := beq_eq_false_iff_ne.mpr c13
              have c13b1 : (t136 != 30) = true := bne_iff_ne.mpr c13
              exact absurd ((Option.some.inj H).trans HT0.out) (by decide)
          · rw [if_neg c12] at H
            have c12b0 : (t134 == 30) = false := beq_eq_false_iff_ne.mpr c12
            have c12b1 : (t134 != 30) = true := bne_iff_ne.mpr c12
            exact absurd ((Option.some.inj H).trans HT0.out) (by decide)
        · replace c11 := Bool.eq_false_iff.mpr c11
          subst c11
          have H1 : ((names_Host.f t133).bind fun bt138 => ((names_Host.f t135).bind fun bt140 => (if bt138.2 = 0 then (if bt140.2 = 0 then (if bt138.1.toList = a0.toList then (if bt140.1.toList = a0.toList then ((names_Iqn.f t133).bind fun t142 => (if t142 = true then ((names_Nqn.f t135).bind fun t143 => (if t143 = true then ((names_Iqn.f t135).bind fun t144 => (if t144 = true then (some false) else ((names_Nqn.f t133).bind fun t145 => (if t145 = true then (some false) else ((headgatelaw03_wakes.f).bind fun t146 => (some t146)))))) else (some false))) else (some false))) else (some false)) else (some false)) else (some false)) else (some false)))) = some r := by rw [if_neg (show ¬ (false = true) by decide)] at H; exact H
          clear H
          have H := H1
          clear H1
          replace H := Option.bind_eq_some_iff.mp H
          obtain ⟨⟨t138, t139⟩, A180, H⟩ := H
          replace H : ((names_Host.f t135).bind fun bt140 => (if t139 = 0 then (if bt140.2 = 0 then (if t138.toList = a0.toList then (if bt140.1.toList = a0.toList then ((names_Iqn.f t133).bind fun t142 => (if t142 = true then ((names_Nqn.f t135).bind fun t143 => (if t143 = true then ((names_Iqn.f t135).bind fun t144 => (if t144 = true then (some false) else ((names_Nqn.f t133).bind fun t145 => (if t145 = true then (some false) else ((headgatelaw03_wakes.f).bind fun t146 => (some t146)))))) else (some false))) else (some false))) else (some false)) else (some false)) else (some false)) else (some false))) = some r := H
          have A18 := Aside0.mk A180
          clear A180
          replace H := Option.bind_eq_some_iff.mp H
          obtain ⟨⟨t140, t141⟩, A190, H⟩ := H
          replace H : (if t139 = 0 then (if t141 = 0 then (if t138.toList = a0.toList then (if t140.toList = a0.toList then ((names_Iqn.f t133).bind fun t142 => (if t142 = true then ((names_Nqn.f t135).bind fun t143 => (if t143 = true then ((names_Iqn.f t135).bind fun t144 => (if t144 = true then (some false) else ((names_Nqn.f t133).bind fun t145 => (if t145 = true then (some false) else ((headgatelaw03_wakes.f).bind fun t146 => (some t146)))))) else (some false))) else (some false))) else (some false)) else (some false)) else (some false)) else (some false)) = some r := H
          have A19 := Aside0.mk A190
          clear A190
          by_cases c20 : t139 = 0
          · rw [if_pos c20] at H
            have c20b0 : (t139 == 0) = true := beq_iff_eq.mpr c20
            have c20b1 : (t139 != 0) = false := bne_eq_false_iff_eq.mpr c20
            clear c20
            by_cases c21 : t141 = 0
            · rw [if_pos c21] at H
              have c21b0 : (t141 == 0) = true := beq_iff_eq.mpr c21
              have c21b1 : (t141 != 0) = false := bne_eq_false_iff_eq.mpr c21
              clear c21
              by_cases c22 : t138.toList = a0.toList
              · rw [if_pos c22] at H
                have c22b0 : (t138.toList == a0.toList) = true := beq_iff_eq.mpr c22
                have c22b1 : (t138.toList != a0.toList) = false := bne_eq_false_iff_eq.mpr c22
                clear c22
                by_cases c23 : t140.toList = a0.toList
                · rw [if_pos c23] at H
                  have c23b0 : (t140.toList == a0.toList) = true := beq_iff_eq.mpr c23
                  have c23b1 : (t140.toList != a0.toList) = false := bne_eq_false_iff_eq.mpr c23
                  clear c23
                  replace H := Option.bind_eq_some_iff.mp H
                  obtain ⟨t142, A240, H⟩ := H
                  replace H : (if t142 = true then ((names_Nqn.f t135).bind fun t143 => (if t143 = true then ((names_Iqn.f t135).bind fun t144 => (if t144 = true then (some false) else ((names_Nqn.f t133).bind fun t145 => (if t145 = true then (some false) else ((headgatelaw03_wakes.f).bind fun t146 => (some t146)))))) else (some false))) else (some false)) = some r := H
                  have A24 := Aside0.mk A240
                  clear A240
                  by_cases c25 : t142 = true
                  · subst c25
                    have H1 : ((names_Nqn.f t135).bind fun t143 => (if t143 = true then ((names_Iqn.f t135).bind fun t144 => (if t144 = true then (some false) else ((names_Nqn.f t133).bind fun t145 => (if t145 = true then (some false) else ((headgatelaw03_wakes.f).bind fun t146 => (some t146)))))) else (some false))) = some r := by rw [if_pos rfl] at H; exact H
                    clear H
                    have H := H1
                    clear H1
                    replace H := Option.bind_eq_some_iff.mp H
                    obtain ⟨t143, A260, H⟩ := H
                    replace H : (if t143 = true then ((names_Iqn.f t135).bind fun t144 => (if t144 = true then (some false) else ((names_Nqn.f t133).bind fun t145 => (if t145 = true then (some false) else ((headgatelaw03_wakes.f).bind fun t146 => (some t146)))))) else (some false)) = some r := H
                    have A26 := Aside0.mk A260
                    clear A260
                    by_cases c27 : t143 = true
                    · subst c27
                      have H1 : ((names_Iqn.f t135).bind fun t144 => (if t144 = true then (some false) else ((names_Nqn.f t133).bind fun t145 => (if t145 = true then (some false) else ((headgatelaw03_wakes.f).bind fun t146 => (some t146)))))) = some r := by rw [if_pos rfl] at H; exact H
                      clear H
                      have H := H1
                      clear H1
                      replace H := Option.bind_eq_some_iff.mp H
                      obtain ⟨t144, A280, H⟩ := H
                      replace H : (if t144 = true then (some false) else ((names_Nqn.f t133).bind fun t145 => (if t145 = true then (some false) else ((headgatelaw03_wakes.f).bind fun t146 => (some t146))))) = some r := H
                      have A28 := Aside0.mk A280
                      clear A280
                      by_cases c29 : t144 = true
                      · subst c29
                        have H1 : (some false) = some r := by rw [if_pos rfl] at H; exact H
                        clear H
                        have H := H1
                        clear H1
                        exact absurd ((Option.some.inj H).trans HT0.out) (by decide)
                      · replace c29 := Bool.eq_false_iff.mpr c29
                        subst c29
                        have H1 : ((names_Nqn.f t133).bind fun t145 => (if t145 = true then (some false) else ((headgatelaw03_wakes.f).bind fun t146 => (some t146)))) = some r := by rw [if_neg (show ¬ (false = true) by decide)] at H; exact H
                        clear H
                        have H := H1
                        clear H1
                        replace H := Option.bind_eq_some_iff.mp H
                        obtain ⟨t145, A300, H⟩ := H
                        replace H : (if t145 = true then (some false) else ((headgatelaw03_wakes.f).bind fun t146 => (some t146))) = some r := H
                        have A30 := Aside0.mk A300
                        clear A300
                        by_cases c31 : t145 = true
                        · subst c31
                          have H1 : (some false) = some r := by rw [if_pos rfl] at H; exact H
                          clear H
                          have H := H1
                          clear H1
                          exact absurd ((Option.some.inj H).trans HT0.out) (by decide)
                        · replace c31 := Bool.eq_false_iff.mpr c31
                          subst c31
                          have H1 : ((headgatelaw03_wakes.f).bind fun t146 => (some t146)) = some r := by rw [if_neg (show ¬ (false = true) by decide)] at H; exact H
                          clear H
                          have H := H1
                          clear H1
                          replace H := Option.bind_eq_some_iff.mp H
                          obtain ⟨t146, A320, H⟩ := H
                          replace H : (some t146) = some r := H
                          have A32 := Aside0.mk A320
                          clear A320
                          obtain rfl := Option.some.inj H
                          go_wp2_with (first | ((with_reducible refine gate_callee (f := 8) rfl ?_); refine goesL_ (some 50) rfl rfl Try.func8 (by kernel_rfl) rfl #[.string t133] rfl (by (try simp only [List.map_toArray, List.map_cons, List.map_nil]); first | done | rfl | (simp only [List.length_drop, List.length_take]; rfl)) ?_; (with_reducible refine (names_Host.calls t133 t138 t139 _ A18.out).mono ?_); rintro e w33 ⟨rfl, hb⟩; refine ⟨_, rfl, ?_⟩; have n0_ := Aside0.mk (below_step (by repeat (first | (with_reducible first | exact HB.out | apply below_alloc | apply pw_below_drewN | apply below_drew1) | exact HB.out)) hb); clear HB; have HB := n0_; clear n0_; (try clear hb); (try clear hb2); (try clear hk); (try clear hi)) | ((with_reducible refine gate_callee (f := 8) rfl ?_); refine goesL_ (some 55) rfl rfl Try.func8 (by kernel_rfl) rfl #[.string t135] rfl (by (try simp only [List.map_toArray, List.map_cons, List.map_nil]); first | done | rfl | (simp only [List.length_drop, List.length_take]; rfl)) ?_; (with_reducible refine (names_Host.calls t135 t140 t141 _ A19.out).mono ?_); rintro e w34 ⟨rfl, hb⟩; refine ⟨_, rfl, ?_⟩; have n0_ := Aside0.mk (below_step (by repeat (first | (with_reducible first | exact HB.out | apply below_alloc | apply pw_below_drewN | apply below_drew1) | exact HB.out)) hb); clear HB; have HB := n0_; clear n0_; (try clear hb); (try clear hb2); (try clear hk); (try clear hi)) | (go_at_call 12; (with_reducible refine (names_Iqn.calls t133 true _ A24.out).mono ?_); rintro e w35 ⟨rfl, hb⟩; have n0_ := Aside0.mk (below_step (by repeat (first | (with_reducible first | exact HB.out | apply below_alloc | apply pw_below_drewN | apply below_drew1) | exact HB.out)) hb); clear HB; have HB := n0_; clear n0_; (try clear hb); (try clear hb2); (try clear hk); (try clear hi)) | (go_at_call 14; (with_reducible refine (names_Nqn.calls t135 true _ A26.out).mono ?_); rintro e w36 ⟨rfl, hb⟩; have n0_ := Aside0.mk (below_step (by repeat (first | (with_reducible first | exact HB.out | apply below_alloc | apply pw_below_drewN | apply below_drew1) | exact HB.out)) hb); clear HB; have HB := n0_; clear n0_; (try clear hb); (try clear hb2); (try clear hk); (try clear hi)) | (go_at_call 12; (with_reducible refine (names_Iqn.calls t135 false _ A28.out).mono ?_); rintro e w37 ⟨rfl, hb⟩; have n0_ := Aside0.mk (below_step (by repeat (first | (with_reducible first | exact HB.out | apply below_alloc | apply pw_below_drewN | apply below_drew1) | exact HB.out)) hb); clear HB; have HB := n0_; clear n0_; (try clear hb); (try clear hb2); (try clear hk); (try clear hi)) | (go_at_call 14; (with_reducible refine (names_Nqn.calls t133 false _ A30.out).mono ?_); rintro e w38 ⟨rfl, hb⟩; have n0_ := Aside0.mk (below_step (by repeat (first | (with_reducible first | exact HB.out | apply below_alloc | apply pw_below_drewN | apply below_drew1) | exact HB.out)) hb); clear HB; have HB := n0_; clear n0_; (try clear hb); (try clear hb2); (try clear hk); (try clear hi)) | (go_at_call 7; (with_reducible refine (headgatelaw03_wakes.calls  t146 _ A32.out).mono ?_); rintro e w39 ⟨rfl, hb⟩; have n0_ := Aside0.mk (below_step (by repeat (first | (with_reducible first | exact HB.out | apply below_alloc | apply pw_below_drewN | apply below_drew1) | exact HB.out)) hb); clear HB; have HB := n0_; clear n0_; (try clear hb); (try clear hb2); (try clear hk); (try clear hi)))
                          go_ret
                          exact ⟨by first | rfl | (simp [errW_none, errW_some] <;> rfl) | (simp [*, errW_none, errW_some] <;> rfl) | (simp [bt, *]; done) | (unfold bt; simp [*]; done), by repeat (first | (with_reducible first | exact HB.out | apply below_alloc | apply pw_below_drewN | apply below_drew1) | exact HB.out)⟩
                    · replace c27 := Bool.eq_false_iff.mpr c27
                      subst c27
                      have H1 : (some false) = some r := by rw [if_neg (show ¬ (false = true) by decide)] at H; exact H
                      clear H
                      have H := H1
                      clear H1
                      exact absurd ((Option.some.inj H).trans HT0.out) (by decide)
                  · replace c25 := Bool.eq_false_iff.mpr c25
                    subst c25
                    have H1 : (some false) = some r := by rw [if_neg (show ¬ (false = true) by decide)] at H; exact H
                    clear H
                    have H := H1
                    clear H1
                    exact absurd ((Option.some.inj H).trans HT0.out) (by decide)
                · rw [if_neg c23] at H
                  have c23b0 : (t140.toList == a0.toList) = false := beq_eq_false_iff_ne.mpr c23
                  have c23b1 : (t140.toList != a0.toList) = true := bne_iff_ne.mpr c23
                  exact absurd ((Option.some.inj H).trans HT0.out) (by decide)
              · rw [if_neg c22] at H
                have c22b0 : (t138.toList == a0.toList) = false := beq_eq_false_iff_ne.mpr c22
                have c22b1 : (t138.toList != a0.toList) = true := bne_iff_ne.mpr c22
                exact absurd ((Option.some.inj H).trans HT0.out) (by decide)
            · rw [if_neg c21] at H
              have c21b0 : (t141 == 0) = false := beq_eq_false_iff_ne.mpr c21
              have c21b1 : (t141 != 0) = true := bne_iff_ne.mpr c21
              exact absurd ((Option.some.inj H).trans HT0.out) (by decide)
          · rw [if_neg c20] at H
            have c20b0 : (t139 == 0) = false := beq_eq_false_iff_ne.mpr c20
            have c20b1 : (t139 != 0) = true := bne_iff_ne.mpr c20
            exact absurd ((Option.some.inj H).trans HT0.out) (by decide)

end Go.Proofs.Ytgphjijejoagcaa.P
