-- joined by this session's wip/tools/pack.py: words of the kit's print, cut to what the claim names; functions printed by a patched copy of the printer; walks and lemmas of this session; Lean checks it
import Derived.Test.YtjogkfcjlljjcaaDoorBc5
import Derived.Maps.Own
import Derived.Maps.OwnOps
import Derived.Maps.OwnSet
import Derived.Maps.Views
import Derived.Carry
import Derived.Lib.SliceRun
import Derived.Deep.QuietTactic
import Derived.BigQuiet
import Derived.OwnWalk
import Derived.Laws.BytesArg
import Derived.Laws.BitsLemmas
import Derived.OpenShut
set_option maxHeartbeats 40000000
set_option maxRecDepth 100000
namespace Go.Proofs.YtjogkfcjlljjcaaDoor.P
open Go.RowKit Go.Proofs.YtjogkfcjlljjcaaDoorW.PrintWords Go.Proofs.YtjogkfcjlljjcaaDoorW.PrintLast Go.Proofs.YtjogkfcjlljjcaaDoorW.PrintMore
attribute [local go_sem] max2_int min2_int max_two min_two max_three min_three max_four min_four   -- for this text's walks alone
set_option linter.unusedVariables false
set_option linter.unusedSimpArgs false
set_option linter.unnecessarySimpa false
theorem preempt_wrong (k : Nat) (w0 : World) (gd : Nat) (c : S31) (rg u ue : Value) (l : List S53) (ev : List S46) (typ : Int) (host : ByteArray) (gen : Int) (apt : Bool) (kk : Int) (w : World) (hd : Dd w0 w gd c rg u l typ host gen apt ue ev) (hk : resv_Key.f k l typ host gen apt c.f2 = some kk) (ht : access_Type.f c.f11 = some false) :
  Calls Tryd.prog 34 #[.pointer (some ⟨gd, 0, none⟩)] w fun e w' => e = .returned (.int .i64 5) ∧ Dd w0 w' gd c rg u l typ host gen apt ue ev := by
 have hu66 := Tryd.underlying66;have hu31 := Tryd.underlying31;have hu27 := Tryd.underlying27;have hu24 := Tryd.underlying24;have D := aS_ hd;have HK := aS_ hk;have HT := aS_ ht;clear ht;obtain ⟨Au, cu, eu⟩ := Kd.R_slice hd.r;subst eu;clear hd hk;go_enter Tryd.func34, Tryd.ntmps34
 go_wp2_with (first
  | ((with_reducible refine gate_dst (N := 1) rfl ?_); refine bX_ (N := 1) (cs := #[.pointer (some ⟨gd, 0, none⟩)]) (t := 63) ?hr ?_; (case hr => first | (go_simp; done) | (go_simp; rfl)); intro gp hg w0_ hbox hb; have NP_ := aS_ (show gp ≠ gd by rw [hg]; exact Ne.symm (Nat.ne_of_lt (blk_lt D.out.b))); have n1_ := aS_ (D.out.below hb); clear D; have D := n1_; have BKP := aS_ hbox; have hcp : w0_.cell? ⟨gp, 0, none⟩ = some (.pointer (some ⟨gd, 0, none⟩)) := bC_ hbox 0 rfl; have hcd11 : w0_.cell? ⟨gd, 11, none⟩ = some (.int .i64 c.f11) := bC_ D.out.b 11 rfl; clear n1_ hb hbox hg)
  | (go_at_call 45; refine (access_Type.calls c.f11 false _ HT.out).mono ?_; rintro e w1 ⟨rfl, hd⟩; have hb_ := hd.below; have n1_ := aS_ (D.out.below hb_); clear D hd hcd11; have D := n1_; clear n1_; have x1_ := aS_ (blk_below BKP.out hb_); clear BKP hcp; have BKP := x1_; clear x1_; have hcp : w1.cell? ⟨gp, 0, none⟩ = some (.pointer (some ⟨gd, 0, none⟩)) := bC_ BKP.out 0 rfl; clear hb_))
 go_ret;exact ⟨rfl, D.out⟩
theorem preempt_no (k : Nat) (w0 : World) (gd : Nat) (c : S31) (rg u ue : Value) (l : List S53) (ev : List S46) (typ : Int) (host : ByteArray) (gen : Int) (apt : Bool) (kk : Int) (w : World) (hd : Dd w0 w gd c rg u l typ host gen apt ue ev) (hk : resv_Key.f k l typ host gen apt c.f2 = some kk) (ht : access_Type.f c.f11 = some true) (ha : (kk != 0 && kk == c.f8) = false) :
  Calls Tryd.prog 34 #[.pointer (some ⟨gd, 0, none⟩)] w fun e w' => e = .returned (.int .i64 2) ∧ Dd w0 w' gd c rg u l typ host gen apt ue ev := by
 have hu66 := Tryd.underlying66;have hu31 := Tryd.underlying31;have hu27 := Tryd.underlying27;have hu24 := Tryd.underlying24;have D := aS_ hd;have HK := aS_ hk;have HT := aS_ ht;clear ht;have HA := aS_ ha;clear ha;obtain ⟨Au, cu, eu⟩ := Kd.R_slice hd.r;subst eu;clear hd hk;go_enter Tryd.func34, Tryd.ntmps34
 go_wp2_with (first
  | ((with_reducible refine gate_dst (N := 1) rfl ?_); refine bX_ (N := 1) (cs := #[.pointer (some ⟨gd, 0, none⟩)]) (t := 63) ?hr ?_; (case hr => first | (go_simp; done) | (go_simp; rfl)); intro gp hg w0_ hbox hb; have NP_ := aS_ (show gp ≠ gd by rw [hg]; exact Ne.symm (Nat.ne_of_lt (blk_lt D.out.b))); have n1_ := aS_ (D.out.below hb); clear D; have D := n1_; have BKP := aS_ hbox; have hcp : w0_.cell? ⟨gp, 0, none⟩ = some (.pointer (some ⟨gd, 0, none⟩)) := bC_ hbox 0 rfl; have hcd11 : w0_.cell? ⟨gd, 11, none⟩ = some (.int .i64 c.f11) := bC_ D.out.b 11 rfl; clear n1_ hb hbox hg)
  | (go_at_call 45; refine (access_Type.calls c.f11 true _ HT.out).mono ?_; rintro e w1 ⟨rfl, hd⟩; have hb_ := hd.below; have n1_ := aS_ (D.out.below hb_); clear D hd hcd11; have D := n1_; clear n1_; have x1_ := aS_ (blk_below BKP.out hb_); clear BKP hcp; have BKP := x1_; clear x1_; have hcp : w1.cell? ⟨gp, 0, none⟩ = some (.pointer (some ⟨gd, 0, none⟩)) := bC_ BKP.out 0 rfl; clear hb_)
  | (go_at_call 57; refine (asks_calls k w0 gd c rg _ _ l ev typ host gen apt kk _ D.out HK.out).mono ?_; rw [HA.out]; rintro e w2 ⟨rfl, hb_⟩; have n1_ := aS_ (D.out.below hb_); clear D; have D := n1_; clear n1_; have x1_ := aS_ (blk_below BKP.out hb_); clear BKP hcp; have BKP := x1_; clear x1_; have hcp : w2.cell? ⟨gp, 0, none⟩ = some (.pointer (some ⟨gd, 0, none⟩)) := bC_ BKP.out 0 rfl; clear hb_))
 go_ret;exact ⟨rfl, D.out⟩
abbrev DoR := Option (List S53 × Int × ByteArray × Int × Bool × List S46 × Int)
def meP (c : S31) (s : ByteArray) (_ : Int) : Bool := s.toList == c.f2.toList
def asksP (kk : Int) (c : S31) : Bool := kk != 0 && kk == c.f8
def do_same (l : List S53) (typ : Int) (host : ByteArray) (gen : Int) (apt : Bool) (n : Int) : DoR := some (l, typ, host, gen, apt, [], n)
def do_reg (l : List S53) (typ : Int) (host : ByteArray) (gen : Int) (apt : Bool) (c : S31) (kk : Int) (eb : Bool) : DoR :=
  if (!c.f12 && c.f8 != kk) = true then do_same l typ host gen apt 2
  else if c.f9 = 0 then
    (if kk = 0 then some (l, typ, host, gen, aptP c apt, [], 1)
     else if ((host.toList == c.f2.toList) || eb && ((l.filter fun x => !(x.f0.toList == c.f2.toList)).length == 0)) = true then some (l.filter fun x => !(x.f0.toList == c.f2.toList), 0, (⟨#[]⟩ : ByteArray), (gen + 1) % 4294967296, aptP c apt, freed c typ (l.filter fun x => !(x.f0.toList == c.f2.toList)), 1)
     else some (l.filter fun x => !(x.f0.toList == c.f2.toList), typ, host, (gen + 1) % 4294967296, aptP c apt, [], 1))
  else if kk = 0 then
    (if l.length = 16 then do_same l typ host gen apt 8
     else if idxP (meP c) (l ++ [(⟨c.f2, 0⟩ : S53)]) = l.length then some (keyed (l ++ [(⟨c.f2, 0⟩ : S53)]) l.length c.f9, typ, host, (gen + 1) % 4294967296, aptP c apt, [], 1) else none)
  else if 0 ≤ idxP (meP c) l then some (keyed l (idxP (meP c) l).toNat c.f9, typ, host, (gen + 1) % 4294967296, aptP c apt, [], 1) else none
def do_rsv (k : Nat) (l : List S53) (typ : Int) (host : ByteArray) (gen : Int) (apt : Bool) (c : S31) (kk : Int) : DoR :=
 (access_Type.f c.f11).bind fun ty => if ty = false then do_same l typ host gen apt 5 else if asksP kk c = false then do_same l typ host gen apt 2 else if typ = 0 then some (l, c.f11, takenBy c, gen, apt, [], 1)
  else (access_Holds.f k l typ host gen apt c.f2).bind fun hh => if (hh && typ == c.f11) = true then do_same l typ host gen apt 1 else do_same l typ host gen apt 2
def do_rel (k : Nat) (l : List S53) (typ : Int) (host : ByteArray) (gen : Int) (apt : Bool) (c : S31) (kk : Int) : DoR :=
 if asksP kk c = false then do_same l typ host gen apt 2 else (access_Holds.f k l typ host gen apt c.f2).bind fun hh => if hh = false then do_same l typ host gen apt 1 else if (typ != c.f11) = true then do_same l typ host gen apt 5
  else some (l, 0, (⟨#[]⟩ : ByteArray), gen, apt, (if silent typ = true then [] else told c (fun _ _ => true) 3 l l.length), 1)
def do_clr (l : List S53) (typ : Int) (host : ByteArray) (gen : Int) (apt : Bool) (c : S31) (kk : Int) : DoR :=
  if asksP kk c = false then do_same l typ host gen apt 2 else some ([], 0, (⟨#[]⟩ : ByteArray), (gen + 1) % 4294967296, apt, told c (fun _ _ => true) 4 l l.length, 1)
def do_pre (k : Nat) (l : List S53) (typ : Int) (host : ByteArray) (gen : Int) (apt : Bool) (c : S31) (kk : Int) : DoR :=
 (access_Type.f c.f11).bind fun ty => if ty = false then do_same l typ host gen apt 5 else if asksP kk c = false then do_same l typ host gen apt 2 else
 (resv_everybody.f typ).bind fun eb => (resv_Key.f k l typ host gen apt host).bind fun kh =>
  if (eb && c.f10 == 0) = true then some (l.filter fun x => !struckP c true x.f0 x.f1, c.f11, takenBy c, (gen + 1) % 4294967296, apt, told c (struckP c true) 2 l l.length, 1)
  else if host.toList ≠ ([] : List UInt8) ∧ kh = c.f10 then some (l.filter fun x => !struckP c false x.f0 x.f1, c.f11, takenBy c, (gen + 1) % 4294967296, apt, told c (struckP c false) 2 l l.length, 1)
  else if c.f10 = 0 then do_same l typ host gen apt 5
  else if decide (0 ≤ idxP (struckP c false) l) = false then do_same l typ host gen apt 2
  else some (l.filter fun x => !struckP c false x.f0 x.f1, typ, host, (gen + 1) % 4294967296, apt, told c (struckP c false) 2 l l.length, 1)
def do_f (k : Nat) (l : List S53) (typ : Int) (host : ByteArray) (gen : Int) (apt : Bool) (c : S31) : DoR :=
  if (Lit.int .i64 c.f0).wf = true then
    (if decide (8 ≤ c.f0 ∧ c.f0 ≤ 12) = false then do_same l typ host gen apt 5
     else (resv_Good.f l typ host gen apt).bind fun g => if g = false then do_same l typ host gen apt 5 else (names_Name.f c.f2).bind fun n => if n = false then do_same l typ host gen apt 5
     else if l.length ≤ 900 then (resv_Key.f k l typ host gen apt c.f2).bind fun kk =>
       (if c.f0 = 8 then (resv_everybody.f typ).bind fun eb => do_reg l typ host gen apt c kk eb
        else if c.f0 = 9 then do_rsv k l typ host gen apt c kk
        else if c.f0 = 10 then do_rel k l typ host gen apt c kk
        else if c.f0 = 11 then do_clr l typ host gen apt c kk
        else do_pre k l typ host gen apt c kk)
     else none)
  else none
def resv_Do.f (k : Nat) (l0_0 : List S53) (a0_1 : Int) (a0_2 : ByteArray) (a0_3 : Int) (a0_4 : Bool) (a1_0 : Int) (a1_1 : Int) (a1_2 : ByteArray) (a1_3 : Int) (a1_4 : Int) (a1_5 : ByteArray) (a1_6 : Bool) (l1_7 : List S100) (a1_8 : Int) (a1_9 : Int) (a1_10 : Int) (a1_11 : Int) (a1_12 : Bool) (a1_13 : Int) : DoR :=
  do_f k l0_0 a0_1 a0_2 a0_3 a0_4 ⟨a1_0, a1_1, a1_2, a1_3, a1_4, a1_5, a1_6, l1_7, a1_8, a1_9, a1_10, a1_11, a1_12, a1_13⟩
theorem idxP_lt (p : ByteArray → Int → Bool) (l : List S53) (h : 0 ≤ idxP p l) : (idxP p l).toNat < l.length ∧ idxP p l = ((idxP p l).toNat : Int) := by
  unfold idxP at h ⊢
  cases hf : l.findIdx? (fun x => p x.f0 x.f1) with
  | none => rw [hf] at h; exact absurd h (by decide)
  | some i => exact ⟨(List.findIdx?_eq_some_iff_getElem.mp hf).1, rfl⟩
theorem do_calls (k : Nat) (P : Nat → Prop) (A0 : Option Addr) (c0 : Nat) (l : List S53) (typ : Int) (host : ByteArray) (gen : Int) (apt : Bool) (c : S31) (rg : Value) (r1 : List S53) (r2 : Int) (r3 : ByteArray) (r4 : Int) (r5 : Bool) (r6 : List S46) (r7 : Int) (w : World) (hs : Kd.V k53 53 w w.heap.size (fun k_ => P k_) (.slice A0 l.length c0) l) (hG : Glob w) (h : do_f k l typ host gen apt c = some (r1, r2, r3, r4, r5, r6, r7)) :
  Calls Tryd.prog 15 #[.agg #[.slice A0 l.length c0, .int .i64 typ, .string host, .int .u32 gen, .bool apt], .agg #[.int .i64 c.f0, .int .i64 c.f1, .string c.f2, .int .i64 c.f3, .int .i64 c.f4, .string c.f5, .bool c.f6, rg, .int .u64 c.f8, .int .u64 c.f9, .int .u64 c.f10, .int .i64 c.f11, .bool c.f12, .int .i64 c.f13]] w fun e w' => ∃ v0_ v5_ : Value, e = .returned (.tuple #[.agg #[v0_, .int .i64 r2, .string r3, .int .u32 r4, .bool r5], v5_, .int .i64 r7]) ∧ Kd.V k53 53 w' w.heap.size (fun k_ => (P k_ ∨ w.heap.size ≤ k_) ∧ some k_ ≠ (v5_ : Value).ownBlock) v0_ r1 ∧ Kd.R k46 46 w' w.heap.size (fun k_ => (w.heap.size ≤ k_)) v5_ r6 ∧ Below w.heap.size w w' := by
 unfold do_f at h;by_cases hop : (Lit.int .i64 c.f0).wf = true
 case neg => rw [if_neg hop] at h; cases h
 rw [if_pos hop] at h;cases hin : decide (8 ≤ c.f0 ∧ c.f0 ≤ 12)
 ·rw [hin, if_pos rfl] at h;unfold do_same at h;simp only [Option.some.injEq, Prod.mk.injEq] at h;obtain ⟨rfl, rfl, rfl, rfl, rfl, rfl, rfl⟩ := h;exact do_op k P A0 c0 l typ host gen apt c rg w hs hG hop hin
 rw [hin, if_neg (by decide)] at h;have hr := of_decide_eq_true hin
 have h5 : c.f0 = 8 ∨ c.f0 = 9 ∨ c.f0 = 10 ∨ c.f0 = 11 ∨ c.f0 = 12 := by omega
 obtain ⟨n_, hfn⟩ : ∃ n_ : Nat, c.f0 = 8 ∧ n_ = 30 ∨ c.f0 = 9 ∧ n_ = 31 ∨ c.f0 = 10 ∧ n_ = 32 ∨ c.f0 = 11 ∧ n_ = 33 ∨ c.f0 = 12 ∧ n_ = 34 := by
  rcases h5 with z | z | z | z | z
  ·exact ⟨_, .inl ⟨z, rfl⟩⟩
  ·exact ⟨_, .inr (.inl ⟨z, rfl⟩)⟩
  ·exact ⟨_, .inr (.inr (.inl ⟨z, rfl⟩))⟩
  ·exact ⟨_, .inr (.inr (.inr (.inl ⟨z, rfl⟩)))⟩
  ·exact ⟨_, .inr (.inr (.inr (.inr ⟨z, rfl⟩)))⟩
 obtain ⟨g, hg, h⟩ := Option.bind_eq_some_iff.mp h;cases g
 ·rw [if_pos rfl] at h;unfold do_same at h;simp only [Option.some.injEq, Prod.mk.injEq] at h;obtain ⟨rfl, rfl, rfl, rfl, rfl, rfl, rfl⟩ := h;exact do_good k P A0 c0 l typ host gen apt c rg w hs hG hop n_ hfn hg
 rw [if_neg (by decide)] at h;obtain ⟨n, hnm, h⟩ := Option.bind_eq_some_iff.mp h;cases n
 ·rw [if_pos rfl] at h;unfold do_same at h;simp only [Option.some.injEq, Prod.mk.injEq] at h;obtain ⟨rfl, rfl, rfl, rfl, rfl, rfl, rfl⟩ := h;exact do_name k P A0 c0 l typ host gen apt c rg w hs hG hop n_ hfn hg hnm
 rw [if_neg (by decide)] at h;by_cases h900 : l.length ≤ 900
 case neg => rw [if_neg h900] at h; cases h
 rw [if_pos h900] at h
 have hl : l.length ≤ 1000 := by omega
 have he0 : ([] : List S46).length ≤ 1000 := by decide
 obtain ⟨kk, hkk, h⟩ := Option.bind_eq_some_iff.mp h;clear hfn
 rcases h5 with h8 | h8 | h8 | h8 | h8
 ·rw [if_pos h8] at h;obtain ⟨eb, heb, h⟩ := Option.bind_eq_some_iff.mp h;unfold do_reg at h;cases hps : (!c.f12 && c.f8 != kk)
  case true =>
   rw [hps, if_pos rfl] at h
   obtain ⟨q1, q2⟩ : c.f12 = false ∧ (c.f8 != kk) = true := by simpa using hps
   unfold do_same at h;simp only [Option.some.injEq, Prod.mk.injEq] at h;obtain ⟨rfl, rfl, rfl, rfl, rfl, rfl, rfl⟩ := h;exact do_no k P A0 c0 l typ host gen apt c rg w hs hG hop 30 (.inl ⟨h8, rfl⟩) _ Tryd.func30 rfl rfl hg hnm hl 2 (by decide) (fun wB w1 gd u hGB hd => (register_no k wB gd c rg u _ l [] typ host gen apt kk w1 hd hkk q1 q2))
  rw [hps, if_neg (by decide)] at h;by_cases h9 : c.f9 = 0
  ·rw [if_pos h9] at h;by_cases h0 : kk = 0
   ·rw [if_pos h0] at h;simp only [Option.some.injEq, Prod.mk.injEq] at h;obtain ⟨rfl, rfl, rfl, rfl, rfl, rfl, rfl⟩ := h;exact do_yes k P A0 c0 l typ host gen apt c rg w hs hG hop 30 (.inl ⟨h8, rfl⟩) _ Tryd.func30 rfl rfl hg hnm hl _ _ _ _ _ _ (fun wB w1 gd u hGB hd => ((register_same k wB gd c rg u _ l [] typ host gen apt kk w1 hd hkk hps h9 h0).mono (fun _ _ ⟨h1, h2⟩ => ⟨h1, _, _, h2⟩)))
   ·rw [if_neg h0] at h;cases hz : ((host.toList == c.f2.toList) || eb && ((l.filter fun x => !(x.f0.toList == c.f2.toList)).length == 0))
    ·rw [hz, if_neg (by decide)] at h;simp only [Option.some.injEq, Prod.mk.injEq] at h;obtain ⟨rfl, rfl, rfl, rfl, rfl, rfl, rfl⟩ := h;exact do_yes k P A0 c0 l typ host gen apt c rg w hs hG hop 30 (.inl ⟨h8, rfl⟩) _ Tryd.func30 rfl rfl hg hnm hl _ _ _ _ _ _ (fun wB w1 gd u hGB hd => ((register_stay k wB gd c rg u _ l [] typ host gen apt kk w1 hd hkk hps h9 h0 hl eb heb _ rfl _ rfl hz).mono (fun _ _ ⟨h1, u2, h2⟩ => ⟨h1, u2, _, h2⟩)))
    ·rw [hz, if_pos rfl] at h;simp only [Option.some.injEq, Prod.mk.injEq] at h;obtain ⟨rfl, rfl, rfl, rfl, rfl, rfl, rfl⟩ := h;exact do_yes k P A0 c0 l typ host gen apt c rg w hs hG hop 30 (.inl ⟨h8, rfl⟩) _ Tryd.func30 rfl rfl hg hnm hl _ _ _ _ _ _ (fun wB w1 gd u hGB hd => ((register_free k wB gd c rg u _ l [] typ host gen apt kk w1 hd hkk hps h9 h0 he0 hl eb heb _ rfl _ rfl hz).mono (fun _ _ ⟨h1, u2, ue2, h2⟩ => ⟨h1, u2, ue2, h2⟩)))
  ·rw [if_neg h9] at h;by_cases h0 : kk = 0
   ·rw [if_pos h0] at h;by_cases h16 : l.length = 16
    ·rw [if_pos h16] at h;unfold do_same at h;simp only [Option.some.injEq, Prod.mk.injEq] at h;obtain ⟨rfl, rfl, rfl, rfl, rfl, rfl, rfl⟩ := h;exact do_no k P A0 c0 l typ host gen apt c rg w hs hG hop 30 (.inl ⟨h8, rfl⟩) _ Tryd.func30 rfl rfl hg hnm hl 8 (by decide) (fun wB w1 gd u hGB hd => (register_full k wB gd c rg u _ l [] typ host gen apt kk w1 hd hkk hps h9 h0 h16))
    ·rw [if_neg h16] at h;by_cases hx : idxP (meP c) (l ++ [(⟨c.f2, 0⟩ : S53)]) = l.length
     case neg => rw [if_neg hx] at h; cases h
     rw [if_pos hx] at h;simp only [Option.some.injEq, Prod.mk.injEq] at h;obtain ⟨rfl, rfl, rfl, rfl, rfl, rfl, rfl⟩ := h;exact do_yes k P A0 c0 l typ host gen apt c rg w hs hG hop 30 (.inl ⟨h8, rfl⟩) _ Tryd.func30 rfl rfl hg hnm hl _ _ _ _ _ _ (fun wB w1 gd u hGB hd => ((register_new k wB gd c rg u _ l [] typ host gen apt kk w1 hd hkk hps h9 h0 h16 h900 hx).mono (fun _ _ ⟨h1, u2, h2⟩ => ⟨h1, u2, _, h2⟩)))
   ·rw [if_neg h0] at h;by_cases hx : 0 ≤ idxP (meP c) l
    case neg => rw [if_neg hx] at h; cases h
    rw [if_pos hx] at h;obtain ⟨hx1, hx2⟩ := idxP_lt _ _ hx;simp only [Option.some.injEq, Prod.mk.injEq] at h;obtain ⟨rfl, rfl, rfl, rfl, rfl, rfl, rfl⟩ := h;exact do_yes k P A0 c0 l typ host gen apt c rg w hs hG hop 30 (.inl ⟨h8, rfl⟩) _ Tryd.func30 rfl rfl hg hnm hl _ _ _ _ _ _ (fun wB w1 gd u hGB hd => ((register_put k wB gd c rg u _ l [] typ host gen apt kk w1 hd hkk hps h9 h0 hl _ hx1 hx2).mono (fun _ _ ⟨h1, u2, h2⟩ => ⟨h1, u2, _, h2⟩)))
 ·rw [if_neg (by omega), if_pos h8] at h;unfold do_rsv at h;obtain ⟨ty, hty, h⟩ := Option.bind_eq_some_iff.mp h;cases ty
  ·rw [if_pos rfl] at h;unfold do_same at h;simp only [Option.some.injEq, Prod.mk.injEq] at h;obtain ⟨rfl, rfl, rfl, rfl, rfl, rfl, rfl⟩ := h;exact do_no k P A0 c0 l typ host gen apt c rg w hs hG hop 31 (.inr (.inl ⟨h8, rfl⟩)) _ Tryd.func31 rfl rfl hg hnm hl 5 (by decide) (fun wB w1 gd u hGB hd => (reserve_wrong k wB gd c rg u _ l [] typ host gen apt kk w1 hd hkk hty))
  rw [if_neg (by decide)] at h;cases ha : asksP kk c
  ·rw [ha, if_pos rfl] at h;unfold do_same at h;simp only [Option.some.injEq, Prod.mk.injEq] at h;obtain ⟨rfl, rfl, rfl, rfl, rfl, rfl, rfl⟩ := h;exact do_no k P A0 c0 l typ host gen apt c rg w hs hG hop 31 (.inr (.inl ⟨h8, rfl⟩)) _ Tryd.func31 rfl rfl hg hnm hl 2 (by decide) (fun wB w1 gd u hGB hd => (reserve_no k wB gd c rg u _ l [] typ host gen apt kk w1 hd hkk hty ha))
  rw [ha, if_neg (by decide)] at h;by_cases h0 : typ = 0
  ·rw [if_pos h0] at h;simp only [Option.some.injEq, Prod.mk.injEq] at h;obtain ⟨rfl, rfl, rfl, rfl, rfl, rfl, rfl⟩ := h;exact do_yes k P A0 c0 l typ host gen apt c rg w hs hG hop 31 (.inr (.inl ⟨h8, rfl⟩)) _ Tryd.func31 rfl rfl hg hnm hl _ _ _ _ _ _ (fun wB w1 gd u hGB hd => ((reserve_take k wB gd c rg u _ l [] typ host gen apt kk w1 hd hkk hty ha h0).mono (fun _ _ ⟨h1, h2⟩ => ⟨h1, _, _, h2⟩)))
  rw [if_neg h0] at h;obtain ⟨hh, hhh, h⟩ := Option.bind_eq_some_iff.mp h;cases hz : (hh && typ == c.f11)
  ·rw [hz, if_neg (by decide)] at h;unfold do_same at h;simp only [Option.some.injEq, Prod.mk.injEq] at h;obtain ⟨rfl, rfl, rfl, rfl, rfl, rfl, rfl⟩ := h;exact do_no k P A0 c0 l typ host gen apt c rg w hs hG hop 31 (.inr (.inl ⟨h8, rfl⟩)) _ Tryd.func31 rfl rfl hg hnm hl 2 (by decide) (fun wB w1 gd u hGB hd => ((reserve_held k wB gd c rg u _ l [] typ host gen apt kk w1 hd hkk hGB hh hhh hty ha h0).mono (fun _ _ z => by rw [hz] at z; exact z)))
  ·rw [hz, if_pos rfl] at h;unfold do_same at h;simp only [Option.some.injEq, Prod.mk.injEq] at h;obtain ⟨rfl, rfl, rfl, rfl, rfl, rfl, rfl⟩ := h;exact do_yes k P A0 c0 l typ host gen apt c rg w hs hG hop 31 (.inr (.inl ⟨h8, rfl⟩)) _ Tryd.func31 rfl rfl hg hnm hl _ _ _ _ _ _ (fun wB w1 gd u hGB hd => ((reserve_held k wB gd c rg u _ l [] typ host gen apt kk w1 hd hkk hGB hh hhh hty ha h0).mono (fun _ _ z => by rw [hz] at z; exact ⟨z.1, _, _, z.2⟩)))
 ·rw [if_neg (by omega), if_neg (by omega), if_pos h8] at h;unfold do_rel at h;cases ha : asksP kk c
  ·rw [ha, if_pos rfl] at h;unfold do_same at h;simp only [Option.some.injEq, Prod.mk.injEq] at h;obtain ⟨rfl, rfl, rfl, rfl, rfl, rfl, rfl⟩ := h;exact do_no k P A0 c0 l typ host gen apt c rg w hs hG hop 32 (.inr (.inr (.inl ⟨h8, rfl⟩))) _ Tryd.func32 rfl rfl hg hnm hl 2 (by decide) (fun wB w1 gd u hGB hd => (release_no k wB gd c rg u _ l [] typ host gen apt kk w1 hd hkk ha))
  rw [ha, if_neg (by decide)] at h;obtain ⟨hh, hhh, h⟩ := Option.bind_eq_some_iff.mp h;cases hh
  ·rw [if_pos rfl] at h;unfold do_same at h;simp only [Option.some.injEq, Prod.mk.injEq] at h;obtain ⟨rfl, rfl, rfl, rfl, rfl, rfl, rfl⟩ := h;exact do_yes k P A0 c0 l typ host gen apt c rg w hs hG hop 32 (.inr (.inr (.inl ⟨h8, rfl⟩))) _ Tryd.func32 rfl rfl hg hnm hl _ _ _ _ _ _ (fun wB w1 gd u hGB hd => ((release_free k wB gd c rg u _ l [] typ host gen apt kk w1 hd hkk hGB hhh ha).mono (fun _ _ ⟨h1, h2⟩ => ⟨h1, _, _, h2⟩)))
  rw [if_neg (by decide)] at h;cases hz : (typ != c.f11)
  ·rw [hz, if_neg (by decide)] at h;simp only [Option.some.injEq, Prod.mk.injEq] at h;obtain ⟨rfl, rfl, rfl, rfl, rfl, rfl, rfl⟩ := h;exact do_yes k P A0 c0 l typ host gen apt c rg w hs hG hop 32 (.inr (.inr (.inl ⟨h8, rfl⟩))) _ Tryd.func32 rfl rfl hg hnm hl _ _ _ _ _ _ (fun wB w1 gd u hGB hd => ((release_yes k wB gd c rg u _ l [] typ host gen apt kk w1 hd hkk hGB hhh ha hz hl he0).mono (fun _ _ ⟨h1, ue2, h2⟩ => ⟨h1, _, ue2, h2⟩)))
  ·rw [hz, if_pos rfl] at h;unfold do_same at h;simp only [Option.some.injEq, Prod.mk.injEq] at h;obtain ⟨rfl, rfl, rfl, rfl, rfl, rfl, rfl⟩ := h;exact do_no k P A0 c0 l typ host gen apt c rg w hs hG hop 32 (.inr (.inr (.inl ⟨h8, rfl⟩))) _ Tryd.func32 rfl rfl hg hnm hl 5 (by decide) (fun wB w1 gd u hGB hd => (release_wrong k wB gd c rg u _ l [] typ host gen apt kk w1 hd hkk hGB hhh ha hz))
 ·rw [if_neg (by omega), if_neg (by omega), if_neg (by omega), if_pos h8] at h;unfold do_clr at h;cases ha : asksP kk c
  ·rw [ha, if_pos rfl] at h;unfold do_same at h;simp only [Option.some.injEq, Prod.mk.injEq] at h;obtain ⟨rfl, rfl, rfl, rfl, rfl, rfl, rfl⟩ := h;exact do_no k P A0 c0 l typ host gen apt c rg w hs hG hop 33 (.inr (.inr (.inr (.inl ⟨h8, rfl⟩)))) _ Tryd.func33 rfl rfl hg hnm hl 2 (by decide) (fun wB w1 gd u hGB hd => (clear_no k wB gd c rg u _ l [] typ host gen apt kk w1 hd hkk ha))
  rw [ha, if_neg (by decide)] at h;simp only [Option.some.injEq, Prod.mk.injEq] at h;obtain ⟨rfl, rfl, rfl, rfl, rfl, rfl, rfl⟩ := h;exact do_yes k P A0 c0 l typ host gen apt c rg w hs hG hop 33 (.inr (.inr (.inr (.inl ⟨h8, rfl⟩)))) _ Tryd.func33 rfl rfl hg hnm hl _ _ _ _ _ _ (fun wB w1 gd u hGB hd => ((clear_yes k wB gd c rg u _ l [] typ host gen apt kk w1 hd hkk ha hl he0).mono (fun _ _ ⟨h1, ue2, h2⟩ => ⟨h1, _, ue2, h2⟩)))
 ·rw [if_neg (by omega), if_neg (by omega), if_neg (by omega), if_neg (by omega)] at h;unfold do_pre at h;obtain ⟨ty, hty, h⟩ := Option.bind_eq_some_iff.mp h;cases ty
  ·rw [if_pos rfl] at h;unfold do_same at h;simp only [Option.some.injEq, Prod.mk.injEq] at h;obtain ⟨rfl, rfl, rfl, rfl, rfl, rfl, rfl⟩ := h;exact do_no k P A0 c0 l typ host gen apt c rg w hs hG hop 34 (.inr (.inr (.inr (.inr ⟨h8, rfl⟩)))) _ Tryd.func34 rfl rfl hg hnm hl 5 (by decide) (fun wB w1 gd u hGB hd => (preempt_wrong k wB gd c rg u _ l [] typ host gen apt kk w1 hd hkk hty))
  rw [if_neg (by decide)] at h;cases ha : asksP kk c
  ·rw [ha, if_pos rfl] at h;unfold do_same at h;simp only [Option.some.injEq, Prod.mk.injEq] at h;obtain ⟨rfl, rfl, rfl, rfl, rfl, rfl, rfl⟩ := h;exact do_no k P A0 c0 l typ host gen apt c rg w hs hG hop 34 (.inr (.inr (.inr (.inr ⟨h8, rfl⟩)))) _ Tryd.func34 rfl rfl hg hnm hl 2 (by decide) (fun wB w1 gd u hGB hd => (preempt_no k wB gd c rg u _ l [] typ host gen apt kk w1 hd hkk hty ha))
  rw [ha, if_neg (by decide)] at h;obtain ⟨eb, heb, h⟩ := Option.bind_eq_some_iff.mp h;obtain ⟨kh, hkh, h⟩ := Option.bind_eq_some_iff.mp h;cases hw : (eb && c.f10 == 0)
  case true =>
   rw [hw, if_pos rfl] at h
   obtain ⟨q1, q2⟩ : eb = true ∧ c.f10 = 0 := by simpa using hw
   simp only [Option.some.injEq, Prod.mk.injEq] at h;obtain ⟨rfl, rfl, rfl, rfl, rfl, rfl, rfl⟩ := h;exact do_yes k P A0 c0 l typ host gen apt c rg w hs hG hop 34 (.inr (.inr (.inr (.inr ⟨h8, rfl⟩)))) _ Tryd.func34 rfl rfl hg hnm hl _ _ _ _ _ _ (fun wB w1 gd u hGB hd => ((preempt_whole k wB gd c rg u _ l [] typ host gen apt kk w1 hd hkk hty ha (q1 ▸ heb) q2 hl he0).mono (fun _ _ ⟨h1, u2, ue2, h2⟩ => ⟨h1, u2, ue2, h2⟩)))
  rw [hw, if_neg (by decide)] at h;by_cases ht : host.toList ≠ ([] : List UInt8) ∧ kh = c.f10
  ·rw [if_pos ht] at h;simp only [Option.some.injEq, Prod.mk.injEq] at h;obtain ⟨rfl, rfl, rfl, rfl, rfl, rfl, rfl⟩ := h;exact do_yes k P A0 c0 l typ host gen apt c rg w hs hG hop 34 (.inr (.inr (.inr (.inr ⟨h8, rfl⟩)))) _ Tryd.func34 rfl rfl hg hnm hl _ _ _ _ _ _ (fun wB w1 gd u hGB hd => ((preempt_takes k wB gd c rg u _ l [] typ host gen apt kk w1 hd hkk eb hty ha heb hw ht.1 kh hkh ht.2 hl he0).mono (fun _ _ ⟨h1, u2, ue2, h2⟩ => ⟨h1, u2, ue2, h2⟩)))
  rw [if_neg ht] at h;by_cases h0 : c.f10 = 0
  ·rw [if_pos h0] at h
   have q1 : eb = false := by
    rw [h0] at hw;simpa using hw
   unfold do_same at h;simp only [Option.some.injEq, Prod.mk.injEq] at h;obtain ⟨rfl, rfl, rfl, rfl, rfl, rfl, rfl⟩ := h;exact do_no k P A0 c0 l typ host gen apt c rg w hs hG hop 34 (.inr (.inr (.inr (.inr ⟨h8, rfl⟩)))) _ Tryd.func34 rfl rfl hg hnm hl 5 (by decide) (fun wB w1 gd u hGB hd => (preempt_zero k wB gd c rg u _ l [] typ host gen apt kk w1 hd hkk eb hty ha heb kh hkh ht q1 h0))
  rw [if_neg h0] at h;cases hi0 : decide (0 ≤ idxP (struckP c false) l)
  ·rw [hi0, if_pos rfl] at h;unfold do_same at h;simp only [Option.some.injEq, Prod.mk.injEq] at h;obtain ⟨rfl, rfl, rfl, rfl, rfl, rfl, rfl⟩ := h;exact do_no k P A0 c0 l typ host gen apt c rg w hs hG hop 34 (.inr (.inr (.inr (.inr ⟨h8, rfl⟩)))) _ Tryd.func34 rfl rfl hg hnm hl 2 (by decide) (fun wB w1 gd u hGB hd => (preempt_miss k wB gd c rg u _ l [] typ host gen apt kk w1 hd hkk eb hty ha heb kh hkh ht h0 hl hi0))
  ·rw [hi0, if_neg (by decide)] at h;simp only [Option.some.injEq, Prod.mk.injEq] at h;obtain ⟨rfl, rfl, rfl, rfl, rfl, rfl, rfl⟩ := h;exact do_yes k P A0 c0 l typ host gen apt c rg w hs hG hop 34 (.inr (.inr (.inr (.inr ⟨h8, rfl⟩)))) _ Tryd.func34 rfl rfl hg hnm hl _ _ _ _ _ _ (fun wB w1 gd u hGB hd => ((preempt_hit k wB gd c rg u _ l [] typ host gen apt kk w1 hd hkk eb hty ha heb kh hkh ht h0 hl he0 hi0).mono (fun _ _ ⟨h1, u2, ue2, h2⟩ => ⟨h1, u2, ue2, h2⟩)))
theorem do_f.mono (k : Nat) (l : List S53) (typ : Int) (host : ByteArray) (gen : Int) (apt : Bool) (c : S31) : LeO (do_f k l typ host gen apt c) (do_f (k + 1) l typ host gen apt c) := by
 unfold do_f do_rsv do_rel do_pre
 repeat' first
  | (with_reducible exact resv_Key.mono _ _ _ _ _ _ _)
  | (with_reducible exact access_Holds.mono _ _ _ _ _ _ _)
  | (with_reducible exact LeO.refl _)
  | (with_reducible refine LeO.ite ?_ ?_)
  | (with_reducible refine LeO.bind ?_ (fun _ => ?_))
theorem resv_Do.mono : ∀ (l0_0 : List S53) (a0_1 : Int) (a0_2 : ByteArray) (a0_3 : Int) (a0_4 : Bool) (a1_0 : Int) (a1_1 : Int) (a1_2 : ByteArray) (a1_3 : Int) (a1_4 : Int) (a1_5 : ByteArray) (a1_6 : Bool) (l1_7 : List S100) (a1_8 : Int) (a1_9 : Int) (a1_10 : Int) (a1_11 : Int) (a1_12 : Bool) (a1_13 : Int) (k : Nat), LeO (resv_Do.f k l0_0 a0_1 a0_2 a0_3 a0_4 a1_0 a1_1 a1_2 a1_3 a1_4 a1_5 a1_6 l1_7 a1_8 a1_9 a1_10 a1_11 a1_12 a1_13) (resv_Do.f (k + 1) l0_0 a0_1 a0_2 a0_3 a0_4 a1_0 a1_1 a1_2 a1_3 a1_4 a1_5 a1_6 l1_7 a1_8 a1_9 a1_10 a1_11 a1_12 a1_13) := by
  intros
  exact do_f.mono _ _ _ _ _ _ _
theorem resv_Do.calls (k : Nat) (P0_0_ : Nat → Prop) (A0_0 : Option Addr) (c0_0 : Nat) (l0_0 : List S53) (a0_1 : Int) (a0_2 : ByteArray) (a0_3 : Int) (a0_4 : Bool) (a1_0 : Int) (a1_1 : Int) (a1_2 : ByteArray) (a1_3 : Int) (a1_4 : Int) (a1_5 : ByteArray) (a1_6 : Bool) (A1_7 : Option Addr) (c1_7 : Nat) (l1_7 : List S100) (a1_8 : Int) (a1_9 : Int) (a1_10 : Int) (a1_11 : Int) (a1_12 : Bool) (a1_13 : Int) (r1 : List S53) (r2 : Int) (r3 : ByteArray) (r4 : Int) (r5 : Bool) (r6 : List S46) (r7 : Int) (w : World) (hs0_0 : Kd.V k53 53 w w.heap.size (fun k_ => P0_0_ k_) (.slice A0_0 l0_0.length c0_0) l0_0) (hr1_7 : Kd.C k100 w A1_7 l1_7.length l1_7) (hc1_7 : l1_7.length ≤ c1_7) (hG : Glob w) (h : resv_Do.f k l0_0 a0_1 a0_2 a0_3 a0_4 a1_0 a1_1 a1_2 a1_3 a1_4 a1_5 a1_6 l1_7 a1_8 a1_9 a1_10 a1_11 a1_12 a1_13 = some (r1, r2, r3, r4, r5, r6, r7)) :
  Calls Tryd.prog 15 #[.agg #[.slice A0_0 l0_0.length c0_0, .int .i64 a0_1, .string a0_2, .int .u32 a0_3, .bool a0_4], .agg #[.int .i64 a1_0, .int .i64 a1_1, .string a1_2, .int .i64 a1_3, .int .i64 a1_4, .string a1_5, .bool a1_6, .slice A1_7 l1_7.length c1_7, .int .u64 a1_8, .int .u64 a1_9, .int .u64 a1_10, .int .i64 a1_11, .bool a1_12, .int .i64 a1_13]] w fun e w' => ∃ v0_ v5_ : Value, e = .returned (.tuple #[.agg #[v0_, .int .i64 r2, .string r3, .int .u32 r4, .bool r5], v5_, .int .i64 r7]) ∧ Kd.V k53 53 w' w.heap.size (fun k_ => (P0_0_ k_ ∨ w.heap.size ≤ k_) ∧ some k_ ≠ (v5_ : Value).ownBlock) v0_ r1 ∧ Kd.R k46 46 w' w.heap.size (fun k_ => (w.heap.size ≤ k_)) v5_ r6 ∧ Below w.heap.size w w' :=
 do_calls k P0_0_ A0_0 c0_0 l0_0 a0_1 a0_2 a0_3 a0_4 ⟨a1_0, a1_1, a1_2, a1_3, a1_4, a1_5, a1_6, l1_7, a1_8, a1_9, a1_10, a1_11, a1_12, a1_13⟩ (.slice A1_7 l1_7.length c1_7) r1 r2 r3 r4 r5 r6 r7 w hs0_0 hG h
end Go.Proofs.YtjogkfcjlljjcaaDoor.P
namespace Go.Proofs.YtjogkfcjlljjcaaDoor.P
open Go.RowKit Go.Proofs.YtjogkfcjlljjcaaDoorW.PrintWords Go.Proofs.YtjogkfcjlljjcaaDoorW.PrintLast Go.Proofs.YtjogkfcjlljjcaaDoorW.PrintMore
attribute [local go_sem] max2_int min2_int max_two min_two max_three min_three max_four min_four   -- for this text's walks alone
set_option linter.unusedVariables false
set_option linter.unusedSimpArgs false
set_option linter.unnecessarySimpa false
def headgatelaw11_wakes.f (k : Nat)  : Option (Bool) := (some (([(⟨(⟨#[97]⟩ : ByteArray), 1⟩ : S53), (⟨(⟨#[98]⟩ : ByteArray), 2⟩ : S53)] : List (S53)) : List (S53))).bind fun y104 => ((resv_Do.f k y104 1 (⟨#[97]⟩ : ByteArray) 0 false 12 0 (⟨#[98]⟩ : ByteArray) 0 0 (⟨#[]⟩ : ByteArray) false ([] : List (S100)) 2 0 1 2 false 0).bind fun bt108 => (if bt108.2.2.2.2.2.2 = 1 then (if (bt108.1.length : Int) = 1 then (if bt108.2.2.1.toList = ([98] : List UInt8) then (if bt108.2.1 = 2 then (if bt108.2.2.2.1 = 1 then (if (bt108.2.2.2.2.2.1.length : Int) = 1 then (if 0 < (bt108.2.2.2.2.2.1.length : Int) then (if ((rd_T46 bt108.2.2.2.2.2.1 0).f0).toList = ([97] : List UInt8) then (if ((rd_T46 bt108.2.2.2.2.2.1 0).f1) = 2 then ((resv_Good.f y104 1 (⟨#[97]⟩ : ByteArray) 0 false).bind fun t122 => (some t122)) else (some false)) else (some false)) else (none)) else (some false)) else (some false)) else (some false)) else (some false)) else (some false)) else (some false)))
theorem headgatelaw11_wakes.mono : ∀ k, LeO (headgatelaw11_wakes.f k ) (headgatelaw11_wakes.f (k + 1) ) := by
 intro  k;unfold headgatelaw11_wakes.f
 repeat' first
   | (with_reducible exact resv_Do.mono _ _ _ _ _ _ _ _ _ _ _ _ _ _ _ _ _ _ _ _)
   | (with_reducible exact LeO.refl _)
   | (with_reducible exact LeO.none _)
   | (with_reducible refine LeO.ite ?_ ?_)
   | (with_reducible refine LeO.bind ?_ (fun _ => ?_))
   | exact resv_Do.mono _ _ _ _ _ _ _ _ _ _ _ _ _ _ _ _ _ _ _ _
   | exact LeO.none _
   | refine LeO.ite ?_ ?_
   | refine LeO.bind ?_ (fun _ => ?_)
end Go.Proofs.YtjogkfcjlljjcaaDoor.P
namespace Go.Proofs.YtjogkfcjlljjcaaDoor.Num
open Go.RowKit Go.Proofs.YtjogkfcjlljjcaaDoorW.PrintWords Go.Proofs.YtjogkfcjlljjcaaDoorW.PrintMore
theorem w64 {n : Int} (h0 : -9223372036854775808 ≤ n) (h1 : n < 9223372036854775808) : wrap64 n = n := by unfold wrap64; omega
def p (j : Nat) : Int := 256 ^ j
end Go.Proofs.YtjogkfcjlljjcaaDoor.Num
namespace Go.Proofs.YtjogkfcjlljjcaaDoor.Num
open Go.RowKit Go.Proofs.YtjogkfcjlljjcaaDoorW.PrintWords Go.Proofs.YtjogkfcjlljjcaaDoorW.PrintMore
theorem bt_at (s : ByteArray) (i : Nat) (h : i < s.size) : bt s (i : Int) = ((s.data.toList[i]'(by simpa using h)).toNat : Int) := by
  unfold bt;rw [dif_pos (show ((i : Int)).toNat < s.size by simpa using h)];rfl
theorem toList_inj' (a b : ByteArray) : a.toList = b.toList ↔ a = b := by
  rw [ByteArray.toList_eq, ByteArray.toList_eq]
  constructor
  · intro h;apply ByteArray.ext;exact Array.toList_inj.mp h
  · intro h;rw [h]
end Go.Proofs.YtjogkfcjlljjcaaDoor.Num
namespace Go.Proofs.YtjogkfcjlljjcaaDoor.Pure
open Go.RowKit Go.Proofs.YtjogkfcjlljjcaaDoor.P Go.Proofs.YtjogkfcjlljjcaaDoorW.PrintWords Go.Proofs.YtjogkfcjlljjcaaDoorW.PrintLast Go.Proofs.YtjogkfcjlljjcaaDoorW.PrintMore Go.Proofs.YtjogkfcjlljjcaaDoor.Num
set_option linter.unusedVariables false
set_option linter.unusedSimpArgs false
theorem mark5 (c : Nat) : mark_ 5 c = decide ((97 ≤ c ∧ c ≤ 122) ∨ (48 ≤ c ∧ c ≤ 57) ∨ c = 46 ∨ c = 45 ∨ c = 58) := by
  rw [Bool.eq_iff_iff];simp only [mark_, lo_, hi_, Bool.false_or, Bool.or_eq_true, decide_eq_true_eq];omega
def letter_ (b : Int) : Bool := decide (97 ≤ b ∧ b ≤ 122)
def digit_ (b : Int) : Bool := decide (48 ≤ b ∧ b ≤ 57)
theorem ref_letter (b : Int) : headgateref03_letter.f b = some (letter_ b) := by
  unfold headgateref03_letter.f letter_
  split
  · congr 1
    rw [decide_eq_decide];omega
  · rw [decide_eq_false (by omega)]
theorem ref_digit (b : Int) : headgateref03_digit.f b = some (digit_ b) := by
  unfold headgateref03_digit.f digit_
  split
  · congr 1
    rw [decide_eq_decide];omega
  · rw [decide_eq_false (by omega)]
theorem ref_Name_l0 (s : ByteArray) (hs : s.size ≤ 64) : ∀ (d k i : Nat), i + d = s.size → d < k → headgateref03_Name.l0 k s (i : Int) = some ((s.data.toList.drop i).all (fun c => mark_ 5 c.toNat))
  | 0, k + 1, i, h, _ => by
    rw [headgateref03_Name.l0, if_neg (by omega), List.drop_eq_nil_of_le (show s.data.toList.length ≤ i by show s.size ≤ i; omega)];rfl
  | d + 1, k + 1, i, h, hk => by
    have hi : i < s.size := by omega
    have hl : i < s.data.toList.length := hi;have e := ref_Name_l0 s hs d k (i + 1) (by omega) (by omega)
    have hw : wrap64 ((i : Int) + 1) = ((i + 1 : Nat) : Int) := by rw [w64 (by omega) (by omega)]; omega
    have hb : bt s (i : Int) = ((s.data.toList[i]'hl).toNat : Int) := bt_at s i hi;rw [headgateref03_Name.l0, if_pos (by omega), if_pos (by omega), ref_letter, ref_digit, Option.bind_some, Option.bind_some, hw, e, List.drop_eq_getElem_cons hl, List.all_cons, hb, mark5];generalize (s.data.toList[i]'hl).toNat = c;generalize (s.data.toList.drop (i + 1)).all (fun c => mark_ 5 c.toNat) = R;clear hb e hw;unfold letter_ digit_;by_cases a1 : (97 ≤ c ∧ c ≤ 122)
    · rw [decide_eq_true (show (97 : Int) ≤ c ∧ (c : Int) ≤ 122 by omega), if_pos rfl, decide_eq_true (by omega), Bool.true_and]
    rw [decide_eq_false (show ¬ ((97 : Int) ≤ c ∧ (c : Int) ≤ 122) by omega), if_neg (by decide)];by_cases a2 : (48 ≤ c ∧ c ≤ 57)
    · rw [decide_eq_true (show (48 : Int) ≤ c ∧ (c : Int) ≤ 57 by omega), if_pos rfl, decide_eq_true (by omega), Bool.true_and]
    rw [decide_eq_false (show ¬ ((48 : Int) ≤ c ∧ (c : Int) ≤ 57) by omega), if_neg (by decide)];by_cases a3 : c = 46
    · rw [if_pos (by omega), decide_eq_true (by omega), Bool.true_and]
    rw [if_neg (by omega)];by_cases a4 : c = 45
    · rw [if_pos (by omega), decide_eq_true (by omega), Bool.true_and]
    rw [if_neg (by omega)];by_cases a5 : c = 58
    · rw [if_pos (by omega), decide_eq_true (by omega), Bool.true_and]
    rw [if_neg (by omega), decide_eq_false (by omega), Bool.false_and]
theorem ref_Name_spec (k : Nat) (s : ByteArray) (hk : 70 ≤ k) : headgateref03_Name.f k s = some (nameB s) := by
  obtain ⟨k, rfl⟩ : ∃ q, k = q + 1 := ⟨k - 1, by omega⟩
  have ht : headgateref03_Name.j0 (k + 1) s true = some false := by rw [headgateref03_Name.j0, if_pos rfl]
  unfold headgateref03_Name.f nameB;by_cases h1 : s.size < 1
  · rw [if_pos (by omega), ht, decide_eq_false (by omega), Bool.false_and]
  rw [if_neg (by omega)];by_cases h2 : s.size > 64
  · rw [if_pos (by omega), ht, decide_eq_false (by omega), Bool.false_and]
  rw [if_neg (by omega), if_pos (by omega), ref_letter, Option.bind_some];unfold letter_;by_cases h3 : 97 ≤ bt s 0 ∧ bt s 0 ≤ 122
  · have e := ref_Name_l0 s (by omega) s.size k 0 (by omega) (by omega);rw [decide_eq_true h3, decide_eq_true ⟨by omega, by omega, h3.1, h3.2⟩, headgateref03_Name.j0, if_neg (by decide), Bool.true_and];exact e
  · rw [decide_eq_false h3, decide_eq_false (fun h => h3 h.2.2), Bool.false_and];exact ht
end Go.Proofs.YtjogkfcjlljjcaaDoor.Pure
namespace Go.Proofs.YtjogkfcjlljjcaaDoor.Pure
open Go.RowKit Go.Proofs.YtjogkfcjlljjcaaDoor.P Go.Proofs.YtjogkfcjlljjcaaDoorW.PrintWords Go.Proofs.YtjogkfcjlljjcaaDoorW.PrintLast Go.Proofs.YtjogkfcjlljjcaaDoorW.PrintMore Go.Proofs.YtjogkfcjlljjcaaDoor.Num
set_option linter.unusedVariables false
set_option linter.unusedSimpArgs false
theorem rd_at (l : List S53) (i : Nat) (h : i < l.length) : rd_T53 l (i : Int) = l[i] := by
  unfold rd_T53;rw [List.getD_eq_getElem?_getD, Int.toNat_natCast, List.getElem?_eq_getElem h];rfl
def reg (l : List S53) (h : ByteArray) : Bool := l.any fun r => decide (r.f0.toList = h.toList)
theorem ref_l0 (h : ByteArray) (l : List S53) (t : Int) (o : ByteArray) (g : Int) (b : Bool) (hl : l.length ≤ 1000) : ∀ (n k i : Nat), i + n = l.length → n + 1 ≤ k → headgateref10_Registered.l0 k h (i : Int) l t o g b = some ((l.drop i).any fun r => decide (r.f0.toList = h.toList))
  | 0, k + 1, i, hi, hk => by
    show (if (i : Int) < (l.length : Int) then _ else some false) = _
    rw [if_neg (by omega), List.drop_eq_nil_of_le (by omega)];rfl
  | n + 1, k + 1, i, hi, hk => by
    have hlt : i < l.length := by omega
    show (if (i : Int) < (l.length : Int) then (if 0 ≤ (i : Int) then (if ((rd_T53 l i).f0).toList = h.toList then (some true) else (headgateref10_Registered.l0 k h (wrap64 ((i : Int) + 1)) l t o g b)) else none) else some false) = _
    rw [if_pos (by omega), if_pos (by omega), rd_at l i hlt, List.drop_eq_getElem_cons hlt, List.any_cons];by_cases hc : (l[i]).f0.toList = h.toList
    · rw [if_pos hc, decide_eq_true hc];rfl
    · rw [if_neg hc, decide_eq_false hc, w64 (by omega) (by omega)];exact ref_l0 h l t o g b hl n k (i + 1) (by omega) (by omega)
theorem ref_spec (k : Nat) (l : List S53) (t : Int) (o : ByteArray) (g : Int) (b : Bool) (h : ByteArray) (hl : l.length ≤ 201) (hk : 210 ≤ k) : headgateref10_Registered.f k l t o g b h = some (reg l h) :=
  ref_l0 h l t o g b (by omega) l.length k 0 (by omega) (by omega)
theorem regs_l0 (l m : List S53) (e : l.length = m.length) (hl : l.length ≤ 1000) : ∀ (n k i : Nat), i + n = l.length → n + 1 ≤ k → ∃ z, headgatekeep_Regs.l0 k l m (i : Int) = some z ∧ (z = true ↔ l.drop i = m.drop i)
  | 0, k + 1, i, hi, hk => by
    refine ⟨true, ?_, ?_⟩
    · show (if (i : Int) < (l.length : Int) then _ else some true) = _
      rw [if_neg (by omega)]
    · rw [List.drop_eq_nil_of_le (by omega), List.drop_eq_nil_of_le (by omega)];simp
  | n + 1, k + 1, i, hi, hk => by
    have h1 : i < l.length := by omega
    have h2 : i < m.length := by omega
    show ∃ z, (if (i : Int) < (l.length : Int) then (if 0 ≤ (i : Int) then (if (i : Int) < (m.length : Int) then (if ((rd_T53 l i).f0).toList = ((rd_T53 m i).f0).toList then (if ((rd_T53 l i).f1) = ((rd_T53 m i).f1) then (headgatekeep_Regs.l0 k l m (wrap64 ((i : Int) + 1))) else (some false)) else (some false)) else (none)) else (none)) else (some true)) = some z ∧ _
    rw [if_pos (by omega), if_pos (by omega), if_pos (by omega), rd_at l i h1, rd_at m i h2, List.drop_eq_getElem_cons h1, List.drop_eq_getElem_cons h2];by_cases c1 : (l[i]).f0.toList = (m[i]).f0.toList
    · rw [if_pos c1];by_cases c2 : (l[i]).f1 = (m[i]).f1
      · rw [if_pos c2, w64 (by omega) (by omega)];obtain ⟨z, hz, hx⟩ := regs_l0 l m e hl n k (i + 1) (by omega) (by omega);refine ⟨z, hz, hx.trans ?_⟩
        have : l[i] = m[i] := by
          have c1' := (toList_inj' _ _).mp c1;cases h3 : l[i];cases h4 : m[i];rw [h3, h4] at c1' c2;simp only at c1' c2;rw [c1', c2]
        rw [this, List.cons_inj_right]
      · rw [if_neg c2];exact ⟨false, rfl, by simp only [Bool.false_eq_true, false_iff, List.cons.injEq, not_and]; intro h; exact absurd (congrArg S53.f1 h) c2⟩
    · rw [if_neg c1];exact ⟨false, rfl, by simp only [Bool.false_eq_true, false_iff, List.cons.injEq, not_and]; intro h; exact absurd (congrArg (fun x => x.f0.toList) h) c1⟩
theorem Tables_spec (k : Nat) (l : List S53) (t : Int) (o : ByteArray) (g : Int) (b : Bool) (l' : List S53) (t' : Int) (o' : ByteArray) (g' : Int) (b' : Bool) (hl : l.length ≤ 300) (hk : 310 ≤ k) : ∃ z, headgatekeep_Tables.f k l t o g b l' t' o' g' b' = some z ∧ (z = true ↔ (l = l' ∧ t = t' ∧ o = o' ∧ g = g' ∧ b = b')) := by
  unfold headgatekeep_Tables.f headgatekeep_Regs.f;by_cases e : l.length = l'.length
  · obtain ⟨z, hz, hx⟩ := regs_l0 l l' e (by omega) l.length k 0 (by omega) (by omega);simp only [List.drop_zero] at hx;have hz' : headgatekeep_Regs.l0 k l l' 0 = some z := hz;rw [if_pos (by omega), hz', Option.bind_some];by_cases h1 : l = l'
    · rw [if_pos (hx.mpr h1)];by_cases h2 : t = t'
      · rw [if_pos h2];by_cases h3 : o = o'
        · rw [if_pos (by rw [h3])];by_cases h4 : g = g'
          · rw [if_pos h4];refine ⟨_, rfl, ?_⟩;rw [beq_iff_eq];exact ⟨fun h5 => ⟨h1, h2, h3, h4, h5⟩, fun z => z.2.2.2.2⟩
          · rw [if_neg h4];exact ⟨false, rfl, fun z => Bool.noConfusion z, fun z => absurd z.2.2.2.1 h4⟩
        · rw [if_neg (fun z => h3 ((toList_inj' _ _).mp z))];exact ⟨false, rfl, fun z => Bool.noConfusion z, fun z => absurd z.2.2.1 h3⟩
      · rw [if_neg h2];exact ⟨false, rfl, fun z => Bool.noConfusion z, fun z => absurd z.2.1 h2⟩
    · rw [if_neg (fun z => h1 (hx.mp z))];exact ⟨false, rfl, fun z => Bool.noConfusion z, fun z => absurd z.1 h1⟩
  · rw [if_neg (by omega), Option.bind_some, if_neg (by decide)];exact ⟨false, rfl, fun z => Bool.noConfusion z, fun z => absurd (by rw [z.1]) e⟩
def goodB (l : List S53) (typ : Int) (host : ByteArray) : Bool := if (l.length : Int) > 16 then false else if okAll_ l then holdOk_ l typ host else false
theorem Good_spec (l : List S53) (typ : Int) (host : ByteArray) (gen : Int) (apt : Bool) (hh : host.size ≤ 5000) (hl : ∀ x ∈ l, x.f0.size ≤ 5000) : resv_Good.f l typ host gen apt = some (goodB l typ host) := by
  unfold resv_Good.f goodB;rw [if_pos ⟨by omega, fun x hx => by have := hl x hx; omega⟩]
theorem good_iff (l : List S53) (typ : Int) (host : ByteArray) : goodB l typ host = true ↔ l.length ≤ 16 ∧ okAll_ l ∧ holdOk_ l typ host = true := by
  unfold goodB;by_cases h1 : (l.length : Int) > 16
  · rw [if_pos h1];exact ⟨fun h => Bool.noConfusion h, fun h => by omega⟩
  · rw [if_neg h1];by_cases h2 : okAll_ l
    · rw [if_pos h2];exact ⟨fun h => ⟨by omega, h2, h⟩, fun h => h.2.2⟩
    · rw [if_neg h2];exact ⟨fun h => Bool.noConfusion h, fun h => absurd h.2.1 h2⟩
theorem mem_hosts (l : List S53) (i : Nat) (h : ByteArray) : h.data.toList ∈ hosts_ l i ↔ ∃ j, j < i ∧ ∃ hj : j < l.length, (l[j]).f0 = h := by
  unfold hosts_;rw [List.mem_map]
  constructor
  · rintro ⟨x, hx, he⟩;obtain ⟨j, hj, rfl⟩ := List.getElem_of_mem hx
    have hj1 : j < i := by have := hj; rw [List.length_take] at this; omega
    have hj2 : j < l.length := by have := hj; rw [List.length_take] at this; omega
    refine ⟨j, hj1, hj2, ?_⟩;rw [List.getElem_take] at he;exact ByteArray.ext (Array.toList_inj.mp he)
  · rintro ⟨j, hj, hl, rfl⟩;refine ⟨l[j], ?_, rfl⟩;rw [List.mem_take_iff_getElem];exact ⟨j, by omega, rfl⟩
theorem ok_at (l : List S53) (i : Nat) (hi : i < l.length) : okAt_ l i ↔ (∀ j, ∀ hj : j < i, (l[j]'(by omega)).f0 ≠ (l[i]).f0) ∧ nameB (l[i]).f0 = true ∧ (l[i]).f1 ≠ 0 := by
  unfold okAt_;rw [rd_at l i hi, mem_hosts];refine and_congr_left' ?_;exact ⟨fun h j hj e => h ⟨j, hj, by omega, e⟩, fun h ⟨j, hj, _, e⟩ => h j hj e⟩
theorem name_size {s : ByteArray} (h : nameB s = true) : 1 ≤ s.size ∧ s.size ≤ 64 := by
  unfold nameB at h;rw [Bool.and_eq_true] at h;have := of_decide_eq_true h.1;exact ⟨this.1, this.2.1⟩
theorem reg_hosts (l : List S53) (h : ByteArray) : reg l h = decide (h.data.toList ∈ hosts_ l l.length) := by
  rw [Bool.eq_iff_iff, decide_eq_true_iff, mem_hosts];unfold reg;rw [List.any_eq_true]
  constructor
  · rintro ⟨x, hx, he⟩;obtain ⟨j, hj, rfl⟩ := List.getElem_of_mem hx;exact ⟨j, hj, hj, (toList_inj' _ _).mp (of_decide_eq_true he)⟩
  · rintro ⟨j, _, hj, rfl⟩;exact ⟨l[j], List.getElem_mem hj, decide_eq_true rfl⟩
end Go.Proofs.YtjogkfcjlljjcaaDoor.Pure
namespace Go.Proofs.YtjogkfcjlljjcaaDoor.Pure
open Go.RowKit Go.Proofs.YtjogkfcjlljjcaaDoor.P Go.Proofs.YtjogkfcjlljjcaaDoorW.PrintWords Go.Proofs.YtjogkfcjlljjcaaDoorW.PrintLast Go.Proofs.YtjogkfcjlljjcaaDoorW.PrintMore Go.Proofs.YtjogkfcjlljjcaaDoor.Num
set_option linter.unusedVariables false
set_option linter.unusedSimpArgs false
theorem alone_spec (t : Int) : headgateref11_alone.f t = some (decide (1 ≤ t ∧ t ≤ 4)) := by
  unfold headgateref11_alone.f;by_cases h : t ≥ 1
  · rw [if_pos h];by_cases h2 : t ≤ 4
    · rw [decide_eq_true h2, decide_eq_true ⟨h, h2⟩]
    · rw [decide_eq_false h2, decide_eq_false (fun z => h2 z.2)]
  · rw [if_neg h, decide_eq_false (fun z => h z.1)]
theorem refType_spec (t : Int) : headgateref10_Type.f t = some (decide (1 ≤ t ∧ t ≤ 6)) := by
  unfold headgateref10_Type.f;by_cases h : t ≥ 1
  · rw [if_pos h];by_cases h2 : t ≤ 6
    · rw [decide_eq_true h2, decide_eq_true ⟨h, h2⟩]
    · rw [decide_eq_false h2, decide_eq_false (fun z => h2 z.2)]
  · rw [if_neg h, decide_eq_false (fun z => h z.1)]
theorem good_end (l : List S53) (typ : Int) (host : ByteArray) (gen : Int) (apt : Bool) (hl : l.length ≤ 16) (k : Nat) (hk : 220 ≤ k) : headgateref11_Good.l0 k (l.length : Int) l typ host gen apt = some (holdOk_ l typ host) := by
  obtain ⟨k, rfl⟩ : ∃ q, k = q + 1 := ⟨k - 1, by omega⟩
  rw [headgateref11_Good.l0, if_neg (by omega)];unfold holdOk_;by_cases h0 : typ = 0
  · rw [if_pos h0, if_pos h0]
  · rw [if_neg h0, if_neg h0, alone_spec, Option.bind_some];by_cases h1 : 1 ≤ typ ∧ typ ≤ 4
    · rw [decide_eq_true h1, if_pos rfl, ref_spec k l typ host gen apt host (by omega) (by omega), Option.bind_some, if_neg (show ¬ (typ < 1 ∨ 6 < typ) by omega), if_neg (show ¬ (typ = 5 ∨ typ = 6) by omega), reg_hosts]
    · rw [decide_eq_false h1, if_neg (by decide), refType_spec, Option.bind_some];by_cases h2 : 1 ≤ typ ∧ typ ≤ 6
      · rw [decide_eq_true h2, if_pos rfl, if_neg (show ¬ (typ < 1 ∨ 6 < typ) by omega), if_pos (show typ = 5 ∨ typ = 6 by omega)]
        by_cases h3 : host.toList = ([] : List UInt8)
        · rw [if_pos h3, beq_iff_eq.mpr h3, Bool.true_and]
          congr 1
          rw [decide_eq_decide];omega
        · rw [if_neg h3, beq_eq_false_iff_ne.mpr h3, Bool.false_and]
      · rw [decide_eq_false h2, if_neg (by decide), if_pos (by omega)]
open Classical in
theorem good_l1 (l : List S53) (typ : Int) (host : ByteArray) (gen : Int) (apt : Bool) (hl : l.length ≤ 16) (i : Nat) (hi : i < l.length) (R : Bool) (K : Nat) (hR : ∀ k, K ≤ k → headgateref11_Good.l0 k ((i + 1 : Nat) : Int) l typ host gen apt = some R) : ∀ (n k j : Nat), j + n = i → K + n + 1 ≤ k →
    headgateref11_Good.l1 k (i : Int) (j : Int) l typ host gen apt = some (if ∃ j', j ≤ j' ∧ j' < i ∧ (rd_T53 l (j' : Int)).f0.toList = (rd_T53 l (i : Int)).f0.toList then false else R)
  | 0, k + 1, j, hj, hk => by
    rw [headgateref11_Good.l1, if_neg (by omega), if_neg (fun ⟨j', h1, h2, _⟩ => by omega), w64 (by omega) (by omega)]
    exact hR k (by omega)
  | n + 1, k + 1, j, hj, hk => by
    rw [headgateref11_Good.l1, if_pos (by omega), if_pos (by omega), if_pos (by omega), if_pos (by omega), if_pos (by omega)]
    by_cases hc : (rd_T53 l (j : Int)).f0.toList = (rd_T53 l (i : Int)).f0.toList
    · rw [if_pos hc, if_pos ⟨j, Nat.le_refl _, by omega, hc⟩]
    · rw [if_neg hc, w64 (by omega) (by omega)]
      have := good_l1 l typ host gen apt hl i hi R K hR n k (j + 1) (by omega) (by omega)
      have e : (∃ j', j ≤ j' ∧ j' < i ∧ (rd_T53 l (j' : Int)).f0.toList = (rd_T53 l (i : Int)).f0.toList) ↔ (∃ j', j + 1 ≤ j' ∧ j' < i ∧ (rd_T53 l (j' : Int)).f0.toList = (rd_T53 l (i : Int)).f0.toList) := by
        constructor
        · rintro ⟨j', h1, h2, h3⟩
          by_cases h4 : j' = j
          · subst h4; exact absurd h3 hc
          · exact ⟨j', by omega, h2, h3⟩
        · rintro ⟨j', h1, h2, h3⟩
          exact ⟨j', by omega, h2, h3⟩
      simp only [e]
      exact this
theorem okAt_dup (l : List S53) (i : Nat) (hi : i < l.length) : (∃ j', 0 ≤ j' ∧ j' < i ∧ (rd_T53 l (j' : Int)).f0.toList = (rd_T53 l (i : Int)).f0.toList) ↔ (rd_T53 l (i : Int)).f0.data.toList ∈ hosts_ l i := by
  rw [rd_at l i hi, mem_hosts]
  constructor
  · rintro ⟨j, _, h2, h3⟩
    have hj : j < l.length := by omega
    rw [rd_at l j hj] at h3;exact ⟨j, h2, hj, (toList_inj' _ _).mp h3⟩
  · rintro ⟨j, h2, hj, h3⟩;exact ⟨j, Nat.zero_le _, h2, by rw [rd_at l j hj, h3]⟩
open Classical in
theorem good_l0 (l : List S53) (typ : Int) (host : ByteArray) (gen : Int) (apt : Bool) (hl : l.length ≤ 16) : ∀ (n k i : Nat), i + n = l.length → 220 + 30 * n ≤ k →
    headgateref11_Good.l0 k (i : Int) l typ host gen apt = some (if ∀ j, i ≤ j → j < l.length → okAt_ l j then holdOk_ l typ host else false)
  | 0, k, i, hi, hk => by
    have : i = l.length := by omega
    subst this
    rw [good_end l typ host gen apt hl k (by omega), if_pos (fun j h1 h2 => by omega)]
  | n + 1, k, i, hi, hk => by
    obtain ⟨k, rfl⟩ : ∃ q, k = q + 2 := ⟨k - 2, by omega⟩
    have hlt : i < l.length := by omega
    have ih := fun k' (hk' : 220 + 30 * n ≤ k') => good_l0 l typ host gen apt hl n k' (i + 1) (by omega) hk'
    have e1 := good_l1 l typ host gen apt hl i hlt _ (220 + 30 * n) ih i k 0 (by omega) (by omega)
    have split_ : (∀ j, i ≤ j → j < l.length → okAt_ l j) ↔ okAt_ l i ∧ (∀ j, i + 1 ≤ j → j < l.length → okAt_ l j) := by
      constructor
      · exact fun h => ⟨h i (Nat.le_refl _) hlt, fun j h1 h2 => h j (by omega) h2⟩
      · rintro ⟨h1, h2⟩ j h3 h4
        by_cases h5 : j = i
        · subst h5; exact h1
        · exact h2 j (by omega) h4
    rw [headgateref11_Good.l0, if_pos (by omega), if_pos (by omega), ref_Name_spec (k + 1) _ (by omega), Option.bind_some]
    have hok : okAt_ l i = ((rd_T53 l (i : Int)).f0.data.toList ∉ hosts_ l i ∧ nameB (rd_T53 l (i : Int)).f0 = true ∧ (rd_T53 l (i : Int)).f1 ≠ 0) := rfl
    by_cases hn : nameB (rd_T53 l (i : Int)).f0 = true
    · rw [if_pos hn]
      by_cases hk0 : (rd_T53 l (i : Int)).f1 = 0
      · rw [beq_iff_eq.mpr hk0, headgateref11_Good.j1, if_pos rfl, if_neg]
        intro h
        have := (split_.mp h).1
        rw [hok] at this
        exact this.2.2 hk0
      · rw [beq_eq_false_iff_ne.mpr hk0, headgateref11_Good.j1, if_neg (by decide)]
        refine e1.trans (congrArg some ?_)
        by_cases hd : (rd_T53 l (i : Int)).f0.data.toList ∈ hosts_ l i
        · rw [if_pos ((okAt_dup l i hlt).mpr hd), if_neg]
          intro h
          have := (split_.mp h).1
          rw [hok] at this
          exact this.1 hd
        · rw [if_neg (fun h => hd ((okAt_dup l i hlt).mp h))]
          have h1 : okAt_ l i := by rw [hok]; exact ⟨hd, hn, hk0⟩
          by_cases h2 : ∀ j, i + 1 ≤ j → j < l.length → okAt_ l j
          · rw [if_pos h2, if_pos (split_.mpr ⟨h1, h2⟩)]
          · rw [if_neg h2, if_neg (fun h => h2 (split_.mp h).2)]
    · rw [if_neg hn, headgateref11_Good.j1, if_pos rfl, if_neg]
      intro h
      have := (split_.mp h).1
      rw [hok] at this
      exact hn this.2.1
theorem ref_Good_spec (l : List S53) (typ : Int) (host : ByteArray) (gen : Int) (apt : Bool) (k : Nat) (hk : 800 ≤ k) : headgateref11_Good.f k l typ host gen apt = some (goodB l typ host) := by
  unfold headgateref11_Good.f goodB;by_cases h : (l.length : Int) > 16
  · rw [if_pos h, if_pos h]
  · rw [if_neg h, if_neg h];have := good_l0 l typ host gen apt (by omega) l.length k 0 (by omega) (by omega);refine this.trans (congrArg some ?_)
    have e : (∀ j, 0 ≤ j → j < l.length → okAt_ l j) ↔ okAll_ l := ⟨fun h j hj => h j (Nat.zero_le _) hj, fun h j _ hj => h j hj⟩
    by_cases h2 : okAll_ l
    · rw [if_pos (e.mpr h2), if_pos h2]
    · rw [if_neg (fun z => h2 (e.mp z)), if_neg h2]
end Go.Proofs.YtjogkfcjlljjcaaDoor.Pure
namespace Go.Proofs.YtjogkfcjlljjcaaDoor.Pure
open Go.RowKit Go.Proofs.YtjogkfcjlljjcaaDoor.P Go.Proofs.YtjogkfcjlljjcaaDoorW.PrintWords Go.Proofs.YtjogkfcjlljjcaaDoorW.PrintLast Go.Proofs.YtjogkfcjlljjcaaDoorW.PrintMore Go.Proofs.YtjogkfcjlljjcaaDoor.Num
set_option linter.unusedVariables false
set_option linter.unusedSimpArgs false
def typed (t : Int) : Bool := decide (1 ≤ t ∧ t ≤ 6)
def holds (l : List S53) (t : Int) (o h : ByteArray) : Bool :=
  if typed t then (if t = 5 ∨ t = 6 then reg l h else decide (h.toList = o.toList)) else false
theorem registered_l0 (h : ByteArray) (l : List S53) (hl : l.length ≤ 1000) : ∀ (n k i : Nat), i + n = l.length → n + 1 ≤ k → access_registered.l0 k h l (l.length : Int) (i : Int) = some ((l.drop i).any fun r => decide (r.f0.toList = h.toList))
  | 0, k + 1, i, hi, hk => by
    show (if (i : Int) < (l.length : Int) then _ else some false) = _
    rw [if_neg (by omega), List.drop_eq_nil_of_le (by omega)];rfl
  | n + 1, k + 1, i, hi, hk => by
    have hlt : i < l.length := by omega
    show (if (i : Int) < (l.length : Int) then (if 0 ≤ (i : Int) then (if (i : Int) < (l.length : Int) then (if ((rd_T53 l i).f0).toList = h.toList then (some true) else (access_registered.l0 k h l (l.length : Int) (wrap64 ((i : Int) + 1)))) else none) else none) else some false) = _
    rw [if_pos (by omega), if_pos (by omega), if_pos (by omega), rd_at l i hlt, List.drop_eq_getElem_cons hlt, List.any_cons];by_cases hc : (l[i]).f0.toList = h.toList
    · rw [if_pos hc, decide_eq_true hc];rfl
    · rw [if_neg hc, decide_eq_false hc, w64 (by omega) (by omega)];exact registered_l0 h l hl n k (i + 1) (by omega) (by omega)
theorem registered_spec (k : Nat) (l : List S53) (t : Int) (o : ByteArray) (g : Int) (b : Bool) (h : ByteArray) (hl : l.length ≤ 201) (hk : 210 ≤ k) : access_registered.f k l t o g b h = some (reg l h) :=
  registered_l0 h l (by omega) l.length k 0 (by omega) (by omega)
theorem Type_spec (t : Int) : access_Type.f t = some (typed t) := by
  unfold access_Type.f typed;by_cases h : t ≥ 1
  · rw [if_pos h]
    congr 1
    rw [decide_eq_decide];omega
  · rw [if_neg h, decide_eq_false (by omega)]
theorem typed_cases {t : Int} (h : typed t = true) : t = 1 ∨ t = 2 ∨ t = 3 ∨ t = 4 ∨ t = 5 ∨ t = 6 := by
  have := of_decide_eq_true h;omega
theorem beq_dec (a b : List UInt8) : (a == b) = decide (a = b) := by
  by_cases h : a = b
  · rw [h];simp
  · rw [decide_eq_false h];exact beq_eq_false_iff_ne.mpr h
theorem Holds_spec (k : Nat) (l : List S53) (t : Int) (o : ByteArray) (g : Int) (b : Bool) (h : ByteArray) (hl : l.length ≤ 201) (hk : 210 ≤ k) : access_Holds.f k l t o g b h = some (holds l t o h) := by
  unfold access_Holds.f;rw [Type_spec, Option.bind_some];unfold holds
  cases ht : typed t with
  | false => rfl
  | true =>
    rw [if_pos rfl, if_pos rfl, registered_spec k l t o g b h hl hk]
    rcases typed_cases ht with rfl | rfl | rfl | rfl | rfl | rfl
    all_goals first
      | (rw [if_pos (by decide), if_pos (by decide), if_pos (by decide +kernel), if_neg (by decide), beq_dec])
      | (rw [if_pos (by decide), if_pos (by decide), if_neg (by decide +kernel), if_pos (by decide)]; rfl)
theorem refHolds_spec (k : Nat) (l : List S53) (t : Int) (o : ByteArray) (g : Int) (b : Bool) (h : ByteArray) (hl : l.length ≤ 201) (hk : 220 ≤ k) : headgateref10_Holds.f k l t o g b h = some (holds l t o h) := by
  obtain ⟨k, rfl⟩ := Nat.exists_eq_add_of_le' (show 1 ≤ k by omega);have hr := ref_spec k l t o g b h hl (by omega)
  have hj : ∀ z, headgateref10_Holds.j0 (k + 1) h t z l t o g b = if z = true then (some (o.toList == h.toList)) else (if t = 5 then ((headgateref10_Registered.f k l t o g b h).bind fun t140 => (some t140)) else (if t = 6 then ((headgateref10_Registered.f k l t o g b h).bind fun t141 => (some t141)) else (some false))) := fun z => rfl
  have hs : (o.toList == h.toList) = decide (h.toList = o.toList) := by
    rw [beq_dec, decide_eq_decide];exact eq_comm
  unfold headgateref10_Holds.f holds;simp only [hj, hr, hs, Option.bind_some];by_cases ht : typed t = true
  · rw [if_pos ht]
    rcases typed_cases ht with rfl | rfl | rfl | rfl | rfl | rfl <;> simp
  · rw [if_neg ht]
    have h6 : ¬(1 ≤ t ∧ t ≤ 6) := fun hh => ht (decide_eq_true hh)
    rw [if_neg (by omega), if_neg (by omega), if_neg (by omega)];have h4 : (t == 4) = false := beq_eq_false_iff_ne.mpr (by omega);rw [h4, if_neg (by decide), if_neg (by omega), if_neg (by omega)]
end Go.Proofs.YtjogkfcjlljjcaaDoor.Pure
namespace Go.Proofs.YtjogkfcjlljjcaaDoor.Pure
open Go.RowKit Go.Proofs.YtjogkfcjlljjcaaDoor.P Go.Proofs.YtjogkfcjlljjcaaDoorW.PrintWords Go.Proofs.YtjogkfcjlljjcaaDoorW.PrintLast Go.Proofs.YtjogkfcjlljjcaaDoorW.PrintMore Go.Proofs.YtjogkfcjlljjcaaDoor.Num
set_option linter.unusedVariables false
set_option linter.unusedSimpArgs false
def keyL (l : List S53) (h : ByteArray) : Int := match l.find? (fun r => decide (r.f0.toList = h.toList)) with | some r => r.f1 | none => 0
theorem Key_l0 (h : ByteArray) (l : List S53) (hl : l.length ≤ 1000) : ∀ (n k i : Nat), i + n = l.length → n + 1 ≤ k → resv_Key.l0 k h l (l.length : Int) (i : Int) = some (keyL (l.drop i) h)
  | 0, k + 1, i, hi, hk => by
    show (if (i : Int) < (l.length : Int) then _ else some 0) = _
    rw [if_neg (by omega), List.drop_eq_nil_of_le (by omega)];rfl
  | n + 1, k + 1, i, hi, hk => by
    have hlt : i < l.length := by omega
    show (if (i : Int) < (l.length : Int) then (if 0 ≤ (i : Int) then (if (i : Int) < (l.length : Int) then (if ((rd_T53 l i).f0).toList = h.toList then (some ((rd_T53 l i).f1)) else (resv_Key.l0 k h l (l.length : Int) (wrap64 ((i : Int) + 1)))) else (none)) else (none)) else (some 0)) = _
    rw [if_pos (by omega), if_pos (by omega), if_pos (by omega), rd_at l i hlt, List.drop_eq_getElem_cons hlt];unfold keyL;rw [List.find?_cons];by_cases hc : (l[i]).f0.toList = h.toList
    · rw [if_pos hc, decide_eq_true hc]
    · rw [if_neg hc, decide_eq_false hc, w64 (by omega) (by omega)];exact Key_l0 h l hl n k (i + 1) (by omega) (by omega)
theorem Key_spec (k : Nat) (l : List S53) (t : Int) (o : ByteArray) (g : Int) (b : Bool) (h : ByteArray) (hl : l.length ≤ 201) (hk : 210 ≤ k) : resv_Key.f k l t o g b h = some (keyL l h) :=
  Key_l0 h l (by omega) l.length k 0 (by omega) (by omega)
theorem refKey_l0 (h : ByteArray) (l : List S53) (t : Int) (o : ByteArray) (g : Int) (b : Bool) (hl : l.length ≤ 1000) : ∀ (n k i : Nat), i + n = l.length → n + 1 ≤ k → headgateref11_Key.l0 k h (i : Int) l t o g b = some (keyL (l.drop i) h)
  | 0, k + 1, i, hi, hk => by
    show (if (i : Int) < (l.length : Int) then _ else some 0) = _
    rw [if_neg (by omega), List.drop_eq_nil_of_le (by omega)];rfl
  | n + 1, k + 1, i, hi, hk => by
    have hlt : i < l.length := by omega
    show (if (i : Int) < (l.length : Int) then (if 0 ≤ (i : Int) then (if ((rd_T53 l i).f0).toList = h.toList then (some ((rd_T53 l i).f1)) else (headgateref11_Key.l0 k h (wrap64 ((i : Int) + 1)) l t o g b)) else (none)) else (some 0)) = _
    rw [if_pos (by omega), if_pos (by omega), rd_at l i hlt, List.drop_eq_getElem_cons hlt];unfold keyL;rw [List.find?_cons];by_cases hc : (l[i]).f0.toList = h.toList
    · rw [if_pos hc, decide_eq_true hc]
    · rw [if_neg hc, decide_eq_false hc, w64 (by omega) (by omega)];exact refKey_l0 h l t o g b hl n k (i + 1) (by omega) (by omega)
theorem refKey_spec (k : Nat) (l : List S53) (t : Int) (o : ByteArray) (g : Int) (b : Bool) (h : ByteArray) (hl : l.length ≤ 201) (hk : 210 ≤ k) : headgateref11_Key.f k l t o g b h = some (keyL l h) :=
  refKey_l0 h l t o g b (by omega) l.length k 0 (by omega) (by omega)
theorem tl_inj {a b : ByteArray} : a.toList = b.toList ↔ a = b := toList_inj' a b
theorem tl_beq (a b : ByteArray) : (a.toList == b.toList) = decide (a = b) := by rw [beq_dec]; exact decide_eq_decide.mpr tl_inj
def okL (l : List S53) : Prop := (l.Pairwise fun a b => a.f0 ≠ b.f0) ∧ ∀ x ∈ l, nameB x.f0 = true ∧ x.f1 ≠ 0
theorem ok_iff (l : List S53) : okAll_ l ↔ okL l := by
  unfold okAll_ okL
  constructor
  · intro h;refine ⟨?_, ?_⟩
    · rw [List.pairwise_iff_getElem];intro i j hi hj hij;exact ((ok_at l j hj).mp (h j hj)).1 i hij
    · intro x hx;obtain ⟨i, hi, rfl⟩ := List.getElem_of_mem hx;exact ((ok_at l i hi).mp (h i hi)).2
  · rintro ⟨h1, h2⟩ i hi;rw [List.pairwise_iff_getElem] at h1;exact (ok_at l i hi).mpr ⟨fun j hj => h1 j i (by omega) hi hj, h2 _ (List.getElem_mem hi)⟩
theorem good_ok {l : List S53} {typ : Int} {host : ByteArray} (h : goodB l typ host = true) : l.length ≤ 16 ∧ okL l ∧ holdOk_ l typ host = true := by
  obtain ⟨h1, h2, h3⟩ := (good_iff l typ host).mp h;exact ⟨h1, (ok_iff l).mp h2, h3⟩
theorem good_mk {l : List S53} {typ : Int} {host : ByteArray} (h1 : l.length ≤ 16) (h2 : okL l) (h3 : holdOk_ l typ host = true) : goodB l typ host = true := (good_iff l typ host).mpr ⟨h1, (ok_iff l).mpr h2, h3⟩
theorem reg_iff (l : List S53) (h : ByteArray) : reg l h = true ↔ ∃ x ∈ l, x.f0 = h := by
  unfold reg;rw [List.any_eq_true]
  constructor
  · rintro ⟨x, hx, he⟩;exact ⟨x, hx, tl_inj.mp (of_decide_eq_true he)⟩
  · rintro ⟨x, hx, rfl⟩;exact ⟨x, hx, decide_eq_true rfl⟩
theorem keyL_none {l : List S53} {h : ByteArray} (hr : reg l h = false) : keyL l h = 0 := by
  unfold keyL;rw [List.find?_eq_none.mpr];intro x hx
  have := (Bool.eq_false_iff.mp hr)
  intro z;exact this ((reg_iff l h).mpr ⟨x, hx, tl_inj.mp (of_decide_eq_true z)⟩)
theorem keyL_some {l : List S53} {h : ByteArray} (hr : reg l h = true) : ∃ x ∈ l, x.f0 = h ∧ keyL l h = x.f1 := by
  unfold keyL
  cases hf : l.find? (fun r => decide (r.f0.toList = h.toList)) with
  | none =>
    obtain ⟨x, hx, he⟩ := (reg_iff l h).mp hr;have := List.find?_eq_none.mp hf x hx;exact absurd (decide_eq_true (by rw [he])) this
  | some x => exact (by
      have z := List.find?_some hf
      exact ⟨x, List.mem_of_find?_eq_some hf, tl_inj.mp (of_decide_eq_true z), rfl⟩)
theorem keyL_zero {l : List S53} (ho : okL l) (h : ByteArray) : keyL l h = 0 ↔ reg l h = false := by
  constructor
  · intro z
    cases hr : reg l h with
    | false => rfl
    | true =>
      obtain ⟨x, hx, _, hk⟩ := keyL_some hr;rw [hk] at z;exact absurd z (ho.2 x hx).2
  · exact keyL_none
theorem every_spec (t : Int) : resv_everybody.f t = some (decide (t = 5 ∨ t = 6)) := by
  unfold resv_everybody.f;by_cases h : t = 5
  · rw [if_pos h, decide_eq_true (Or.inl h)]
  · rw [if_neg h]
    congr 1
    by_cases h6 : t = 6
    · rw [decide_eq_true (Or.inr h6), h6]; rfl
    · rw [beq_eq_false_iff_ne.mpr h6, decide_eq_false (by omega)]
theorem me_none {l : List S53} {c : S31} (hr : reg l c.f2 = false) : l.findIdx? (fun x => meP c x.f0 x.f1) = none := by
  rw [List.findIdx?_eq_none_iff];intro x hx;unfold meP;rw [tl_beq];refine decide_eq_false (fun z => ?_);exact (Bool.eq_false_iff.mp hr) ((reg_iff l c.f2).mpr ⟨x, hx, z⟩)
theorem me_new {l : List S53} {c : S31} (hr : reg l c.f2 = false) : idxP (meP c) (l ++ [(⟨c.f2, 0⟩ : S53)]) = l.length := by
  unfold idxP;rw [List.findIdx?_append, me_none hr]
  have : ([(⟨c.f2, 0⟩ : S53)] : List S53).findIdx? (fun x => meP c x.f0 x.f1) = some 0 := by
    rw [List.findIdx?_cons];unfold meP;simp
  rw [this];simp
theorem keyed_new (l : List S53) (h : ByteArray) (ky : Int) : keyed (l ++ [(⟨h, 0⟩ : S53)]) l.length ky = l ++ [(⟨h, ky⟩ : S53)] := by
  unfold keyed;rw [rd_lt _ l.length (by simp)];simp
theorem me_put {l : List S53} {c : S31} (hr : reg l c.f2 = true) : ∃ i : Nat, ∃ hi : i < l.length, idxP (meP c) l = (i : Int) ∧ (l[i]).f0 = c.f2 := by
  unfold idxP
  cases hf : l.findIdx? (fun x => meP c x.f0 x.f1) with
  | none =>
    obtain ⟨x, hx, he⟩ := (reg_iff l c.f2).mp hr;have := List.findIdx?_eq_none_iff.mp hf x hx;unfold meP at this;rw [tl_beq] at this;exact absurd he (of_decide_eq_false this)
  | some i =>
    obtain ⟨hi, hp, _⟩ := List.findIdx?_eq_some_iff_getElem.mp hf;refine ⟨i, hi, rfl, ?_⟩;unfold meP at hp;rw [tl_beq] at hp;exact of_decide_eq_true hp
def rekey (l : List S53) (h : ByteArray) (ky : Int) : List S53 := l.map fun x => if x.f0 = h then ⟨x.f0, ky⟩ else x
theorem keyed_put {l : List S53} (ho : okL l) {i : Nat} (hi : i < l.length) {h : ByteArray} (he : (l[i]).f0 = h) (ky : Int) : keyed l i ky = rekey l h ky := by
  unfold keyed rekey;rw [rd_lt l i hi];apply List.ext_getElem
  · rw [List.length_set, List.length_map]
  · intro j h1 h2;rw [List.length_set] at h1;rw [List.getElem_set, List.getElem_map];by_cases hij : i = j
    · subst hij;rw [if_pos rfl, if_pos he]
    · rw [if_neg hij, if_neg];intro z;have hp := List.pairwise_iff_getElem.mp ho.1
      rcases Nat.lt_or_gt_of_ne hij with q | q
      · exact hp i j hi h1 q (he.trans z.symm)
      · exact hp j i h1 hi q (z.trans he.symm)
end Go.Proofs.YtjogkfcjlljjcaaDoor.Pure
namespace Go.Proofs.YtjogkfcjlljjcaaDoor.Pure
open Go.RowKit Go.Proofs.YtjogkfcjlljjcaaDoor.P Go.Proofs.YtjogkfcjlljjcaaDoorW.PrintWords Go.Proofs.YtjogkfcjlljjcaaDoorW.PrintLast Go.Proofs.YtjogkfcjlljjcaaDoorW.PrintMore Go.Proofs.YtjogkfcjlljjcaaDoor.Num
set_option linter.unusedVariables false
set_option linter.unusedSimpArgs false
theorem tl_nil {h : ByteArray} : h.toList = ([] : List UInt8) ↔ h = (⟨#[]⟩ : ByteArray) := by
  have e : (⟨#[]⟩ : ByteArray).toList = ([] : List UInt8) := by rw [ByteArray.toList_eq]
  exact ⟨fun z => tl_inj.mp (z.trans e.symm), fun z => by rw [z]; exact e⟩
theorem hold_iff (l : List S53) (typ : Int) (host : ByteArray) : holdOk_ l typ host = true ↔ (typ = 0 ∧ host = (⟨#[]⟩ : ByteArray)) ∨ (1 ≤ typ ∧ typ ≤ 4 ∧ reg l host = true) ∨ ((typ = 5 ∨ typ = 6) ∧ host = (⟨#[]⟩ : ByteArray) ∧ 0 < l.length) := by
  unfold holdOk_;by_cases h0 : typ = 0
  · rw [if_pos h0, beq_iff_eq, tl_nil]
    constructor
    · exact fun z => Or.inl ⟨h0, z⟩
    · rintro (z | z | z)
      · exact z.2
      · omega
      · omega
  · rw [if_neg h0];by_cases h1 : typ < 1 ∨ 6 < typ
    · rw [if_pos h1]
      constructor
      · exact fun z => Bool.noConfusion z
      · rintro (z | z | z) <;> omega
    · rw [if_neg h1];by_cases h5 : typ = 5 ∨ typ = 6
      · rw [if_pos h5, Bool.and_eq_true, beq_iff_eq, tl_nil, decide_eq_true_eq]
        constructor
        · exact fun z => Or.inr (Or.inr ⟨h5, z⟩)
        · rintro (z | z | z)
          · exact absurd z.1 h0
          · omega
          · exact z.2
      · rw [if_neg h5, ← reg_hosts]
        constructor
        · exact fun z => Or.inr (Or.inl ⟨by omega, by omega, z⟩)
        · rintro (z | z | z)
          · exact absurd z.1 h0
          · exact z.2.2
          · exact absurd z.1 h5
theorem good_sizes {l : List S53} {typ : Int} {host : ByteArray} (h : goodB l typ host = true) : host.size ≤ 64 ∧ ∀ x ∈ l, x.f0.size ≤ 64 := by
  obtain ⟨h1, h2, h3⟩ := good_ok h
  have hs : ∀ x ∈ l, x.f0.size ≤ 64 := fun x hx => (name_size (h2.2 x hx).1).2
  refine ⟨?_, hs⟩
  rcases (hold_iff l typ host).mp h3 with z | z | z
  · rw [z.2]; decide
  · obtain ⟨x, hx, rfl⟩ := (reg_iff l host).mp z.2.2;exact hs x hx
  · rw [z.2.1]; decide
theorem GoodOf {l : List S53} {typ : Int} {host : ByteArray} (h : goodB l typ host = true) (gen : Int) (apt : Bool) : resv_Good.f l typ host gen apt = some true := by
  obtain ⟨h1, h2⟩ := good_sizes h;rw [Good_spec l typ host gen apt (by omega) (fun x hx => by have := h2 x hx; omega), h]
theorem do_good (k : Nat) (l : List S53) (typ : Int) (host : ByteArray) (gen : Int) (apt : Bool) (c : S31) (hk : 210 ≤ k) (hg : goodB l typ host = true) (hn : nameB c.f2 = true) (hw : (Lit.int .i64 c.f0).wf = true) (ho : 8 ≤ c.f0 ∧ c.f0 ≤ 12) :
    do_f k l typ host gen apt c = if c.f0 = 8 then do_reg l typ host gen apt c (keyL l c.f2) (decide (typ = 5 ∨ typ = 6)) else if c.f0 = 9 then do_rsv k l typ host gen apt c (keyL l c.f2) else if c.f0 = 10 then do_rel k l typ host gen apt c (keyL l c.f2) else if c.f0 = 11 then do_clr l typ host gen apt c (keyL l c.f2) else do_pre k l typ host gen apt c (keyL l c.f2) := by
  have hl := (good_ok hg).1;unfold do_f;rw [if_pos hw, if_neg (by rw [decide_eq_true ho]; decide), GoodOf hg, Option.bind_some, if_neg (by decide), show names_Name.f c.f2 = some (nameB c.f2) from rfl, hn, Option.bind_some, if_neg (by decide), if_pos (by omega), Key_spec k l typ host gen apt c.f2 (by omega) hk, Option.bind_some, every_spec, Option.bind_some]
theorem do_bad (k : Nat) (l : List S53) (typ : Int) (host : ByteArray) (gen : Int) (apt : Bool) (c : S31) (hh : host.size ≤ 5000) (hl : ∀ x ∈ l, x.f0.size ≤ 5000) (hw : (Lit.int .i64 c.f0).wf = true) (h : ¬(8 ≤ c.f0 ∧ c.f0 ≤ 12) ∨ goodB l typ host = false ∨ nameB c.f2 = false) : do_f k l typ host gen apt c = do_same l typ host gen apt 5 := by
  unfold do_f;rw [if_pos hw];by_cases ho : 8 ≤ c.f0 ∧ c.f0 ≤ 12
  · rw [if_neg (by rw [decide_eq_true ho]; decide), Good_spec l typ host gen apt hh hl, Option.bind_some]
    cases hg : goodB l typ host with
    | false => rw [if_pos rfl]
    | true =>
      rw [if_neg (by decide), show names_Name.f c.f2 = some (nameB c.f2) from rfl, Option.bind_some]
      cases hn : nameB c.f2 with
      | false => rw [if_pos rfl]
      | true =>
        rcases h with h | h | h
        · exact absurd ho h
        · rw [hg] at h; cases h
        · rw [hn] at h; cases h
  · rw [if_pos (by rw [decide_eq_false ho])]
theorem rsv_eq (k : Nat) (l : List S53) (typ : Int) (host : ByteArray) (gen : Int) (apt : Bool) (c : S31) (kk : Int) (hk : 210 ≤ k) (hl : l.length ≤ 201) :
    do_rsv k l typ host gen apt c kk = if typed c.f11 = false then do_same l typ host gen apt 5 else if asksP kk c = false then do_same l typ host gen apt 2 else if typ = 0 then some (l, c.f11, takenBy c, gen, apt, [], 1) else if (holds l typ host c.f2 && typ == c.f11) = true then do_same l typ host gen apt 1 else do_same l typ host gen apt 2 := by
  unfold do_rsv;rw [Type_spec, Option.bind_some, Holds_spec k l typ host gen apt c.f2 hl hk, Option.bind_some]
theorem rel_eq (k : Nat) (l : List S53) (typ : Int) (host : ByteArray) (gen : Int) (apt : Bool) (c : S31) (kk : Int) (hk : 210 ≤ k) (hl : l.length ≤ 201) :
    do_rel k l typ host gen apt c kk = if asksP kk c = false then do_same l typ host gen apt 2 else if holds l typ host c.f2 = false then do_same l typ host gen apt 1 else if (typ != c.f11) = true then do_same l typ host gen apt 5 else some (l, 0, (⟨#[]⟩ : ByteArray), gen, apt, (if silent typ = true then [] else told c (fun _ _ => true) 3 l l.length), 1) := by
  unfold do_rel;rw [Holds_spec k l typ host gen apt c.f2 hl hk, Option.bind_some]
theorem pre_eq (k : Nat) (l : List S53) (typ : Int) (host : ByteArray) (gen : Int) (apt : Bool) (c : S31) (kk : Int) (hk : 210 ≤ k) (hl : l.length ≤ 201) :
    do_pre k l typ host gen apt c kk = if typed c.f11 = false then do_same l typ host gen apt 5 else if asksP kk c = false then do_same l typ host gen apt 2 else
      if (decide (typ = 5 ∨ typ = 6) && c.f10 == 0) = true then some (l.filter fun x => !struckP c true x.f0 x.f1, c.f11, takenBy c, (gen + 1) % 4294967296, apt, told c (struckP c true) 2 l l.length, 1)
      else if host.toList ≠ ([] : List UInt8) ∧ keyL l host = c.f10 then some (l.filter fun x => !struckP c false x.f0 x.f1, c.f11, takenBy c, (gen + 1) % 4294967296, apt, told c (struckP c false) 2 l l.length, 1)
      else if c.f10 = 0 then do_same l typ host gen apt 5
      else if decide (0 ≤ idxP (struckP c false) l) = false then do_same l typ host gen apt 2
      else some (l.filter fun x => !struckP c false x.f0 x.f1, typ, host, (gen + 1) % 4294967296, apt, told c (struckP c false) 2 l l.length, 1) := by
  unfold do_pre;rw [Type_spec, Option.bind_some, every_spec, Option.bind_some, Key_spec k l typ host gen apt host hl hk, Option.bind_some]
theorem reg_eq (l : List S53) (typ : Int) (host : ByteArray) (gen : Int) (apt : Bool) (c : S31) (eb : Bool) (hg : okL l) :
    do_reg l typ host gen apt c (keyL l c.f2) eb = if (!c.f12 && c.f8 != keyL l c.f2) = true then do_same l typ host gen apt 2
      else if c.f9 = 0 then
        (if keyL l c.f2 = 0 then some (l, typ, host, gen, aptP c apt, [], 1)
         else if (decide (host = c.f2) || eb && ((l.filter fun x => !decide (x.f0 = c.f2)).length == 0)) = true then some (l.filter fun x => !decide (x.f0 = c.f2), 0, (⟨#[]⟩ : ByteArray), (gen + 1) % 4294967296, aptP c apt, freed c typ (l.filter fun x => !decide (x.f0 = c.f2)), 1)
         else some (l.filter fun x => !decide (x.f0 = c.f2), typ, host, (gen + 1) % 4294967296, aptP c apt, [], 1))
      else if keyL l c.f2 = 0 then
        (if l.length = 16 then do_same l typ host gen apt 8 else some (l ++ [(⟨c.f2, c.f9⟩ : S53)], typ, host, (gen + 1) % 4294967296, aptP c apt, [], 1))
      else some (rekey l c.f2 c.f9, typ, host, (gen + 1) % 4294967296, aptP c apt, [], 1) := by
  unfold do_reg;simp only [tl_beq];by_cases h1 : (!c.f12 && c.f8 != keyL l c.f2) = true
  · rw [if_pos h1, if_pos h1]
  rw [if_neg h1, if_neg h1];by_cases h9 : c.f9 = 0
  · rw [if_pos h9, if_pos h9]
  rw [if_neg h9, if_neg h9];by_cases h0 : keyL l c.f2 = 0
  · rw [if_pos h0, if_pos h0, if_pos (me_new ((keyL_zero hg c.f2).mp h0)), keyed_new]
  · rw [if_neg h0, if_neg h0]
    obtain ⟨i, hi, e1, e2⟩ := me_put (c := c) (by
      cases hr : reg l c.f2 with
      | true => rfl
      | false => exact absurd (keyL_none hr) h0)
    rw [e1, if_pos (Int.natCast_nonneg i), Int.toNat_natCast, keyed_put hg hi e2]
end Go.Proofs.YtjogkfcjlljjcaaDoor.Pure
namespace Go.Proofs.YtjogkfcjlljjcaaDoor.Pure
open Go.RowKit Go.Proofs.YtjogkfcjlljjcaaDoor.P Go.Proofs.YtjogkfcjlljjcaaDoorW.PrintWords Go.Proofs.YtjogkfcjlljjcaaDoorW.PrintLast Go.Proofs.YtjogkfcjlljjcaaDoorW.PrintMore Go.Proofs.YtjogkfcjlljjcaaDoor.Num
set_option linter.unusedVariables false
set_option linter.unusedSimpArgs false
theorem tlA : (⟨#[97]⟩ : ByteArray).toList = ([97] : List UInt8) := by rw [ByteArray.toList_eq]
theorem tlB : (⟨#[98]⟩ : ByteArray).toList = ([98] : List UInt8) := by rw [ByteArray.toList_eq]
def twoT : List S53 := [⟨(⟨#[97]⟩ : ByteArray), 1⟩, ⟨(⟨#[98]⟩ : ByteArray), 2⟩]
theorem nameA : nameB (⟨#[97]⟩ : ByteArray) = true := by decide +kernel
theorem nameB_ : nameB (⟨#[98]⟩ : ByteArray) = true := by decide +kernel
theorem two_good : goodB twoT 1 (⟨#[97]⟩ : ByteArray) = true := by
  refine good_mk (by decide) ⟨?_, ?_⟩ ((hold_iff _ _ _).mpr (Or.inr (Or.inl ⟨by decide, by decide, ?_⟩)))
  · unfold twoT;simp
  · intro x hx;unfold twoT at hx;simp only [List.mem_cons, List.not_mem_nil, or_false] at hx
    rcases hx with rfl | rfl
    · exact ⟨nameA, by decide⟩
    · exact ⟨nameB_, by decide⟩
  · exact (reg_iff _ _).mpr ⟨_, List.mem_cons_self, rfl⟩
theorem wakes_do (k : Nat) (hk : 210 ≤ k) : resv_Do.f k twoT 1 (⟨#[97]⟩ : ByteArray) 0 false 12 0 (⟨#[98]⟩ : ByteArray) 0 0 (⟨#[]⟩ : ByteArray) false ([] : List S100) 2 0 1 2 false 0 = some ([⟨(⟨#[98]⟩ : ByteArray), 2⟩], 2, (⟨#[98]⟩ : ByteArray), 1, false, [⟨(⟨#[97]⟩ : ByteArray), 2⟩], 1) := by
  unfold resv_Do.f;rw [do_good k twoT 1 (⟨#[97]⟩ : ByteArray) 0 false _ hk two_good nameB_ (by decide) (by decide), if_neg (by decide), if_neg (by decide), if_neg (by decide), if_neg (by decide), pre_eq k twoT _ _ _ _ _ _ hk (by decide)]
  have hkb : keyL twoT (⟨#[98]⟩ : ByteArray) = 2 := by unfold keyL twoT; simp [tlA, tlB]
  have hka : keyL twoT (⟨#[97]⟩ : ByteArray) = 1 := by unfold keyL twoT; simp [tlA, tlB]
  rw [hkb, hka, if_neg (by decide), if_neg (by decide), if_neg (by decide), if_pos ⟨by rw [tlA]; decide, rfl⟩]
  have hf : ∀ c : S31, c.f2 = (⟨#[98]⟩ : ByteArray) → c.f10 = 1 → (twoT.filter fun x => !struckP c false x.f0 x.f1) = [⟨(⟨#[98]⟩ : ByteArray), 2⟩] ∧ told c (struckP c false) 2 twoT twoT.length = [⟨(⟨#[97]⟩ : ByteArray), 2⟩] := by
    intro c h1 h2;unfold told struckP twoT;simp [h1, h2, tlA, tlB]
  obtain ⟨e1, e2⟩ := hf ⟨12, 0, (⟨#[98]⟩ : ByteArray), 0, 0, (⟨#[]⟩ : ByteArray), false, [], 2, 0, 1, 2, false, 0⟩ rfl rfl;rw [e1, e2];rfl
theorem wakes_ok (k : Nat) (hk : 210 ≤ k) : headgatelaw11_wakes.f k = some true := by
  unfold headgatelaw11_wakes.f;rw [Option.bind_some];rw [show ([(⟨(⟨#[97]⟩ : ByteArray), 1⟩ : S53), (⟨(⟨#[98]⟩ : ByteArray), 2⟩ : S53)] : List S53) = twoT from rfl];rw [wakes_do k hk, Option.bind_some];dsimp only;have hgo := GoodOf two_good 0 false;simp [hgo, tlA, tlB, rd_T46]
theorem wakes_more (k : Nat) {q : List S53 × Int × ByteArray × Int × Bool × List S46 × Int} (h : resv_Do.f k twoT 1 (⟨#[97]⟩ : ByteArray) 0 false 12 0 (⟨#[98]⟩ : ByteArray) 0 0 (⟨#[]⟩ : ByteArray) false ([] : List S100) 2 0 1 2 false 0 = some q) : q = ([⟨(⟨#[98]⟩ : ByteArray), 2⟩], 2, (⟨#[98]⟩ : ByteArray), 1, false, [⟨(⟨#[97]⟩ : ByteArray), 2⟩], 1) := by
  have hm : ∀ n, resv_Do.f (k + n) twoT 1 (⟨#[97]⟩ : ByteArray) 0 false 12 0 (⟨#[98]⟩ : ByteArray) 0 0 (⟨#[]⟩ : ByteArray) false ([] : List S100) 2 0 1 2 false 0 = some q := by
    intro n
    induction n with
    | zero => exact h
    | succ n ih => exact resv_Do.mono _ _ _ _ _ _ _ _ _ _ _ _ _ _ _ _ _ _ _ (k + n) _ ih
  have h2 := hm 210;rw [wakes_do (k + 210) (by omega)] at h2;exact (Option.some.inj h2).symm
theorem wakes_vals {k : Nat} {y : List S53} {t108 : List S53} {t111 : Int} {t112 : ByteArray} {t113 : Int} {t114 : Bool} {t115 : List S46} {t118 : Int} (hy : y = twoT) (h : resv_Do.f k y 1 (⟨#[97]⟩ : ByteArray) 0 false 12 0 (⟨#[98]⟩ : ByteArray) 0 0 (⟨#[]⟩ : ByteArray) false ([] : List S100) 2 0 1 2 false 0 = some (t108, t111, t112, t113, t114, t115, t118)) :
    t118 = 1 ∧ (t108.length : Int) = 1 ∧ t112.toList = ([98] : List UInt8) ∧ t111 = 2 ∧ t113 = 1 ∧ (t115.length : Int) = 1 ∧ 0 < (t115.length : Int) ∧ ((rd_T46 t115 0).f0).toList = ([97] : List UInt8) ∧ ((rd_T46 t115 0).f1) = 2 := by
  subst hy;have e := wakes_more k h;simp only [Prod.mk.injEq] at e;obtain ⟨rfl, rfl, rfl, rfl, rfl, rfl, rfl⟩ := e;exact ⟨rfl, rfl, tlB, rfl, rfl, rfl, by decide, tlA, rfl⟩
end Go.Proofs.YtjogkfcjlljjcaaDoor.Pure
namespace Go.Proofs.YtjogkfcjlljjcaaDoor.P
open Go.RowKit Go.Proofs.YtjogkfcjlljjcaaDoorW.PrintWords Go.Proofs.YtjogkfcjlljjcaaDoorW.PrintLast Go.Proofs.YtjogkfcjlljjcaaDoorW.PrintMore
attribute [local go_sem] max2_int min2_int max_two min_two max_three min_three max_four min_four   -- for this text's walks alone
set_option linter.unusedVariables false
set_option linter.unusedSimpArgs false
set_option linter.unnecessarySimpa false
theorem headgatelaw11_wakes.calls (k : Nat)  (r : Bool) (w : World) (hG : Glob w) (h : headgatelaw11_wakes.f k  = some r) :
  Calls Tryd.prog 13 #[] w fun e w' => e = .returned (.bool r) ∧ Below w.heap.size w w' := by
 have hu53 := Tryd.underlying53;have hu24 := Tryd.underlying24;have hu27 := Tryd.underlying27;have hu31 := Tryd.underlying31;have HG := aS_ hG;clear hG;have HB := aS_ (Below.refl w.heap.size w);have H : ((some (([(⟨(⟨#[97]⟩ : ByteArray), 1⟩ : S53), (⟨(⟨#[98]⟩ : ByteArray), 2⟩ : S53)] : List (S53)) : List (S53))).bind fun y104 => ((resv_Do.f k y104 1 (⟨#[97]⟩ : ByteArray) 0 false 12 0 (⟨#[98]⟩ : ByteArray) 0 0 (⟨#[]⟩ : ByteArray) false ([] : List (S100)) 2 0 1 2 false 0).bind fun bt108 => (if bt108.2.2.2.2.2.2 = 1 then (if (bt108.1.length : Int) = 1 then (if bt108.2.2.1.toList = ([98] : List UInt8) then (if bt108.2.1 = 2 then (if bt108.2.2.2.1 = 1 then (if (bt108.2.2.2.2.2.1.length : Int) = 1 then (if 0 < (bt108.2.2.2.2.2.1.length : Int) then (if ((rd_T46 bt108.2.2.2.2.2.1 0).f0).toList = ([97] : List UInt8) then (if ((rd_T46 bt108.2.2.2.2.2.1 0).f1) = 2 then ((resv_Good.f y104 1 (⟨#[97]⟩ : ByteArray) 0 false).bind fun t122 => (some t122)) else (some false)) else (some false)) else (none)) else (some false)) else (some false)) else (some false)) else (some false)) else (some false)) else (some false)))) = some r := h;clear h
 obtain ⟨y104, hy104⟩ : ∃ y_ : List (S53), y_ = (([(⟨(⟨#[97]⟩ : ByteArray), 1⟩ : S53), (⟨(⟨#[98]⟩ : ByteArray), 2⟩ : S53)] : List (S53))) := ⟨_, rfl⟩
 replace H : ((resv_Do.f k y104 1 (⟨#[97]⟩ : ByteArray) 0 false 12 0 (⟨#[98]⟩ : ByteArray) 0 0 (⟨#[]⟩ : ByteArray) false ([] : List (S100)) 2 0 1 2 false 0).bind fun bt108 => (if bt108.2.2.2.2.2.2 = 1 then (if (bt108.1.length : Int) = 1 then (if bt108.2.2.1.toList = ([98] : List UInt8) then (if bt108.2.1 = 2 then (if bt108.2.2.2.1 = 1 then (if (bt108.2.2.2.2.2.1.length : Int) = 1 then (if 0 < (bt108.2.2.2.2.2.1.length : Int) then (if ((rd_T46 bt108.2.2.2.2.2.1 0).f0).toList = ([97] : List UInt8) then (if ((rd_T46 bt108.2.2.2.2.2.1 0).f1) = 2 then ((resv_Good.f y104 1 (⟨#[97]⟩ : ByteArray) 0 false).bind fun t122 => (some t122)) else (some false)) else (some false)) else (none)) else (some false)) else (some false)) else (some false)) else (some false)) else (some false)) else (some false))) = some r := by first | (rw [hy104]; with_reducible exact H) | (have H2_ := (Option.bind_some _ _).symm.trans H; rw [hy104]; with_reducible exact H2_) | (have H2_ := (Option.bind_some _ _).symm.trans H; with_reducible exact H2_) | with_reducible exact H | (rw [hy104]; exact H) | exact H
 have Ny104 := aS_ hy104;clear hy104;replace H := Option.bind_eq_some_iff.mp H;obtain ⟨⟨t108, t111, t112, t113, t114, t115, t118⟩, A10, H⟩ := H
 try dsimp only at H
 have A1 := aS_ A10;have V := aS_ (Go.Proofs.YtjogkfcjlljjcaaDoor.Pure.wakes_vals (Ny104.out.trans rfl) A10);clear A10;refine neg_first (p := (t118 = 1)) (fun c2 => ?_) (fun c2 => ?_)
 ·obtain ⟨v1, v2, v3, v4, v5, v6, v7, v8, v9⟩ := V.out; first | exact absurd v1 c2 | exact absurd v2 c2 | exact absurd v3 c2 | exact absurd v4 c2 | exact absurd v5 c2 | exact absurd v6 c2 | exact absurd v7 c2 | exact absurd v8 c2 | exact absurd v9 c2
 rw [if_pos c2] at H;have c2b0 : (t118 == 1) = true := beq_iff_eq.mpr c2;have c2b1 : (t118 != 1) = false := bne_eq_false_iff_eq.mpr c2;clear c2;refine neg_first (p := ((t108.length : Int) = 1)) (fun c3 => ?_) (fun c3 => ?_)
 ·obtain ⟨v1, v2, v3, v4, v5, v6, v7, v8, v9⟩ := V.out; first | exact absurd v1 c3 | exact absurd v2 c3 | exact absurd v3 c3 | exact absurd v4 c3 | exact absurd v5 c3 | exact absurd v6 c3 | exact absurd v7 c3 | exact absurd v8 c3 | exact absurd v9 c3
 rw [if_pos c3] at H;have c3b0 : ((t108.length : Int) == 1) = true := beq_iff_eq.mpr c3;have c3b1 : ((t108.length : Int) != 1) = false := bne_eq_false_iff_eq.mpr c3;clear c3;refine neg_first (p := (t112.toList = ([98] : List UInt8))) (fun c4 => ?_) (fun c4 => ?_)
 ·obtain ⟨v1, v2, v3, v4, v5, v6, v7, v8, v9⟩ := V.out; first | exact absurd v1 c4 | exact absurd v2 c4 | exact absurd v3 c4 | exact absurd v4 c4 | exact absurd v5 c4 | exact absurd v6 c4 | exact absurd v7 c4 | exact absurd v8 c4 | exact absurd v9 c4
 rw [if_pos c4] at H;have c4b0 : (t112.toList == ([98] : List UInt8)) = true := beq_iff_eq.mpr c4;have c4b1 : (t112.toList != ([98] : List UInt8)) = false := bne_eq_false_iff_eq.mpr c4;clear c4;refine neg_first (p := (t111 = 2)) (fun c5 => ?_) (fun c5 => ?_)
 ·obtain ⟨v1, v2, v3, v4, v5, v6, v7, v8, v9⟩ := V.out; first | exact absurd v1 c5 | exact absurd v2 c5 | exact absurd v3 c5 | exact absurd v4 c5 | exact absurd v5 c5 | exact absurd v6 c5 | exact absurd v7 c5 | exact absurd v8 c5 | exact absurd v9 c5
 rw [if_pos c5] at H;have c5b0 : (t111 == 2) = true := beq_iff_eq.mpr c5;have c5b1 : (t111 != 2) = false := bne_eq_false_iff_eq.mpr c5;clear c5;refine neg_first (p := (t113 = 1)) (fun c6 => ?_) (fun c6 => ?_)
 ·obtain ⟨v1, v2, v3, v4, v5, v6, v7, v8, v9⟩ := V.out; first | exact absurd v1 c6 | exact absurd v2 c6 | exact absurd v3 c6 | exact absurd v4 c6 | exact absurd v5 c6 | exact absurd v6 c6 | exact absurd v7 c6 | exact absurd v8 c6 | exact absurd v9 c6
 rw [if_pos c6] at H;have c6b0 : (t113 == 1) = true := beq_iff_eq.mpr c6;have c6b1 : (t113 != 1) = false := bne_eq_false_iff_eq.mpr c6;clear c6;refine neg_first (p := ((t115.length : Int) = 1)) (fun c7 => ?_) (fun c7 => ?_)
 ·obtain ⟨v1, v2, v3, v4, v5, v6, v7, v8, v9⟩ := V.out; first | exact absurd v1 c7 | exact absurd v2 c7 | exact absurd v3 c7 | exact absurd v4 c7 | exact absurd v5 c7 | exact absurd v6 c7 | exact absurd v7 c7 | exact absurd v8 c7 | exact absurd v9 c7
 rw [if_pos c7] at H;have c7b0 : ((t115.length : Int) == 1) = true := beq_iff_eq.mpr c7;have c7b1 : ((t115.length : Int) != 1) = false := bne_eq_false_iff_eq.mpr c7;clear c7;refine neg_first (p := (0 < (t115.length : Int))) (fun c8 => ?_) (fun c8 => ?_)
 ·obtain ⟨v1, v2, v3, v4, v5, v6, v7, v8, v9⟩ := V.out; first | exact absurd v1 c8 | exact absurd v2 c8 | exact absurd v3 c8 | exact absurd v4 c8 | exact absurd v5 c8 | exact absurd v6 c8 | exact absurd v7 c8 | exact absurd v8 c8 | exact absurd v9 c8
 rw [if_pos c8] at H;have c8b0 : decide (0 < (t115.length : Int)) = true := decide_eq_true c8;have c8b1 : decide (0 < t115.length) = true := decide_eq_true (by omega);clear c8;refine neg_first (p := (((rd_T46 t115 0).f0).toList = ([97] : List UInt8))) (fun c9 => ?_) (fun c9 => ?_)
 ·obtain ⟨v1, v2, v3, v4, v5, v6, v7, v8, v9⟩ := V.out; first | exact absurd v1 c9 | exact absurd v2 c9 | exact absurd v3 c9 | exact absurd v4 c9 | exact absurd v5 c9 | exact absurd v6 c9 | exact absurd v7 c9 | exact absurd v8 c9 | exact absurd v9 c9
 rw [if_pos c9] at H;have c9b0 : (((rd_T46 t115 0).f0).toList == ([97] : List UInt8)) = true := beq_iff_eq.mpr c9;have c9b1 : (((rd_T46 t115 0).f0).toList != ([97] : List UInt8)) = false := bne_eq_false_iff_eq.mpr c9;clear c9;refine neg_first (p := (((rd_T46 t115 0).f1) = 2)) (fun c10 => ?_) (fun c10 => ?_)
 ·obtain ⟨v1, v2, v3, v4, v5, v6, v7, v8, v9⟩ := V.out; first | exact absurd v1 c10 | exact absurd v2 c10 | exact absurd v3 c10 | exact absurd v4 c10 | exact absurd v5 c10 | exact absurd v6 c10 | exact absurd v7 c10 | exact absurd v8 c10 | exact absurd v9 c10
 rw [if_pos c10] at H;have c10b0 : (((rd_T46 t115 0).f1) == 2) = true := beq_iff_eq.mpr c10;have c10b1 : (((rd_T46 t115 0).f1) != 2) = false := bne_eq_false_iff_eq.mpr c10;clear c10;replace H := Option.bind_eq_some_iff.mp H;obtain ⟨t122, A110, H⟩ := H
 try dsimp only at H
 have A11 := aS_ A110;clear A110;obtain rfl := Option.some.inj H;go_enter Tryd.func13, Tryd.ntmps13
 go_wp2_with (first | ((with_reducible refine gate_dst (N := 7) rfl ?_); refine Kd.R_lit k53 _ 53 ?hg (N := 7) ?hd (xs := ([(⟨(⟨#[97]⟩ : ByteArray), 1⟩ : S53), (⟨(⟨#[98]⟩ : ByteArray), 2⟩ : S53)] : List (S53))) (inner := [.string (⟨#[97]⟩ : ByteArray), .int .u64 1, .string (⟨#[98]⟩ : ByteArray), .int .u64 2]) (ok := fun _ => True) (okp := fun _ => True) ?hr ?hp (fun _ hk => hk) trivial (Below.refl _ _) (Nat.le_refl _) (by simp) ?_; (case hd => rfl); (case hg => rfl); (case hr => first | (go_simp; done) | (go_simp; rfl)); (case hp => exact (Reps.c2 (show Kd.M k53 _ _ _ (⟨(⟨#[97]⟩ : ByteArray), 1⟩ : S53) [.string (⟨#[97]⟩ : ByteArray), .int .u64 1] from (k53_mkM _ _ _ (⟨(⟨#[97]⟩ : ByteArray), 1⟩ : S53) )) (Reps.c2 (show Kd.M k53 _ _ _ (⟨(⟨#[98]⟩ : ByteArray), 2⟩ : S53) [.string (⟨#[98]⟩ : ByteArray), .int .u64 2] from (k53_mkM _ _ _ (⟨(⟨#[98]⟩ : ByteArray), 2⟩ : S53) )) (Reps.none _ _)))); intro v105 w12 ho13 hb hg_ hnew_; clear hg_ hnew_; (first | rw [← Ny104.out] at ho13 | (simp only [Int.reduceToNat] at ho13; rw [← Ny104.out] at ho13)); have n0_ := aS_ (Kd.R_lower ho13 (below_size (hb_ HB))); have n1_ := aS_ (below_step (hb_ HB) hb); clear HB; have qj := n0_; have HB := n1_; clear n0_ n1_; clear hb ho13; obtain ⟨qm, ql, eo14⟩ := Kd.R_slice qj.out; subst eo14) | ((with_reducible refine gate_dst (N := 1) rfl ?_); refine bX_ (N := 1) (cs := #[.slice none 0 0, .int .i64 0, .string (⟨#[]⟩ : ByteArray), .int .u32 0, .bool false]) (t := 27) ?hr ?_; (case hr => first | (go_simp; done) | (go_simp; rfl)); intro qc hg w15 hbox hb; have n0_ := aS_ (Kd.R_below (by (with_reducible repeat (first | apply Kd.R_alloc | apply Kd.R_drewN | apply Kd.R_drew)); exact qj.out) hb); have n1_ := aS_ (below_step (hb_ HB) hb); have n2_ := aS_ (hbox); have n3_ := aS_ ((by rw [hg]; exact (below_size (hb_ HB)) : w.heap.size ≤ qc)); have n4_ := aS_ ((by rw [hg]; exact (below_size (hb_ HB)) : w.heap.size ≤ qc)); clear qj; clear HB; have qj := n0_; have HB := n1_; have qb := n2_; have GW107 := n3_; have qt := n4_; clear n0_ n1_ n2_ n3_ n4_; clear hb hbox hg; have hcz16_0 : w15.cell? ⟨qc, 0, none⟩ = some (.slice none 0 0) := bC_ qb.out 0 rfl; have hcz16_1 : w15.cell? ⟨qc, 1, none⟩ = some (.int .i64 0) := bC_ qb.out 1 rfl; have hcz16_2 : w15.cell? ⟨qc, 2, none⟩ = some (.string (⟨#[]⟩ : ByteArray)) := bC_ qb.out 2 rfl; have hcz16_3 : w15.cell? ⟨qc, 3, none⟩ = some (.int .u32 0) := bC_ qb.out 3 rfl; have hcz16_4 : w15.cell? ⟨qc, 4, none⟩ = some (.bool false) := bC_ qb.out 4 rfl; have hfz16_0 := bF_ qb.out) | ((with_reducible refine gate_store (t := 27) (p := 1) rfl ?_); refine store_event (t := 27) (p := 1) (v := ?vo_w17) (w1 := (((((w15.setCell ⟨qc, 0, none⟩ (.slice qm y104.length ql)).setCell ⟨qc, 1, none⟩ (.int .i64 1)).setCell ⟨qc, 2, none⟩ (.string (⟨#[97]⟩ : ByteArray))).setCell ⟨qc, 3, none⟩ (.int .u32 0)).setCell ⟨qc, 4, none⟩ (.bool false))) ?hg ?ho ?hn ?hr ?_; (case ho => rfl); (case hg => rfl); (case hn => rfl); (case hr => first | (go_simp; done) | (go_simp; rfl)); intro w17 hw; have n0_ : Aside0 (Kd.R k53 53 w17 w.heap.size (fun _ => True) (.slice qm y104.length ql) y104) := ⟨(by rw [hw]; exact (by (with_reducible repeat (first | apply Kd.R_alloc | apply Kd.R_drewN | apply Kd.R_drew)); exact Kd.R_mono (Rf5_ (Kd.R_types qj.out qb.out (by decide)) (fun _ hk => hk.2)) (fun _ hk => trivial)))⟩; have n1_ : Aside0 (w17.heap[qc]? = some (.cells #[.slice qm y104.length ql, .int .i64 1, .string (⟨#[97]⟩ : ByteArray), .int .u32 0, .bool false] 27 (0, 0))) := ⟨(by rw [hw]; exact (by (with_reducible repeat (first | refine blk_drewN ?_ _ | refine blk_drew ?_ | refine blk_alloc ?_ _)); refine blk_put (cs := #[.slice qm y104.length ql, .int .i64 1, .string (⟨#[97]⟩ : ByteArray), .int .u32 0, .bool false]) ?_ 4 _ rfl; (with_reducible repeat (first | refine blk_drewN ?_ _ | refine blk_drew ?_ | refine blk_alloc ?_ _)); refine blk_put (cs := #[.slice qm y104.length ql, .int .i64 1, .string (⟨#[97]⟩ : ByteArray), .int .u32 0, .bool false]) ?_ 3 _ rfl; (with_reducible repeat (first | refine blk_drewN ?_ _ | refine blk_drew ?_ | refine blk_alloc ?_ _)); refine blk_put (cs := #[.slice qm y104.length ql, .int .i64 1, .string (⟨#[]⟩ : ByteArray), .int .u32 0, .bool false]) ?_ 2 _ rfl; (with_reducible repeat (first | refine blk_drewN ?_ _ | refine blk_drew ?_ | refine blk_alloc ?_ _)); refine blk_put (cs := #[.slice qm y104.length ql, .int .i64 0, .string (⟨#[]⟩ : ByteArray), .int .u32 0, .bool false]) ?_ 1 _ rfl; (with_reducible repeat (first | refine blk_drewN ?_ _ | refine blk_drew ?_ | refine blk_alloc ?_ _)); refine blk_put (cs := #[.slice none 0 0, .int .i64 0, .string (⟨#[]⟩ : ByteArray), .int .u32 0, .bool false]) ?_ 0 _ rfl; (with_reducible repeat (first | refine blk_drewN ?_ _ | refine blk_drew ?_ | refine blk_alloc ?_ _)); exact qb.out))⟩; have n2_ : Aside0 (Below w.heap.size w w17) := ⟨(by rw [hw]; exact (hb_ HB))⟩; clear hw; clear qj; clear qb; clear HB; have qj := n0_; have qb := n1_; have HB := n2_; clear n0_ n1_ n2_; have hcz18_0 : w17.cell? ⟨qc, 0, none⟩ = some (.slice qm y104.length ql) := bC_ qb.out 0 rfl; have hcz18_1 : w17.cell? ⟨qc, 1, none⟩ = some (.int .i64 1) := bC_ qb.out 1 rfl; have hcz18_2 : w17.cell? ⟨qc, 2, none⟩ = some (.string (⟨#[97]⟩ : ByteArray)) := bC_ qb.out 2 rfl; have hcz18_3 : w17.cell? ⟨qc, 3, none⟩ = some (.int .u32 0) := bC_ qb.out 3 rfl; have hcz18_4 : w17.cell? ⟨qc, 4, none⟩ = some (.bool false) := bC_ qb.out 4 rfl; have hfz18_0 := bF_ qb.out) | ((with_reducible refine gate_callee (f := 15) rfl ?_); refine goesL_ (some 13) rfl rfl Tryd.func15 (by kernel_rfl) rfl #[.agg #[.slice qm y104.length ql, .int .i64 1, .string (⟨#[97]⟩ : ByteArray), .int .u32 0, .bool false], .agg #[.int .i64 12, .int .i64 0, .string (⟨#[98]⟩ : ByteArray), .int .i64 0, .int .i64 0, .string (⟨#[]⟩ : ByteArray), .bool false, .slice none 0 0, .int .u64 2, .int .u64 0, .int .u64 1, .int .i64 2, .bool false, .int .i64 0]] rfl (by (try simp only [List.map_toArray, List.map_cons, List.map_nil]); first | done | rfl | (simp only [List.length_drop, List.length_take]; rfl)) ?_; (refine (resv_Do.calls k (fun k_ => some k_ = (.slice qm y104.length ql : Value).ownBlock) _ _ y104 1 (⟨#[97]⟩ : ByteArray) 0 false 12 0 (⟨#[98]⟩ : ByteArray) 0 0 (⟨#[]⟩ : ByteArray) false _ _ ([] : List (S100)) 2 0 1 2 false 0 t108 t111 t112 t113 t114 t115 t118 _ ?side1 ?side2 ?side3 ?side4 A1.out).mono ?_); (case side1 => exact Kd.R_V (Kd.R_tight rfl (Kd.R_types (qj.out) qb.out (by decide)))); (case side2 => exact Kd.C_nil _ _); (case side3 => exact Nat.le_refl _); (case side4 => first | ((refine Glob.keep HG.out ?_); (repeat (first | (with_reducible first | exact HB.out | apply below_alloc | apply pw_below_drewN | apply below_drew1 | refine below_set ?_ qt.out) | exact HB.out)); done) | exact HG.out); rintro e w19 ⟨v109, v116, rfl, ho0, ho1, hb⟩; refine ⟨_, rfl, ?_⟩; have n0_ := aS_ (Kd.R_below (by (with_reducible repeat (first | apply Kd.R_alloc | apply Kd.R_drewN | apply Kd.R_drew)); exact qj.out) hb); have n1_ := aS_ (Kd.V_lower (Kd.V_mono (ok' := fun k_ => some k_ ≠ (v116 : Value).ownBlock ∧ k_ ≠ qc) ho0 (fun k_ hk_ => ⟨hk_.2, Or.elim hk_.1 (fun hs_ => ((Kd.R_types (qj.out) qb.out (by decide)).1 k_ hs_.symm).2) (fun hn_ => (Kd.freshB (g := qc) (o := .cells #[.slice qm y104.length ql, .int .i64 1, .string (⟨#[97]⟩ : ByteArray), .int .u32 0, .bool false] 27 (0, 0)) (bk_ qb) k_ hn_))⟩)) (below_size (hb_ HB))); have n2_ := aS_ (Kd.R_lower (Kd.R_mono (ok' := fun k_ => True) ho1 (fun _ hk_ => trivial)) (below_size (hb_ HB))); have n3_ := aS_ (blk_below (bk_ qb) hb); have n4_ := aS_ (below_step (hb_ HB) hb); clear qj; clear qb; clear HB; have qj := n0_; have qn := n1_; have qd := n2_; have qb := n3_; have HB := n4_; clear n0_ n1_ n2_ n3_ n4_; (try clear hb); (try clear hb2); (try clear hk); (try clear hi); (try clear ho0); (try clear ho1)) | ((with_reducible refine gate_dst (N := 2) rfl ?_); refine bX_ (N := 2) (cs := #[.slice none 0 0, .int .i64 0, .string (⟨#[]⟩ : ByteArray), .int .u32 0, .bool false]) (t := 27) ?hr ?_; (case hr => first | (go_simp; done) | (go_simp; rfl)); intro qa hg w20 hbox hb; have n0_ := aS_ (Kd.R_below (by (with_reducible repeat (first | apply Kd.R_alloc | apply Kd.R_drewN | apply Kd.R_drew)); exact qj.out) hb); have n1_ := aS_ (Kd.V_below (Kd.V_elderB (by (with_reducible repeat (first | apply Kd.V_alloc | apply Kd.V_drewN | apply Kd.V_drew)); exact qn.out) qa (Nat.le_of_eq hg.symm)) hb); have n2_ := aS_ (Kd.R_below (by (with_reducible repeat (first | apply Kd.R_alloc | apply Kd.R_drewN | apply Kd.R_drew)); exact qd.out) hb); have n3_ := aS_ (blk_below (bk_ qb) hb); have n4_ := aS_ (below_step (hb_ HB) hb); have n5_ := aS_ (hbox); have n6_ := aS_ ((by rw [hg]; exact (below_size (hb_ HB)) : w.heap.size ≤ qa)); have n7_ := aS_ ((by rw [hg]; exact (below_size (hb_ HB)) : w.heap.size ≤ qa)); have n8_ := aS_ ((by rw [hg]; exact Nat.ne_of_lt (blk_lt (g := qc) (o := .cells #[.slice qm y104.length ql, .int .i64 1, .string (⟨#[97]⟩ : ByteArray), .int .u32 0, .bool false] 27 (0, 0)) (bk_ qb)) : qc ≠ qa)); have n9_ := aS_ ((by rw [hg]; exact Nat.ne_of_gt (blk_lt (g := qc) (o := .cells #[.slice qm y104.length ql, .int .i64 1, .string (⟨#[97]⟩ : ByteArray), .int .u32 0, .bool false] 27 (0, 0)) (bk_ qb)) : qa ≠ qc)); clear qj; clear qn; clear qd; clear qb; clear HB; have qj := n0_; have qn := n1_; have qd := n2_; have qb := n3_; have HB := n4_; have qi := n5_; have GW119 := n6_; have qu := n7_; have qp := n8_; have qs := n9_; clear n0_ n1_ n2_ n3_ n4_ n5_ n6_ n7_ n8_ n9_; clear hb hbox hg; obtain ⟨qq, qr, eo21⟩ := Kd.V_slice qn.out; subst eo21; have hnb22 := qs.out; have hnc22 := qp.out; have hcz23_0 : w20.cell? ⟨qa, 0, none⟩ = some (.slice none 0 0) := bC_ qi.out 0 rfl; have hcz23_1 : w20.cell? ⟨qa, 1, none⟩ = some (.int .i64 0) := bC_ qi.out 1 rfl; have hcz23_2 : w20.cell? ⟨qa, 2, none⟩ = some (.string (⟨#[]⟩ : ByteArray)) := bC_ qi.out 2 rfl; have hcz23_3 : w20.cell? ⟨qa, 3, none⟩ = some (.int .u32 0) := bC_ qi.out 3 rfl; have hcz23_4 : w20.cell? ⟨qa, 4, none⟩ = some (.bool false) := bC_ qi.out 4 rfl; have hfz23_0 := bF_ qi.out; obtain ⟨Ao24, co24, eo24⟩ := Kd.R_slice qd.out; subst eo24; have p120 : 0 ≤ (0 : Int) := (by omega); have q120 : 0 < (t115.length : Int) := of_decide_eq_true (by first | (with_reducible assumption) | assumption); obtain ⟨qk, e120, qe, qf⟩ := at_T46 (Kd.R_reads' qd.out).2.2 0 p120 q120; cases e120; have qi120 : (0 < t115.length) = True := eq_true (by omega); (try rw [show ((0 : Int)).toNat = 0 from rfl] at qe); (try rw [show 0 * 2 = 0 from rfl] at qe); (try rw [Addr.add_zero'] at qe); (try rw [show ((0 : Int)).toNat = 0 from rfl] at qf); (try rw [show 0 * 2 = 0 from rfl] at qf); (try rw [Addr.add_zero'] at qf); have hn120_0 : qk.block ≠ qa := Kd.own_blk (by first | exact Kd.R_ne qd.out qi.out (by decide) | exact (fun e_ => (qd.out.1 _ e_.symm).2 rfl)); have hn120_1 : qk.block ≠ qa := Kd.own_blk (by first | exact Kd.R_ne qd.out qi.out (by decide) | exact (fun e_ => (qd.out.1 _ e_.symm).2 rfl)); have hn120_2 : qk.block ≠ qa := Kd.own_blk (by first | exact Kd.R_ne qd.out qi.out (by decide) | exact (fun e_ => (qd.out.1 _ e_.symm).2 rfl)); have hn120_3 : qk.block ≠ qa := Kd.own_blk (by first | exact Kd.R_ne qd.out qi.out (by decide) | exact (fun e_ => (qd.out.1 _ e_.symm).2 rfl)); have hn120_4 : qk.block ≠ qa := Kd.own_blk (by first | exact Kd.R_ne qd.out qi.out (by decide) | exact (fun e_ => (qd.out.1 _ e_.symm).2 rfl)); replace qe := (cell_far (p := ⟨qa, 0, none⟩) (by first | (rw [add_block]; exact hn120_0) | (show (Addr.add _ _).block ≠ _; rw [add_block]; exact hn120_0) | exact hn120_0) (.slice qq t108.length qr)).trans qe; replace qf := (cell_far (p := ⟨qa, 0, none⟩) (by first | (rw [add_block]; exact hn120_0) | (show (Addr.add _ _).block ≠ _; rw [add_block]; exact hn120_0) | exact hn120_0) (.slice qq t108.length qr)).trans qf; replace qe := (cell_far (p := ⟨qa, 1, none⟩) (by first | (rw [add_block]; exact hn120_1) | (show (Addr.add _ _).block ≠ _; rw [add_block]; exact hn120_1) | exact hn120_1) (.int .i64 t111)).trans qe; replace qf := (cell_far (p := ⟨qa, 1, none⟩) (by first | (rw [add_block]; exact hn120_1) | (show (Addr.add _ _).block ≠ _; rw [add_block]; exact hn120_1) | exact hn120_1) (.int .i64 t111)).trans qf; replace qe := (cell_far (p := ⟨qa, 2, none⟩) (by first | (rw [add_block]; exact hn120_2) | (show (Addr.add _ _).block ≠ _; rw [add_block]; exact hn120_2) | exact hn120_2) (.string t112)).trans qe; replace qf := (cell_far (p := ⟨qa, 2, none⟩) (by first | (rw [add_block]; exact hn120_2) | (show (Addr.add _ _).block ≠ _; rw [add_block]; exact hn120_2) | exact hn120_2) (.string t112)).trans qf; replace qe := (cell_far (p := ⟨qa, 3, none⟩) (by first | (rw [add_block]; exact hn120_3) | (show (Addr.add _ _).block ≠ _; rw [add_block]; exact hn120_3) | exact hn120_3) (.int .u32 t113)).trans qe; replace qf := (cell_far (p := ⟨qa, 3, none⟩) (by first | (rw [add_block]; exact hn120_3) | (show (Addr.add _ _).block ≠ _; rw [add_block]; exact hn120_3) | exact hn120_3) (.int .u32 t113)).trans qf; replace qe := (cell_far (p := ⟨qa, 4, none⟩) (by first | (rw [add_block]; exact hn120_4) | (show (Addr.add _ _).block ≠ _; rw [add_block]; exact hn120_4) | exact hn120_4) (.bool t114)).trans qe; replace qf := (cell_far (p := ⟨qa, 4, none⟩) (by first | (rw [add_block]; exact hn120_4) | (show (Addr.add _ _).block ≠ _; rw [add_block]; exact hn120_4) | exact hn120_4) (.bool t114)).trans qf; clear hn120_0; clear hn120_1; clear hn120_2; clear hn120_3; clear hn120_4; replace p120 := eq_true p120; replace q120 := eq_true q120; have p121 : 0 ≤ (0 : Int) := (by omega); have q121 : 0 < (t115.length : Int) := of_decide_eq_true (by first | (with_reducible assumption) | assumption); obtain ⟨qv, e121, qg, qh⟩ := at_T46 (Kd.R_reads' qd.out).2.2 0 p121 q121; obtain rfl : qk = qv := (by injection e121); have qi121 : (0 < t115.length) = True := eq_true (by omega); (try rw [show ((0 : Int)).toNat = 0 from rfl] at qg); (try rw [show 0 * 2 = 0 from rfl] at qg); (try rw [Addr.add_zero'] at qg); (try rw [show ((0 : Int)).toNat = 0 from rfl] at qh); (try rw [show 0 * 2 = 0 from rfl] at qh); (try rw [Addr.add_zero'] at qh); have hn121_0 : qk.block ≠ qa := Kd.own_blk (by first | exact Kd.R_ne qd.out qi.out (by decide) | exact (fun e_ => (qd.out.1 _ e_.symm).2 rfl)); have hn121_1 : qk.block ≠ qa := Kd.own_blk (by first | exact Kd.R_ne qd.out qi.out (by decide) | exact (fun e_ => (qd.out.1 _ e_.symm).2 rfl)); have hn121_2 : qk.block ≠ qa := Kd.own_blk (by first | exact Kd.R_ne qd.out qi.out (by decide) | exact (fun e_ => (qd.out.1 _ e_.symm).2 rfl)); have hn121_3 : qk.block ≠ qa := Kd.own_blk (by first | exact Kd.R_ne qd.out qi.out (by decide) | exact (fun e_ => (qd.out.1 _ e_.symm).2 rfl)); have hn121_4 : qk.block ≠ qa := Kd.own_blk (by first | exact Kd.R_ne qd.out qi.out (by decide) | exact (fun e_ => (qd.out.1 _ e_.symm).2 rfl)); replace qg := (cell_far (p := ⟨qa, 0, none⟩) (by first | (rw [add_block]; exact hn121_0) | (show (Addr.add _ _).block ≠ _; rw [add_block]; exact hn121_0) | exact hn121_0) (.slice qq t108.length qr)).trans qg; replace qh := (cell_far (p := ⟨qa, 0, none⟩) (by first | (rw [add_block]; exact hn121_0) | (show (Addr.add _ _).block ≠ _; rw [add_block]; exact hn121_0) | exact hn121_0) (.slice qq t108.length qr)).trans qh; replace qg := (cell_far (p := ⟨qa, 1, none⟩) (by first | (rw [add_block]; exact hn121_1) | (show (Addr.add _ _).block ≠ _; rw [add_block]; exact hn121_1) | exact hn121_1) (.int .i64 t111)).trans qg; replace qh := (cell_far (p := ⟨qa, 1, none⟩) (by first | (rw [add_block]; exact hn121_1) | (show (Addr.add _ _).block ≠ _; rw [add_block]; exact hn121_1) | exact hn121_1) (.int .i64 t111)).trans qh; replace qg := (cell_far (p := ⟨qa, 2, none⟩) (by first | (rw [add_block]; exact hn121_2) | (show (Addr.add _ _).block ≠ _; rw [add_block]; exact hn121_2) | exact hn121_2) (.string t112)).trans qg; replace qh := (cell_far (p := ⟨qa, 2, none⟩) (by first | (rw [add_block]; exact hn121_2) | (show (Addr.add _ _).block ≠ _; rw [add_block]; exact hn121_2) | exact hn121_2) (.string t112)).trans qh; replace qg := (cell_far (p := ⟨qa, 3, none⟩) (by first | (rw [add_block]; exact hn121_3) | (show (Addr.add _ _).block ≠ _; rw [add_block]; exact hn121_3) | exact hn121_3) (.int .u32 t113)).trans qg; replace qh := (cell_far (p := ⟨qa, 3, none⟩) (by first | (rw [add_block]; exact hn121_3) | (show (Addr.add _ _).block ≠ _; rw [add_block]; exact hn121_3) | exact hn121_3) (.int .u32 t113)).trans qh; replace qg := (cell_far (p := ⟨qa, 4, none⟩) (by first | (rw [add_block]; exact hn121_4) | (show (Addr.add _ _).block ≠ _; rw [add_block]; exact hn121_4) | exact hn121_4) (.bool t114)).trans qg; replace qh := (cell_far (p := ⟨qa, 4, none⟩) (by first | (rw [add_block]; exact hn121_4) | (show (Addr.add _ _).block ≠ _; rw [add_block]; exact hn121_4) | exact hn121_4) (.bool t114)).trans qh; clear hn121_0; clear hn121_1; clear hn121_2; clear hn121_3; clear hn121_4; replace p121 := eq_true p121; replace q121 := eq_true q121; have hcz25_0 : w20.cell? ⟨qc, 0, none⟩ = some (.slice qm y104.length ql) := bC_ qb.out 0 rfl; have hcz25_1 : w20.cell? ⟨qc, 1, none⟩ = some (.int .i64 1) := bC_ qb.out 1 rfl; have hcz25_2 : w20.cell? ⟨qc, 2, none⟩ = some (.string (⟨#[97]⟩ : ByteArray)) := bC_ qb.out 2 rfl; have hcz25_3 : w20.cell? ⟨qc, 3, none⟩ = some (.int .u32 0) := bC_ qb.out 3 rfl; have hcz25_4 : w20.cell? ⟨qc, 4, none⟩ = some (.bool false) := bC_ qb.out 4 rfl; have hfz25_0 := bF_ qb.out) | (go_at_call 21; (with_reducible refine (resv_Good.calls _ _ y104 1 (⟨#[97]⟩ : ByteArray) 0 false t122 _ ?side1 ?side2 A11.out).mono ?_); (case side1 => refine (Kd.R_reads' (e := 53) (base := w.heap.size) (ok := fun k_ => True) (n := y104.length) (c := ql) ?_).2.2; exact (by (with_reducible repeat (first | apply Kd.R_alloc | apply Kd.R_drewN | apply Kd.R_drew)); exact (Kd.R_mono (Rf5_ (Kd.R_types qj.out qi.out (by decide)) (fun _ hk => hk.2)) (fun _ h_ => h_.1)))); (case side2 => exact (Kd.R_reads' qj.out).2.1); rintro e w26 ⟨rfl, hb⟩; have n0_ := aS_ (Kd.R_below (by (with_reducible repeat (first | apply Kd.R_alloc | apply Kd.R_drewN | apply Kd.R_drew)); exact (Kd.R_mono (Rf5_ (Kd.R_types qj.out qi.out (by decide)) (fun _ hk => hk.2)) (fun _ h_ => h_.1))) hb); have n1_ := aS_ (Kd.V_below (by (with_reducible repeat (first | apply Kd.V_alloc | apply Kd.V_drewN | apply Kd.V_drew)); exact (Kd.V_mono (Vf5_ (Kd.V_mono qn.out (fun k_ hk => (⟨hk, hk.2⟩ : _ ∧ k_ ≠ qa))) (fun _ hk => hk.2)) (fun _ h_ => h_.1))) hb); have n2_ := aS_ (Kd.R_below (by (with_reducible repeat (first | apply Kd.R_alloc | apply Kd.R_drewN | apply Kd.R_drew)); exact (Kd.R_mono (Rf5_ (Kd.R_types qd.out qi.out (by decide)) (fun _ hk => hk.2)) (fun _ h_ => h_.1))) hb); have n3_ := aS_ (blk_below (g := qc) (o := .cells #[.slice qm y104.length ql, .int .i64 1, .string (⟨#[97]⟩ : ByteArray), .int .u32 0, .bool false] 27 (0, 0)) (by (with_reducible repeat (first | refine blk_drewN ?_ _ | refine blk_drew ?_ | refine blk_alloc ?_ _ | refine blk_far ?_ qp.out _)); exact qb.out) hb); have n4_ := aS_ (blk_below (g := qa) (o := .cells #[.slice qq t108.length qr, .int .i64 t111, .string t112, .int .u32 t113, .bool t114] 27 (0, 0)) (by (with_reducible repeat (first | refine blk_drewN ?_ _ | refine blk_drew ?_ | refine blk_alloc ?_ _)); refine blk_put (cs := #[.slice qq t108.length qr, .int .i64 t111, .string t112, .int .u32 t113, .bool false]) ?_ 4 _ rfl; (with_reducible repeat (first | refine blk_drewN ?_ _ | refine blk_drew ?_ | refine blk_alloc ?_ _)); refine blk_put (cs := #[.slice qq t108.length qr, .int .i64 t111, .string t112, .int .u32 0, .bool false]) ?_ 3 _ rfl; (with_reducible repeat (first | refine blk_drewN ?_ _ | refine blk_drew ?_ | refine blk_alloc ?_ _)); refine blk_put (cs := #[.slice qq t108.length qr, .int .i64 t111, .string (⟨#[]⟩ : ByteArray), .int .u32 0, .bool false]) ?_ 2 _ rfl; (with_reducible repeat (first | refine blk_drewN ?_ _ | refine blk_drew ?_ | refine blk_alloc ?_ _)); refine blk_put (cs := #[.slice qq t108.length qr, .int .i64 0, .string (⟨#[]⟩ : ByteArray), .int .u32 0, .bool false]) ?_ 1 _ rfl; (with_reducible repeat (first | refine blk_drewN ?_ _ | refine blk_drew ?_ | refine blk_alloc ?_ _)); refine blk_put (cs := #[.slice none 0 0, .int .i64 0, .string (⟨#[]⟩ : ByteArray), .int .u32 0, .bool false]) ?_ 0 _ rfl; (with_reducible repeat (first | refine blk_drewN ?_ _ | refine blk_drew ?_ | refine blk_alloc ?_ _)); exact qi.out) hb); have n5_ := aS_ (below_step (hb_ HB) hb); clear qj; clear qn; clear qd; clear qb; clear qi; clear HB; have qj := n0_; have qn := n1_; have qd := n2_; have qb := n3_; have qi := n4_; have HB := n5_; clear n0_ n1_ n2_ n3_ n4_ n5_; (try clear hb); (try clear hb2); (try clear hk); (try clear hi)))
 go_ret;exact ⟨by first | rfl | (simp [errW_none, errW_some] <;> rfl) | (simp [*, errW_none, errW_some] <;> rfl) | (simp [bt, *]; done) | (unfold bt; simp [*]; done), by repeat (first | (with_reducible first | exact HB.out | apply below_alloc | apply pw_below_drewN | apply below_drew1 | refine below_set ?_ qt.out | refine below_set ?_ qu.out) | exact HB.out)⟩
end Go.Proofs.YtjogkfcjlljjcaaDoor.P
namespace Go.Proofs.YtjogkfcjlljjcaaDoor.P
open Go.RowKit Go.Proofs.YtjogkfcjlljjcaaDoorW.PrintWords Go.Proofs.YtjogkfcjlljjcaaDoorW.PrintLast Go.Proofs.YtjogkfcjlljjcaaDoorW.PrintMore
attribute [local go_sem] max2_int min2_int max_two min_two max_three min_three max_four min_four   -- for this text's walks alone
set_option linter.unusedVariables false
set_option linter.unusedSimpArgs false
set_option linter.unnecessarySimpa false
theorem cells5 {w : World} {g t : Nat} {a b c d e : Value} (h : w.heap[g]? = some (.cells #[a, b, c, d, e] t (0, 0))) : w.cell? ⟨g, 0, none⟩ = some a ∧ w.cell? ⟨g, 1, none⟩ = some b ∧ w.cell? ⟨g, 2, none⟩ = some c ∧ w.cell? ⟨g, 3, none⟩ = some d ∧ w.cell? ⟨g, 4, none⟩ = some e := ⟨bC_ h 0 rfl, bC_ h 1 rfl, bC_ h 2 rfl, bC_ h 3 rfl, bC_ h 4 rfl⟩
theorem cells7 {w : World} {g t : Nat} {a b c d e f i : Value} (h : w.heap[g]? = some (.cells #[a, b, c, d, e, f, i] t (0, 0))) : w.cell? ⟨g, 0, none⟩ = some a ∧ w.cell? ⟨g, 1, none⟩ = some b ∧ w.cell? ⟨g, 2, none⟩ = some c ∧ w.cell? ⟨g, 3, none⟩ = some d ∧ w.cell? ⟨g, 4, none⟩ = some e ∧ w.cell? ⟨g, 5, none⟩ = some f ∧ w.cell? ⟨g, 6, none⟩ = some i := ⟨bC_ h 0 rfl, bC_ h 1 rfl, bC_ h 2 rfl, bC_ h 3 rfl, bC_ h 4 rfl, bC_ h 5 rfl, bC_ h 6 rfl⟩
theorem cells14 {w : World} {g t : Nat} {a0 a1 a2 a3 a4 a5 a6 a7 a8 a9 a10 a11 a12 a13 : Value} (h : w.heap[g]? = some (.cells #[a0, a1, a2, a3, a4, a5, a6, a7, a8, a9, a10, a11, a12, a13] t (0, 0))) : w.cell? ⟨g, 0, none⟩ = some a0 ∧ w.cell? ⟨g, 1, none⟩ = some a1 ∧ w.cell? ⟨g, 2, none⟩ = some a2 ∧ w.cell? ⟨g, 3, none⟩ = some a3 ∧ w.cell? ⟨g, 4, none⟩ = some a4 ∧ w.cell? ⟨g, 5, none⟩ = some a5 ∧ w.cell? ⟨g, 6, none⟩ = some a6 ∧ w.cell? ⟨g, 7, none⟩ = some a7 ∧ w.cell? ⟨g, 8, none⟩ = some a8 ∧ w.cell? ⟨g, 9, none⟩ = some a9 ∧ w.cell? ⟨g, 10, none⟩ = some a10 ∧ w.cell? ⟨g, 11, none⟩ = some a11 ∧ w.cell? ⟨g, 12, none⟩ = some a12 ∧ w.cell? ⟨g, 13, none⟩ = some a13 := ⟨bC_ h 0 rfl, bC_ h 1 rfl, bC_ h 2 rfl, bC_ h 3 rfl, bC_ h 4 rfl, bC_ h 5 rfl, bC_ h 6 rfl, bC_ h 7 rfl, bC_ h 8 rfl, bC_ h 9 rfl, bC_ h 10 rfl, bC_ h 11 rfl, bC_ h 12 rfl, bC_ h 13 rfl⟩
def tabc (u : Value) (typ : Int) (host : ByteArray) (gen : Int) (apt : Bool) : Array Value := #[u, .int .i64 typ, .string host, .int .u32 gen, .bool apt]
def cmdc (c : S31) (rg : Value) : Array Value := #[.int .i64 c.f0, .int .i64 c.f1, .string c.f2, .int .i64 c.f3, .int .i64 c.f4, .string c.f5, .bool c.f6, rg, .int .u64 c.f8, .int .u64 c.f9, .int .u64 c.f10, .int .i64 c.f11, .bool c.f12, .int .i64 c.f13]
def outc : Array Value := #[.slice none 0 0, .int .i64 0, .string (⟨#[]⟩ : ByteArray), .int .u32 0, .bool false, .slice none 0 0, .int .i64 0]
def outd (u : Value) (typ : Int) (host : ByteArray) (gen : Int) (apt : Bool) (ev : Value) (code : Int) : Array Value := #[u, .int .i64 typ, .string host, .int .u32 gen, .bool apt, ev, .int .i64 code]
structure Rf (w0 w : World) (g2 g3 g4 : Nat) (c : S31) (rg : Value) (tc : Array Value) : Prop where
  o2 : w0.heap.size ≤ g2
  o4 : w0.heap.size ≤ g4
  n42 : g4 ≠ g2
  n32 : g3 ≠ g2
  n43 : g4 ≠ g3
  b2 : w.heap[g2]? = some (.cells tc 27 (0, 0))
  b3 : w.heap[g3]? = some (.cells (cmdc c rg) 31 (0, 0))
  b4 : w.heap[g4]? = some (.cells outc 40 (0, 0))
  hb : Below w0.heap.size w0 w
theorem Rf.below {w0 w w1 : World} {g2 g3 g4 : Nat} {c : S31} {rg : Value} {tc : Array Value} (h : Rf w0 w g2 g3 g4 c rg tc) (hb : Below w.heap.size w w1) : Rf w0 w1 g2 g3 g4 c rg tc :=
  ⟨h.o2, h.o4, h.n42, h.n32, h.n43, blk_below h.b2 hb, blk_below h.b3 hb, blk_below h.b4 hb, below_step h.hb hb⟩
theorem Rf.put {w0 w : World} {g2 g3 g4 : Nat} {c : S31} {rg : Value} {tc tc' : Array Value} (h : Rf w0 w g2 g3 g4 c rg tc) (j : Nat) (v : Value) (e : tc.setIfInBounds j v = tc') : Rf w0 (w.setCell ⟨g2, j, none⟩ v) g2 g3 g4 c rg tc' :=
  ⟨h.o2, h.o4, h.n42, h.n32, h.n43, blk_put h.b2 j v e, blk_far h.b3 (p := ⟨g2, j, none⟩) h.n32 v, blk_far h.b4 (p := ⟨g2, j, none⟩) h.n42 v, below_set h.hb h.o2⟩
def outw (w : World) (g4 : Nat) (a b c d e f i : Value) : World := ((((((w.setCell ⟨g4, 0, none⟩ a).setCell ⟨g4, 1, none⟩ b).setCell ⟨g4, 2, none⟩ c).setCell ⟨g4, 3, none⟩ d).setCell ⟨g4, 4, none⟩ e).setCell ⟨g4, 5, none⟩ f).setCell ⟨g4, 6, none⟩ i
theorem Rf.out {w0 w : World} {g2 g3 g4 : Nat} {cm : S31} {rg : Value} {tc : Array Value} (h : Rf w0 w g2 g3 g4 cm rg tc) (a b c d e f i : Value) : (outw w g4 a b c d e f i).heap[g4]? = some (.cells #[a, b, c, d, e, f, i] 40 (0, 0)) ∧ Below w0.heap.size w0 (outw w g4 a b c d e f i) :=
  ⟨blk_put (blk_put (blk_put (blk_put (blk_put (blk_put (blk_put h.b4 0 _ rfl) 1 _ rfl) 2 _ rfl) 3 _ rfl) 4 _ rfl) 5 _ rfl) 6 _ rfl, below_set (below_set (below_set (below_set (below_set (below_set (below_set h.hb h.o4) h.o4) h.o4) h.o4) h.o4) h.o4) h.o4⟩
theorem row_out {α : Type} {d : Kd α} {e base g t : Nat} {w : World} {ok : Nat → Prop} {v : Value} {xs : List α} {cells : Array Value} (h : d.R e w base ok v xs) (hb : w.heap[g]? = some (.cells cells t (0, 0))) (ht : ∀ q, q ∈ e :: d.E → q ≠ t) (a b c f i m n : Value) : d.R e (outw w g a b c f i m n) base ok v xs :=
  Kd.R_set (Kd.R_set (row_put5 h hb ht a b c f i) (blk_put (blk_put (blk_put (blk_put (blk_put hb 0 a rfl) 1 b rfl) 2 c rfl) 3 f rfl) 4 i rfl) ht 5 m) (blk_put (blk_put (blk_put (blk_put (blk_put (blk_put hb 0 a rfl) 1 b rfl) 2 c rfl) 3 f rfl) 4 i rfl) 5 m rfl) ht 6 n
def isAgg (d : TypeDesc) : Bool := match d with | .struct _ | .array _ _ => true | _ => false
theorem ret_out {P : Program} {fn : Func} {R : Ending → World → Prop} {a : Act} {w : World} {g4 : Nat} {x0 x1 x2 x3 x4 x5 x6 : Value} {d : TypeDesc} (hres : fn.results = #[.cell 4 40]) (hd : a.defers = []) (hp : a.tmps.getD 4 undef = .pointer (some ⟨g4, 0, none⟩)) (hg : (outw w g4 x0 x1 x2 x3 x4 x5 x6).heap[g4]? = some (.cells #[x0, x1, x2, x3, x4, x5, x6] 40 (0, 0)))
  (hu : P.underlying 40 = some d) (hdd : isAgg d = true) (hi : (P.info? 40).map (·.size) = some 7) (h : R (.returned (.agg #[x0, x1, x2, x3, x4, x5, x6])) (outw w g4 x0 x1 x2 x3 x4 x5 x6)) : bodyPost P fn R .ret a (outw w g4 x0 x1 x2 x3 x4 x5 x6) :=
 bodyPost_ret (results_cell_row hres _ _ g4 _ _ (0, 0) d hp hg hu (by cases d <;> first | rfl | exact hdd) hi) hd h
theorem Rf.kt {w0 w w1 : World} {g2 g3 g4 : Nat} {c : S31} {rg : Value} {tc : Array Value} (h : Rf w0 w g2 g3 g4 c rg tc) (hk : Kt w w1) (hb : Below w0.heap.size w0 w1) : Rf w0 w1 g2 g3 g4 c rg tc :=
  ⟨h.o2, h.o4, h.n42, h.n32, h.n43, hk _ _ _ (by decide) h.b2, hk _ _ _ (by decide) h.b3, hk _ _ _ (by decide) h.b4, hb⟩
theorem rf_copy (l : List S53) (typ : Int) (host : ByteArray) (gen : Int) (apt : Bool) (hl : l.length ≤ 1000) : headgatekeep_CopyTable.f l typ host gen apt = some (l, typ, host, gen, apt) := by
  unfold headgatekeep_CopyTable.f;rw [Option.bind_some, if_pos (by simp; omega)];rfl
theorem Rf.grown {w0 w w1 : World} {g2 g3 g4 : Nat} {c : S31} {rg : Value} {tc : Array Value} {base : Nat} {ok : Nat → Prop} {v : Value} {xs : List S53} (h : Rf w0 w g2 g3 g4 c rg tc) (hr : Kd.R k53 53 w base ok v xs) (hg : w.grownBy w1 v.ownBlock) (hb : Below w0.heap.size w0 w1) : Rf w0 w1 g2 g3 g4 c rg tc :=
  ⟨h.o2, h.o4, h.n42, h.n32, h.n43, blk_grown h.b2 hg (Kd.R_ne hr h.b2 (by decide)), blk_grown h.b3 hg (Kd.R_ne hr h.b3 (by decide)), blk_grown h.b4 hg (Kd.R_ne hr h.b4 (by decide)), hb⟩
theorem fresh_ne {α : Type} {d : Kd α} {e base : Nat} {ok : Nat → Prop} {w : World} {v : Value} {xs : List α} (h : d.R e w base ok v xs) : ∀ k, w.heap.size ≤ k → True ∧ some k ≠ v.ownBlock := by
  intro k hk;refine ⟨trivial, fun z => ?_⟩;obtain ⟨_, i1, ho1, _⟩ := h;obtain ⟨c1, h1⟩ := own_typed ho1 k z.symm;have := blk_lt h1;omega
theorem flt_succ (p : S53 → Bool) (l : List S53) (i : Nat) (hi : i < l.length) : (l.take (i + 1)).filter p = (l.take i).filter p ++ (if p (rd_T53 l i) = true then [rd_T53 l i] else []) := by
  rw [List.take_add_one, List.getElem?_eq_getElem hi, List.filter_append, rd_lt l i hi]
  congr 1
  simp only [Option.toList_some, List.filter_cons, List.filter_nil]
theorem flt_len (p : S53 → Bool) (l : List S53) (i : Nat) : ((l.take i).filter p).length ≤ i := by
  have := List.length_filter_le p (l.take i);rw [List.length_take] at this;omega
def stk (c : S31) (al : Bool) (x : S53) : Bool := struckP c al x.f0 x.f1
def sty (c : S31) (al : Bool) (x : S53) : Bool := !struckP c al x.f0 x.f1
theorem stk_val (c : S31) (al : Bool) (s : ByteArray) (ky : Int) (b1 b2 : Bool) (e1 : (s.toList == c.f2.toList) = b1) (e2 : (ky == c.f10) = b2) : stk c al ⟨s, ky⟩ = (!b1 && (al || b2)) ∧ sty c al ⟨s, ky⟩ = !(!b1 && (al || b2)) := by
  unfold stk sty struckP;rw [e1, e2];exact ⟨rfl, rfl⟩
theorem row_two {α : Type} {d : Kd α} {w0 w : World} {g2 g3 g4 : Nat} {c : S31} {rg : Value} {tc : Array Value} {base : Nat} {ok : Nat → Prop} {v : Value} {xs : List α} {e : Nat} (h : Rf w0 w g2 g3 g4 c rg tc) (hr : d.R e w base ok v xs) (ht : ∀ q, q ∈ e :: d.E → q ≠ 27) (i j : Nat) (a b : Value) : d.R e ((w.setCell ⟨g2, i, none⟩ a).setCell ⟨g2, j, none⟩ b) base ok v xs :=
  Kd.R_set (Kd.R_set hr h.b2 ht i a) (h.put i a rfl).b2 ht j b
theorem ok_any {e base : Nat} {w : World} {ok : Nat → Prop} {v : Value} {xs : List S53} (h : Kd.R k53 e w base ok v xs) : Kd.R k53 e w base (fun _ => True) v xs := R_re53 h (Nat.le_refl _) (fun _ _ _ => trivial)
theorem rf_rsv_take (k : Nat) (A0 : Option Addr) (c0 : Nat) (l : List S53) (typ : Int) (host : ByteArray) (gen : Int) (apt : Bool) (c : S31) (rg : Value) (w : World) (hr : Kd.C k53 w A0 l.length l) (hc : l.length ≤ c0) (h0 : typ = 0) (h1 : Int) (h2 : ByteArray) (hh : headgateref11_hold.f c.f11 c.f2 = some (h1, h2)) :
  Calls Tryd.prog 39 #[.agg (tabc (.slice A0 l.length c0) typ host gen apt), .agg (cmdc c rg)] w fun e w' => e = .returned (.agg (outd (.slice A0 l.length c0) h1 h2 gen apt (.slice none 0 0) 1)) ∧ Below w.heap.size w w' := by
 have hu27 := Tryd.underlying27;have hu24 := Tryd.underlying24;have hu31 := Tryd.underlying31;have hu40 := Tryd.underlying40;have hu53 := Tryd.underlying53;have HR := aS_ hr;have HC := aS_ hc;have HB := aS_ (Below.refl w.heap.size w);clear hr hc;unfold tabc cmdc;have d0 : (typ == 0) = true := beq_iff_eq.mpr h0;clear h0;have HH := aS_ hh;clear hh;go_enter Tryd.func39, Tryd.ntmps39
 go_wp2_with (first
  | ((with_reducible refine gate_dst (N := 2) rfl ?_); refine bX_ (N := 2) (cs := tabc (.slice A0 l.length c0) typ host gen apt) (t := 27) ?hr ?_; (case hr => first | (go_simp; done) | (go_simp; rfl)); intro g2 hgg2 w2 hxg2 hyg2; have X2 := aS_ hxg2; have Y2 := aS_ hyg2; have Z2 := aS_ hgg2; clear hxg2 hyg2 hgg2)
  | ((with_reducible refine gate_dst (N := 3) rfl ?_); refine bX_ (N := 3) (cs := cmdc c rg) (t := 31) ?hr ?_; (case hr => first | (go_simp; done) | (go_simp; rfl)); intro g3 hgg3 w3 hxg3 hyg3; have X3 := aS_ hxg3; have Y3 := aS_ hyg3; have Z3 := aS_ (show g2 < g3 by rw [hgg3]; exact blk_lt X2.out); clear hxg3 hyg3 hgg3)
  | ((with_reducible refine gate_dst (N := 4) rfl ?_); refine bX_ (N := 4) (cs := outc) (t := 40) ?hr ?_; (case hr => first | (go_simp; done) | (go_simp; rfl)); intro g4 hgg4 w4 hxg4 hyg4; have hlt3 := blk_lt (blk_below X2.out Y3.out); have hlt4 := blk_lt X3.out; have hz2 := below_size (below_step HB.out (below_step Y2.out Y3.out)); have F := aS_ (Rf.mk (w0 := w) (by have := Z2.out; have := below_size HB.out; omega) (by omega) (by omega) (by have := Z3.out; omega) (by omega) (blk_below (blk_below X2.out Y3.out) hyg4) (blk_below X3.out hyg4) hxg4 (below_step HB.out (below_step Y2.out (below_step Y3.out hyg4)))); have n42 := F.out.n42; have n24 := F.out.n42.symm; clear hlt3 hlt4 hz2 X2 X3 Y2 Y3 Z2 Z3 hxg4 hyg4 hgg4; obtain ⟨hct0, hct1, hct2, hct3, hct4⟩ := cells5 F.out.b2; obtain ⟨-, -, hcc2, -, -, -, -, -, -, -, -, hcc11, -, -⟩ := cells14 F.out.b3; obtain ⟨hcr0, hcr1, hcr2, hcr3, hcr4, hcr5, hcr6⟩ := cells7 F.out.b4; have hfr0 := bF_ F.out.b4; have hft0 := bF_ F.out.b2)
  | (go_at_call 63; refine (headgateref11_hold.calls c.f11 c.f2 h1 h2 _ HH.out).mono ?_; rintro e w5 ⟨rfl, hb⟩; have F1 := aS_ (F.out.below hb); clear F hb; have F := F1; clear F1; clear hct0 hct1 hct2 hct3 hct4 hcc2 hcc11 hcr0 hfr0 hcr1 hcr2 hcr3 hcr4 hcr5 hcr6 hft0; obtain ⟨hct0, hct1, hct2, hct3, hct4⟩ := cells5 F.out.b2; obtain ⟨hcr0, hcr1, hcr2, hcr3, hcr4, hcr5, hcr6⟩ := cells7 F.out.b4; have hfr0 := bF_ F.out.b4; have hft0 := bF_ F.out.b2))
 (try simp only [Exit.inBlock, Exit.then])
 refine ret_out rfl rfl rfl (((F.out.put 1 _ rfl).put 2 _ rfl).out _ _ _ _ _ _ _).1 hu40 rfl rfl ?_;exact ⟨rfl, (((F.out.put 1 _ rfl).put 2 _ rfl).out _ _ _ _ _ _ _).2⟩
theorem rf_rsv_same (k : Nat) (A0 : Option Addr) (c0 : Nat) (l : List S53) (typ : Int) (host : ByteArray) (gen : Int) (apt : Bool) (c : S31) (rg : Value) (w : World) (hr : Kd.C k53 w A0 l.length l) (hc : l.length ≤ c0) (h0 : typ ≠ 0) (n : Int) (hw : (n = 2 ∧ headgateref10_Holds.f k l typ host gen apt c.f2 = some false) ∨ (n = 1 ∧ headgateref10_Holds.f k l typ host gen apt c.f2 = some true ∧ (typ == c.f11) = true) ∨ (n = 2 ∧ headgateref10_Holds.f k l typ host gen apt c.f2 = some true ∧ (typ == c.f11) = false)) :
  Calls Tryd.prog 39 #[.agg (tabc (.slice A0 l.length c0) typ host gen apt), .agg (cmdc c rg)] w fun e w' => e = .returned (.agg (outd (.slice A0 l.length c0) typ host gen apt (.slice none 0 0) n)) ∧ Below w.heap.size w w' := by
 have hu27 := Tryd.underlying27;have hu24 := Tryd.underlying24;have hu31 := Tryd.underlying31;have hu40 := Tryd.underlying40;have hu53 := Tryd.underlying53;have HR := aS_ hr;have HC := aS_ hc;have HB := aS_ (Below.refl w.heap.size w);clear hr hc;unfold tabc cmdc;have d0 : (typ == 0) = false := beq_eq_false_iff_ne.mpr h0;clear h0
 rcases hw with ⟨rfl, hh⟩ | ⟨rfl, hh, hq⟩ | ⟨rfl, hh, hq⟩
 all_goals
  have HH := aS_ hh;clear hh;go_enter Tryd.func39, Tryd.ntmps39
  go_wp2_with (first
   | ((with_reducible refine gate_dst (N := 2) rfl ?_); refine bX_ (N := 2) (cs := tabc (.slice A0 l.length c0) typ host gen apt) (t := 27) ?hr ?_; (case hr => first | (go_simp; done) | (go_simp; rfl)); intro g2 hgg2 w2 hxg2 hyg2; have X2 := aS_ hxg2; have Y2 := aS_ hyg2; have Z2 := aS_ hgg2; clear hxg2 hyg2 hgg2)
   | ((with_reducible refine gate_dst (N := 3) rfl ?_); refine bX_ (N := 3) (cs := cmdc c rg) (t := 31) ?hr ?_; (case hr => first | (go_simp; done) | (go_simp; rfl)); intro g3 hgg3 w3 hxg3 hyg3; have X3 := aS_ hxg3; have Y3 := aS_ hyg3; have Z3 := aS_ (show g2 < g3 by rw [hgg3]; exact blk_lt X2.out); clear hxg3 hyg3 hgg3)
   | ((with_reducible refine gate_dst (N := 4) rfl ?_); refine bX_ (N := 4) (cs := outc) (t := 40) ?hr ?_; (case hr => first | (go_simp; done) | (go_simp; rfl)); intro g4 hgg4 w4 hxg4 hyg4; have hlt3 := blk_lt (blk_below X2.out Y3.out); have hlt4 := blk_lt X3.out; have hz2 := below_size (below_step HB.out (below_step Y2.out Y3.out)); have F := aS_ (Rf.mk (w0 := w) (by have := Z2.out; have := below_size HB.out; omega) (by omega) (by omega) (by have := Z3.out; omega) (by omega) (blk_below (blk_below X2.out Y3.out) hyg4) (blk_below X3.out hyg4) hxg4 (below_step HB.out (below_step Y2.out (below_step Y3.out hyg4)))); have n42 := F.out.n42; have n24 := F.out.n42.symm; clear hlt3 hlt4 hz2 X2 X3 Y2 Y3 Z2 Z3 hxg4 hyg4 hgg4; obtain ⟨hct0, hct1, hct2, hct3, hct4⟩ := cells5 F.out.b2; obtain ⟨-, -, hcc2, -, -, -, -, -, -, -, -, hcc11, -, -⟩ := cells14 F.out.b3; obtain ⟨hcr0, hcr1, hcr2, hcr3, hcr4, hcr5, hcr6⟩ := cells7 F.out.b4; have hfr0 := bF_ F.out.b4)
   | (go_at_call 64; refine (headgateref10_Holds.calls k A0 c0 l typ host gen apt c.f2 _ _ (Kd.C_below HR.out F.out.hb) HC.out HH.out).mono ?_; rintro e w5 ⟨rfl, hb⟩; have F1 := aS_ (F.out.below hb); clear F hb; have F := F1; clear F1; clear hct0 hct1 hct2 hct3 hct4 hcc2 hcc11 hcr0 hfr0 hcr1 hcr2 hcr3 hcr4 hcr5 hcr6; obtain ⟨hct0, hct1, hct2, hct3, hct4⟩ := cells5 F.out.b2; obtain ⟨-, -, hcc2, -, -, -, -, -, -, -, -, hcc11, -, -⟩ := cells14 F.out.b3; obtain ⟨hcr0, hcr1, hcr2, hcr3, hcr4, hcr5, hcr6⟩ := cells7 F.out.b4; have hfr0 := bF_ F.out.b4))
  (try simp only [Exit.inBlock, Exit.then])
  refine ret_out rfl rfl rfl (F.out.out _ _ _ _ _ _ _).1 hu40 rfl rfl ?_;exact ⟨rfl, (F.out.out _ _ _ _ _ _ _).2⟩
theorem rf_rel_same (k : Nat) (A0 : Option Addr) (c0 : Nat) (l : List S53) (typ : Int) (host : ByteArray) (gen : Int) (apt : Bool) (c : S31) (rg : Value) (w : World) (hr : Kd.C k53 w A0 l.length l) (hc : l.length ≤ c0) (n : Int) (hw : (n = 1 ∧ headgateref10_Holds.f k l typ host gen apt c.f2 = some false) ∨ (n = 5 ∧ headgateref10_Holds.f k l typ host gen apt c.f2 = some true ∧ (typ != c.f11) = true)) :
  Calls Tryd.prog 40 #[.agg (tabc (.slice A0 l.length c0) typ host gen apt), .agg (cmdc c rg)] w fun e w' => e = .returned (.agg (outd (.slice A0 l.length c0) typ host gen apt (.slice none 0 0) n)) ∧ Below w.heap.size w w' := by
 have hu27 := Tryd.underlying27;have hu24 := Tryd.underlying24;have hu31 := Tryd.underlying31;have hu40 := Tryd.underlying40;have hu53 := Tryd.underlying53;have HR := aS_ hr;have HC := aS_ hc;have HB := aS_ (Below.refl w.heap.size w);clear hr hc;unfold tabc cmdc
 rcases hw with ⟨rfl, hh⟩ | ⟨rfl, hh, hq⟩
 all_goals
  have HH := aS_ hh;clear hh;go_enter Tryd.func40, Tryd.ntmps40
  go_wp2_with (first
   | ((with_reducible refine gate_dst (N := 2) rfl ?_); refine bX_ (N := 2) (cs := tabc (.slice A0 l.length c0) typ host gen apt) (t := 27) ?hr ?_; (case hr => first | (go_simp; done) | (go_simp; rfl)); intro g2 hgg2 w2 hxg2 hyg2; have X2 := aS_ hxg2; have Y2 := aS_ hyg2; have Z2 := aS_ hgg2; clear hxg2 hyg2 hgg2)
   | ((with_reducible refine gate_dst (N := 3) rfl ?_); refine bX_ (N := 3) (cs := cmdc c rg) (t := 31) ?hr ?_; (case hr => first | (go_simp; done) | (go_simp; rfl)); intro g3 hgg3 w3 hxg3 hyg3; have X3 := aS_ hxg3; have Y3 := aS_ hyg3; have Z3 := aS_ (show g2 < g3 by rw [hgg3]; exact blk_lt X2.out); clear hxg3 hyg3 hgg3)
   | ((with_reducible refine gate_dst (N := 4) rfl ?_); refine bX_ (N := 4) (cs := outc) (t := 40) ?hr ?_; (case hr => first | (go_simp; done) | (go_simp; rfl)); intro g4 hgg4 w4 hxg4 hyg4; have hlt3 := blk_lt (blk_below X2.out Y3.out); have hlt4 := blk_lt X3.out; have hz2 := below_size (below_step HB.out (below_step Y2.out Y3.out)); have F := aS_ (Rf.mk (w0 := w) (by have := Z2.out; have := below_size HB.out; omega) (by omega) (by omega) (by have := Z3.out; omega) (by omega) (blk_below (blk_below X2.out Y3.out) hyg4) (blk_below X3.out hyg4) hxg4 (below_step HB.out (below_step Y2.out (below_step Y3.out hyg4)))); have n42 := F.out.n42; have n24 := F.out.n42.symm; clear hlt3 hlt4 hz2 X2 X3 Y2 Y3 Z2 Z3 hxg4 hyg4 hgg4; obtain ⟨hct0, hct1, hct2, hct3, hct4⟩ := cells5 F.out.b2; obtain ⟨-, -, hcc2, -, -, -, -, -, -, -, -, hcc11, -, -⟩ := cells14 F.out.b3; obtain ⟨hcr0, hcr1, hcr2, hcr3, hcr4, hcr5, hcr6⟩ := cells7 F.out.b4; have hfr0 := bF_ F.out.b4)
   | (go_at_call 64; refine (headgateref10_Holds.calls k A0 c0 l typ host gen apt c.f2 _ _ (Kd.C_below HR.out F.out.hb) HC.out HH.out).mono ?_; rintro e w5 ⟨rfl, hb⟩; have F1 := aS_ (F.out.below hb); clear F hb; have F := F1; clear F1; clear hct0 hct1 hct2 hct3 hct4 hcc2 hcc11 hcr0 hfr0 hcr1 hcr2 hcr3 hcr4 hcr5 hcr6; obtain ⟨hct0, hct1, hct2, hct3, hct4⟩ := cells5 F.out.b2; obtain ⟨-, -, hcc2, -, -, -, -, -, -, -, -, hcc11, -, -⟩ := cells14 F.out.b3; obtain ⟨hcr0, hcr1, hcr2, hcr3, hcr4, hcr5, hcr6⟩ := cells7 F.out.b4; have hfr0 := bF_ F.out.b4))
  (try simp only [Exit.inBlock, Exit.then])
  refine ret_out rfl rfl rfl (F.out.out _ _ _ _ _ _ _).1 hu40 rfl rfl ?_;exact ⟨rfl, (F.out.out _ _ _ _ _ _ _).2⟩
theorem rf_rel_quiet (k : Nat) (A0 : Option Addr) (c0 : Nat) (l : List S53) (typ : Int) (host : ByteArray) (gen : Int) (apt : Bool) (c : S31) (rg : Value) (w : World) (hr : Kd.C k53 w A0 l.length l) (hc : l.length ≤ c0) (hh : headgateref10_Holds.f k l typ host gen apt c.f2 = some true) (hq : (typ != c.f11) = false) (h12 : c.f11 = 1 ∨ c.f11 = 2) :
  Calls Tryd.prog 40 #[.agg (tabc (.slice A0 l.length c0) typ host gen apt), .agg (cmdc c rg)] w fun e w' => e = .returned (.agg (outd (.slice A0 l.length c0) 0 (⟨#[]⟩ : ByteArray) gen apt (.slice none 0 0) 1)) ∧ Below w.heap.size w w' := by
 have hu27 := Tryd.underlying27;have hu24 := Tryd.underlying24;have hu31 := Tryd.underlying31;have hu40 := Tryd.underlying40;have hu53 := Tryd.underlying53;have HR := aS_ hr;have HC := aS_ hc;have HB := aS_ (Below.refl w.heap.size w);clear hr hc;unfold tabc cmdc;have HH := aS_ hh;clear hh
 obtain ⟨q1, d1⟩ : ∃ q1, (c.f11 != 1) = q1 := ⟨_, rfl⟩
 obtain ⟨q2, d2⟩ : ∃ q2, (c.f11 != 2) = q2 := ⟨_, rfl⟩
 have hqq : q1 = false ∨ q1 = true ∧ q2 = false := by rcases h12 with z | z <;> rw [z] at d1 d2 <;> simp at d1 d2 <;> simp [← d1, ← d2]
 clear h12
 rcases hqq with rfl | ⟨rfl, rfl⟩
 all_goals
  go_enter Tryd.func40, Tryd.ntmps40
  go_wp2_with (first
   | ((with_reducible refine gate_dst (N := 2) rfl ?_); refine bX_ (N := 2) (cs := tabc (.slice A0 l.length c0) typ host gen apt) (t := 27) ?hr ?_; (case hr => first | (go_simp; done) | (go_simp; rfl)); intro g2 hgg2 w2 hxg2 hyg2; have X2 := aS_ hxg2; have Y2 := aS_ hyg2; have Z2 := aS_ hgg2; clear hxg2 hyg2 hgg2)
   | ((with_reducible refine gate_dst (N := 3) rfl ?_); refine bX_ (N := 3) (cs := cmdc c rg) (t := 31) ?hr ?_; (case hr => first | (go_simp; done) | (go_simp; rfl)); intro g3 hgg3 w3 hxg3 hyg3; have X3 := aS_ hxg3; have Y3 := aS_ hyg3; have Z3 := aS_ (show g2 < g3 by rw [hgg3]; exact blk_lt X2.out); clear hxg3 hyg3 hgg3)
   | ((with_reducible refine gate_dst (N := 4) rfl ?_); refine bX_ (N := 4) (cs := outc) (t := 40) ?hr ?_; (case hr => first | (go_simp; done) | (go_simp; rfl)); intro g4 hgg4 w4 hxg4 hyg4; have hlt3 := blk_lt (blk_below X2.out Y3.out); have hlt4 := blk_lt X3.out; have hz2 := below_size (below_step HB.out (below_step Y2.out Y3.out)); have F := aS_ (Rf.mk (w0 := w) (by have := Z2.out; have := below_size HB.out; omega) (by omega) (by omega) (by have := Z3.out; omega) (by omega) (blk_below (blk_below X2.out Y3.out) hyg4) (blk_below X3.out hyg4) hxg4 (below_step HB.out (below_step Y2.out (below_step Y3.out hyg4)))); have n42 := F.out.n42; have n24 := F.out.n42.symm; clear hlt3 hlt4 hz2 X2 X3 Y2 Y3 Z2 Z3 hxg4 hyg4 hgg4; obtain ⟨hct0, hct1, hct2, hct3, hct4⟩ := cells5 F.out.b2; obtain ⟨-, -, hcc2, -, -, -, -, -, -, -, -, hcc11, -, -⟩ := cells14 F.out.b3; obtain ⟨hcr0, hcr1, hcr2, hcr3, hcr4, hcr5, hcr6⟩ := cells7 F.out.b4; have hfr0 := bF_ F.out.b4; have hft0 := bF_ F.out.b2)
   | (go_at_call 64; refine (headgateref10_Holds.calls k A0 c0 l typ host gen apt c.f2 true _ (Kd.C_below HR.out F.out.hb) HC.out HH.out).mono ?_; rintro e w5 ⟨rfl, hb⟩; have F1 := aS_ (F.out.below hb); clear F hb; have F := F1; clear F1; clear hct0 hct1 hct2 hct3 hct4 hcc2 hcc11 hcr0 hfr0 hcr1 hcr2 hcr3 hcr4 hcr5 hcr6 hft0; obtain ⟨hct0, hct1, hct2, hct3, hct4⟩ := cells5 F.out.b2; obtain ⟨-, -, hcc2, -, -, -, -, -, -, -, -, hcc11, -, -⟩ := cells14 F.out.b3; obtain ⟨hcr0, hcr1, hcr2, hcr3, hcr4, hcr5, hcr6⟩ := cells7 F.out.b4; have hfr0 := bF_ F.out.b4; have hft0 := bF_ F.out.b2))
  (try simp only [Exit.inBlock, Exit.then])
  refine ret_out rfl rfl rfl (((F.out.put 1 _ rfl).put 2 _ rfl).out _ _ _ _ _ _ _).1 hu40 rfl rfl ?_;exact ⟨rfl, (((F.out.put 1 _ rfl).put 2 _ rfl).out _ _ _ _ _ _ _).2⟩
theorem rf_rel_told (k : Nat) (A0 : Option Addr) (c0 : Nat) (l : List S53) (typ : Int) (host : ByteArray) (gen : Int) (apt : Bool) (c : S31) (rg : Value) (w : World) (hr : Kd.C k53 w A0 l.length l) (hc : l.length ≤ c0) (hh : headgateref10_Holds.f k l typ host gen apt c.f2 = some true) (hq : (typ != c.f11) = false) (hn1 : c.f11 ≠ 1) (hn2 : c.f11 ≠ 2) (evs : List S46) (hev : headgateref11_events.f k l c.f2 3 = some evs) :
  Calls Tryd.prog 40 #[.agg (tabc (.slice A0 l.length c0) typ host gen apt), .agg (cmdc c rg)] w fun e w' => ∃ v5, e = .returned (.agg (outd (.slice A0 l.length c0) 0 (⟨#[]⟩ : ByteArray) gen apt v5 1)) ∧ Kd.R k46 46 w' w.heap.size (fun _ => True) v5 evs ∧ Below w.heap.size w w' := by
 have hu27 := Tryd.underlying27;have hu24 := Tryd.underlying24;have hu31 := Tryd.underlying31;have hu40 := Tryd.underlying40;have hu53 := Tryd.underlying53;have HR := aS_ hr;have HC := aS_ hc;have HB := aS_ (Below.refl w.heap.size w);clear hr hc;unfold tabc cmdc;have HH := aS_ hh;clear hh;have HEV := aS_ hev;clear hev;have d1 : (c.f11 != 1) = true := bne_iff_ne.mpr hn1;have d2 : (c.f11 != 2) = true := bne_iff_ne.mpr hn2;clear hn1 hn2;go_enter Tryd.func40, Tryd.ntmps40
 go_wp2_with (first
  | ((with_reducible refine gate_dst (N := 2) rfl ?_); refine bX_ (N := 2) (cs := tabc (.slice A0 l.length c0) typ host gen apt) (t := 27) ?hr ?_; (case hr => first | (go_simp; done) | (go_simp; rfl)); intro g2 hgg2 w2 hxg2 hyg2; have X2 := aS_ hxg2; have Y2 := aS_ hyg2; have Z2 := aS_ hgg2; clear hxg2 hyg2 hgg2)
  | ((with_reducible refine gate_dst (N := 3) rfl ?_); refine bX_ (N := 3) (cs := cmdc c rg) (t := 31) ?hr ?_; (case hr => first | (go_simp; done) | (go_simp; rfl)); intro g3 hgg3 w3 hxg3 hyg3; have X3 := aS_ hxg3; have Y3 := aS_ hyg3; have Z3 := aS_ (show g2 < g3 by rw [hgg3]; exact blk_lt X2.out); clear hxg3 hyg3 hgg3)
  | ((with_reducible refine gate_dst (N := 4) rfl ?_); refine bX_ (N := 4) (cs := outc) (t := 40) ?hr ?_; (case hr => first | (go_simp; done) | (go_simp; rfl)); intro g4 hgg4 w4 hxg4 hyg4; have hlt3 := blk_lt (blk_below X2.out Y3.out); have hlt4 := blk_lt X3.out; have hz2 := below_size (below_step HB.out (below_step Y2.out Y3.out)); have F := aS_ (Rf.mk (w0 := w) (by have := Z2.out; have := below_size HB.out; omega) (by omega) (by omega) (by have := Z3.out; omega) (by omega) (blk_below (blk_below X2.out Y3.out) hyg4) (blk_below X3.out hyg4) hxg4 (below_step HB.out (below_step Y2.out (below_step Y3.out hyg4)))); have n42 := F.out.n42; have n24 := F.out.n42.symm; clear hlt3 hlt4 hz2 X2 X3 Y2 Y3 Z2 Z3 hxg4 hyg4 hgg4; obtain ⟨hct0, hct1, hct2, hct3, hct4⟩ := cells5 F.out.b2; obtain ⟨-, -, hcc2, -, -, -, -, -, -, -, -, hcc11, -, -⟩ := cells14 F.out.b3; obtain ⟨hcr0, hcr1, hcr2, hcr3, hcr4, hcr5, hcr6⟩ := cells7 F.out.b4; have hfr0 := bF_ F.out.b4; have hft0 := bF_ F.out.b2)
  | (go_at_call 64; refine (headgateref10_Holds.calls k A0 c0 l typ host gen apt c.f2 true _ (Kd.C_below HR.out F.out.hb) HC.out HH.out).mono ?_; rintro e w5 ⟨rfl, hb⟩; have F1 := aS_ (F.out.below hb); clear F hb; have F := F1; clear F1; clear hct0 hct1 hct2 hct3 hct4 hcc2 hcc11 hcr0 hfr0 hcr1 hcr2 hcr3 hcr4 hcr5 hcr6 hft0; obtain ⟨hct0, hct1, hct2, hct3, hct4⟩ := cells5 F.out.b2; obtain ⟨-, -, hcc2, -, -, -, -, -, -, -, -, hcc11, -, -⟩ := cells14 F.out.b3; obtain ⟨hcr0, hcr1, hcr2, hcr3, hcr4, hcr5, hcr6⟩ := cells7 F.out.b4; have hfr0 := bF_ F.out.b4; have hft0 := bF_ F.out.b2)
  | (go_at_call 41; refine (headgateref11_events.calls k _ _ l c.f2 3 evs _ (Kd.C_below HR.out F.out.hb) HC.out HEV.out).mono ?_; rintro e w6 ⟨v5, rfl, hv, hb⟩; have HV := aS_ (R_re46 hv (below_size F.out.hb) (fun _ _ _ => trivial) (ok' := fun _ => True)); obtain ⟨Av, cv, ev_⟩ := Kd.R_slice hv; subst ev_; clear hv; have F1 := aS_ (F.out.below hb); clear F hb; have F := F1; clear F1; clear hct0 hct1 hct2 hct3 hct4 hcc2 hcc11 hcr0 hfr0 hcr1 hcr2 hcr3 hcr4 hcr5 hcr6 hft0; obtain ⟨hct0, hct1, hct2, hct3, hct4⟩ := cells5 F.out.b2; obtain ⟨hcr0, hcr1, hcr2, hcr3, hcr4, hcr5, hcr6⟩ := cells7 F.out.b4; have hfr0 := bF_ F.out.b4; have hft0 := bF_ F.out.b2))
 (try simp only [Exit.inBlock, Exit.then])
 refine ret_out rfl rfl rfl (((F.out.put 1 _ rfl).put 2 _ rfl).out _ _ _ _ _ _ _).1 hu40 rfl rfl ?_;exact ⟨_, rfl, row_out (Kd.R_set (Kd.R_set HV.out F.out.b2 (by decide) 1 _) (F.out.put 1 _ rfl).b2 (by decide) 2 _) (((F.out.put 1 _ rfl).put 2 _ rfl)).b4 (by decide) _ _ _ _ _ _ _, (((F.out.put 1 _ rfl).put 2 _ rfl).out _ _ _ _ _ _ _).2⟩
def HCp (F : Nat) (w : World) (l : List S53) (typ : Int) (host : ByteArray) (gen : Int) (apt : Bool) (c : S31) (rg : Value) (r : List S53 × Int × ByteArray × Int × Bool × List S46 × Int) : Prop := ∀ (w1 : World) (A1 : Option Addr) (c1 : Nat), Below w.heap.size w w1 → Kd.R k53 53 w1 w.heap.size (fun _ => True) (.slice A1 l.length c1) l → Calls Tryd.prog F #[.agg (tabc (.slice A1 l.length c1) typ host gen apt), .agg (cmdc c rg)] w1 fun e w' => ∃ v0 v5, e = .returned (.agg #[v0, .int .i64 r.2.1, .string r.2.2.1, .int .u32 r.2.2.2.1, .bool r.2.2.2.2.1, v5, .int .i64 r.2.2.2.2.2.2]) ∧ Kd.R k53 53 w' w.heap.size (fun _ => True) v0 r.1 ∧ Kd.R k46 46 w' w.heap.size (fun _ => True) v5 r.2.2.2.2.2.1 ∧ Below w.heap.size w w' ∧ Kt w1 w'
theorem hc_same {F : Nat} {w : World} {l : List S53} {typ : Int} {host : ByteArray} {gen : Int} {apt : Bool} {c : S31} {rg : Value} {typ2 : Int} {host2 : ByteArray} {gen2 : Int} {apt2 : Bool} {code : Int} (H : ∀ (w1 : World) (A1 : Option Addr) (c1 : Nat), Kd.C k53 w1 A1 l.length l → l.length ≤ c1 → Calls Tryd.prog F #[.agg (tabc (.slice A1 l.length c1) typ host gen apt), .agg (cmdc c rg)] w1 fun e w' => e = .returned (.agg (outd (.slice A1 l.length c1) typ2 host2 gen2 apt2 (.slice none 0 0) code)) ∧ Below w1.heap.size w1 w') : HCp F w l typ host gen apt c rg (l, typ2, host2, gen2, apt2, [], code) := by
  intro w1 A1 c1 hb hr;obtain ⟨_, hn, hc⟩ := Kd.R_reads' hr;refine (H w1 A1 c1 hc hn).mono ?_;rintro e w' ⟨rfl, hb2⟩;exact ⟨_, _, rfl, Kd.R_below hr hb2, Kd.R_nil _ _ _ _ _, below_step hb hb2, Kt.of_below hb2⟩
theorem hc_told {F : Nat} {w : World} {l : List S53} {typ : Int} {host : ByteArray} {gen : Int} {apt : Bool} {c : S31} {rg : Value} {typ2 : Int} {host2 : ByteArray} {gen2 : Int} {apt2 : Bool} {evs : List S46} {code : Int} (H : ∀ (w1 : World) (A1 : Option Addr) (c1 : Nat), Kd.C k53 w1 A1 l.length l → l.length ≤ c1 → Calls Tryd.prog F #[.agg (tabc (.slice A1 l.length c1) typ host gen apt), .agg (cmdc c rg)] w1 fun e w' => ∃ v5, e = .returned (.agg (outd (.slice A1 l.length c1) typ2 host2 gen2 apt2 v5 code)) ∧ Kd.R k46 46 w' w1.heap.size (fun _ => True) v5 evs ∧ Below w1.heap.size w1 w') : HCp F w l typ host gen apt c rg (l, typ2, host2, gen2, apt2, evs, code) := by
  intro w1 A1 c1 hb hr;obtain ⟨_, hn, hc⟩ := Kd.R_reads' hr;refine (H w1 A1 c1 hc hn).mono ?_;rintro e w' ⟨v5, rfl, h5, hb2⟩;exact ⟨_, _, rfl, Kd.R_below hr hb2, R_re46 h5 (below_size hb) (fun _ _ _ => trivial), below_step hb hb2, Kt.of_below hb2⟩
theorem hc_new {F : Nat} {w : World} {l l2 : List S53} {typ : Int} {host : ByteArray} {gen : Int} {apt : Bool} {c : S31} {rg : Value} {typ2 : Int} {host2 : ByteArray} {gen2 : Int} {apt2 : Bool} {evs : List S46} {code : Int} (H : ∀ (w1 : World) (A1 : Option Addr) (c1 : Nat), Kd.C k53 w1 A1 l.length l → l.length ≤ c1 → Calls Tryd.prog F #[.agg (tabc (.slice A1 l.length c1) typ host gen apt), .agg (cmdc c rg)] w1 fun e w' => ∃ v0 v5, e = .returned (.agg (outd v0 typ2 host2 gen2 apt2 v5 code)) ∧ Kd.R k53 53 w' w1.heap.size (fun _ => True) v0 l2 ∧ Kd.R k46 46 w' w1.heap.size (fun _ => True) v5 evs ∧ Below w1.heap.size w1 w') : HCp F w l typ host gen apt c rg (l2, typ2, host2, gen2, apt2, evs, code) := by
  intro w1 A1 c1 hb hr;obtain ⟨_, hn, hc⟩ := Kd.R_reads' hr;refine (H w1 A1 c1 hc hn).mono ?_;rintro e w' ⟨v0, v5, rfl, h0, h5, hb2⟩;exact ⟨_, _, rfl, R_re53 h0 (below_size hb) (fun _ _ _ => trivial), R_re46 h5 (below_size hb) (fun _ _ _ => trivial), below_step hb hb2, Kt.of_below hb2⟩
theorem opf8 {c : S31} (h : c.f0 = 8) : (c.f0 == 8) = true ∧ (c.f0 == 9) = false ∧ (c.f0 == 10) = false ∧ (c.f0 == 11) = false ∧ (c.f0 == 12) = false ∧ decide (c.f0 < 8) = false ∧ decide (12 < c.f0) = false := by rw [h]; exact ⟨rfl, rfl, rfl, rfl, rfl, rfl, rfl⟩
theorem opf9 {c : S31} (h : c.f0 = 9) : (c.f0 == 8) = false ∧ (c.f0 == 9) = true ∧ (c.f0 == 10) = false ∧ (c.f0 == 11) = false ∧ (c.f0 == 12) = false ∧ decide (c.f0 < 8) = false ∧ decide (12 < c.f0) = false := by rw [h]; exact ⟨rfl, rfl, rfl, rfl, rfl, rfl, rfl⟩
theorem opf10 {c : S31} (h : c.f0 = 10) : (c.f0 == 8) = false ∧ (c.f0 == 9) = false ∧ (c.f0 == 10) = true ∧ (c.f0 == 11) = false ∧ (c.f0 == 12) = false ∧ decide (c.f0 < 8) = false ∧ decide (12 < c.f0) = false := by rw [h]; exact ⟨rfl, rfl, rfl, rfl, rfl, rfl, rfl⟩
theorem opf11 {c : S31} (h : c.f0 = 11) : (c.f0 == 8) = false ∧ (c.f0 == 9) = false ∧ (c.f0 == 10) = false ∧ (c.f0 == 11) = true ∧ (c.f0 == 12) = false ∧ decide (c.f0 < 8) = false ∧ decide (12 < c.f0) = false := by rw [h]; exact ⟨rfl, rfl, rfl, rfl, rfl, rfl, rfl⟩
theorem opf12 {c : S31} (h : c.f0 = 12) : (c.f0 == 8) = false ∧ (c.f0 == 9) = false ∧ (c.f0 == 10) = false ∧ (c.f0 == 11) = false ∧ (c.f0 == 12) = true ∧ decide (c.f0 < 8) = false ∧ decide (12 < c.f0) = false := by rw [h]; exact ⟨rfl, rfl, rfl, rfl, rfl, rfl, rfl⟩
theorem conf2 (kk f8 : Int) (h : kk = 0 ∨ kk ≠ f8) : (kk == 0) = true ∨ (kk == 0) = false ∧ (kk != f8) = true := by
  by_cases y : kk = 0
  · exact Or.inl (beq_iff_eq.mpr y)
  · exact Or.inr ⟨beq_eq_false_iff_ne.mpr y, bne_iff_ne.mpr (h.resolve_left y)⟩
theorem rf_do_same (k : Nat) (A0 : Option Addr) (c0 : Nat) (l : List S53) (typ : Int) (host : ByteArray) (gen : Int) (apt : Bool) (c : S31) (rg : Value) (w : World) (hr : Kd.C k53 w A0 l.length l) (hc : l.length ≤ c0) (hl : l.length ≤ 1000) (n : Int) (hw : (n = 5 ∧ headgateref11_Good.f k l typ host gen apt = some false) ∨ (n = 5 ∧ headgateref11_Good.f k l typ host gen apt = some true ∧ headgateref03_Name.f k c.f2 = some false) ∨ (n = 5 ∧ headgateref11_Good.f k l typ host gen apt = some true ∧ headgateref03_Name.f k c.f2 = some true ∧ (decide (c.f0 < 8) = true ∨ decide (c.f0 < 8) = false ∧ decide (12 < c.f0) = true)) ∨ (n = 5 ∧ headgateref11_Good.f k l typ host gen apt = some true ∧ headgateref03_Name.f k c.f2 = some true ∧ headgateref10_Type.f c.f11 = some false ∧ (c.f0 = 9 ∨ c.f0 = 12)) ∨ (n = 2 ∧ headgateref11_Good.f k l typ host gen apt = some true ∧ headgateref03_Name.f k c.f2 = some true ∧ headgateref10_Type.f c.f11 = some true ∧ (∃ kk, headgateref11_Key.f k l typ host gen apt c.f2 = some kk ∧ ((kk == 0) = true ∨ (kk == 0) = false ∧ (kk != c.f8) = true)) ∧ (c.f0 = 9 ∨ c.f0 = 12)) ∨ (n = 2 ∧ headgateref11_Good.f k l typ host gen apt = some true ∧ headgateref03_Name.f k c.f2 = some true ∧ (∃ kk, headgateref11_Key.f k l typ host gen apt c.f2 = some kk ∧ ((kk == 0) = true ∨ (kk == 0) = false ∧ (kk != c.f8) = true)) ∧ (c.f0 = 10 ∨ c.f0 = 11))) :
  Calls Tryd.prog 16 #[.agg (tabc (.slice A0 l.length c0) typ host gen apt), .agg (cmdc c rg)] w fun e w' => ∃ v0 v5, e = .returned (.agg (outd v0 typ host gen apt v5 n)) ∧ Kd.R k53 53 w' w.heap.size (fun _ => True) v0 l ∧ Kd.R k46 46 w' w.heap.size (fun _ => True) v5 [] ∧ Below w.heap.size w w' := by
 have hu27 := Tryd.underlying27;have hu24 := Tryd.underlying24;have hu31 := Tryd.underlying31;have hu40 := Tryd.underlying40;have hu53 := Tryd.underlying53;have HR := aS_ hr;have HC := aS_ hc;have HB := aS_ (Below.refl w.heap.size w);clear hr hc;unfold tabc cmdc;have HCP := aS_ (rf_copy l typ host gen apt hl);clear hl
 rcases hw with ⟨rfl, hgd⟩ | ⟨rfl, hgd, hnm⟩ | ⟨rfl, hgd, hnm, (el | ⟨el, eg⟩)⟩ | ⟨rfl, hgd, hnm, hty, (ho | ho)⟩ | ⟨rfl, hgd, hnm, hty, ⟨kk, hkk, (e0 | ⟨e0, e1⟩)⟩, (ho | ho)⟩ | ⟨rfl, hgd, hnm, ⟨kk, hkk, (e0 | ⟨e0, e1⟩)⟩, (ho | ho)⟩
 all_goals (first | (obtain ⟨e8, e9, e10, e11, e12, el, eg⟩ := opf9 ho; clear ho) | (obtain ⟨e8, e9, e10, e11, e12, el, eg⟩ := opf10 ho; clear ho) | (obtain ⟨e8, e9, e10, e11, e12, el, eg⟩ := opf11 ho; clear ho) | (obtain ⟨e8, e9, e10, e11, e12, el, eg⟩ := opf12 ho; clear ho) | skip)
 all_goals ((try (have HGD := aS_ hgd; clear hgd)); (try (have HNM := aS_ hnm; clear hnm)); (try (have HTY := aS_ hty; clear hty)); (try (have HKK := aS_ hkk; clear hkk)))
 all_goals
  go_enter Tryd.func16, Tryd.ntmps16
  go_wp2_with (first
   | ((with_reducible refine gate_dst (N := 2) rfl ?_); refine bX_ (N := 2) (cs := tabc (.slice A0 l.length c0) typ host gen apt) (t := 27) ?hr ?_; (case hr => first | (go_simp; done) | (go_simp; rfl)); intro g2 hgg2 w2 hxg2 hyg2; have X2 := aS_ hxg2; have Y2 := aS_ hyg2; have Z2 := aS_ hgg2; clear hxg2 hyg2 hgg2)
   | ((with_reducible refine gate_dst (N := 3) rfl ?_); refine bX_ (N := 3) (cs := cmdc c rg) (t := 31) ?hr ?_; (case hr => first | (go_simp; done) | (go_simp; rfl)); intro g3 hgg3 w3 hxg3 hyg3; have X3 := aS_ hxg3; have Y3 := aS_ hyg3; have Z3 := aS_ (show g2 < g3 by rw [hgg3]; exact blk_lt X2.out); clear hxg3 hyg3 hgg3)
   | ((with_reducible refine gate_dst (N := 4) rfl ?_); refine bX_ (N := 4) (cs := outc) (t := 40) ?hr ?_; (case hr => first | (go_simp; done) | (go_simp; rfl)); intro g4 hgg4 w4 hxg4 hyg4; have hlt3 := blk_lt (blk_below X2.out Y3.out); have hlt4 := blk_lt X3.out; have hz2 := below_size (below_step HB.out (below_step Y2.out Y3.out)); have F := aS_ (Rf.mk (w0 := w) (by have := Z2.out; have := below_size HB.out; omega) (by omega) (by omega) (by have := Z3.out; omega) (by omega) (blk_below (blk_below X2.out Y3.out) hyg4) (blk_below X3.out hyg4) hxg4 (below_step HB.out (below_step Y2.out (below_step Y3.out hyg4)))); have n42 := F.out.n42; have n24 := F.out.n42.symm; clear hlt3 hlt4 hz2 X2 X3 Y2 Y3 Z2 Z3 hxg4 hyg4 hgg4; obtain ⟨hct0, hct1, hct2, hct3, hct4⟩ := cells5 F.out.b2; obtain ⟨hcc0, hcc1, hcc2, hcc3, hcc4, hcc5, hcc6, hcc7, hcc8, hcc9, hcc10, hcc11, hcc12, hcc13⟩ := cells14 F.out.b3; obtain ⟨hcr0, hcr1, hcr2, hcr3, hcr4, hcr5, hcr6⟩ := cells7 F.out.b4; have hfr0 := bF_ F.out.b4; have hft0 := bF_ F.out.b2)
   | (go_at_call 14; refine (headgatekeep_CopyTable.calls A0 c0 l typ host gen apt l typ host gen apt _ (Kd.C_below HR.out F.out.hb) HC.out HCP.out).mono ?_; rintro e w5 ⟨v1, rfl, hr1, hb⟩; have R1 := aS_ (R_re53 hr1 (below_size F.out.hb) (fun _ _ _ => trivial) (ok' := fun _ => True)); obtain ⟨A1, c1, e1⟩ := Kd.R_slice hr1; subst e1; clear hr1; have F1 := aS_ (F.out.below hb); clear F hb; have F := F1; clear F1; clear hct0 hct1 hct2 hct3 hct4 hcc0 hcc1 hcc2 hcc3 hcc4 hcc5 hcc6 hcc7 hcc8 hcc9 hcc10 hcc11 hcc12 hcc13 hcr0 hfr0 hcr1 hcr2 hcr3 hcr4 hcr5 hcr6 hft0; obtain ⟨hct0, hct1, hct2, hct3, hct4⟩ := cells5 F.out.b2; obtain ⟨hcc0, hcc1, hcc2, hcc3, hcc4, hcc5, hcc6, hcc7, hcc8, hcc9, hcc10, hcc11, hcc12, hcc13⟩ := cells14 F.out.b3; obtain ⟨hcr0, hcr1, hcr2, hcr3, hcr4, hcr5, hcr6⟩ := cells7 F.out.b4; have hfr0 := bF_ F.out.b4; have hft0 := bF_ F.out.b2)
   | (go_at_call 20; refine deed_call (fun w' => Aside0 (Rf w w' g2 g3 g4 c rg (tabc (.slice A1 l.length c1) typ host gen apt)) ∧ Aside0 (Kd.R k53 53 w' w.heap.size (fun _ => True) (.slice A1 l.length c1) l)) ⟨⟨((((F.out.put 0 _ rfl).put 1 _ rfl).put 2 _ rfl).put 3 _ rfl).put 4 _ rfl⟩, ⟨row_put5 R1.out F.out.b2 (by decide) _ _ _ _ _⟩⟩ ?_; rintro w6 ⟨F6, R6⟩; clear F R1; have F := F6; have R1 := R6; clear F6 R6; refine (headgateref11_Good.calls k _ _ l typ host gen apt _ _ (Kd.R_reads' R1.out).2.2 (Kd.R_reads' R1.out).2.1 HGD.out).mono ?_; rintro e w7 ⟨rfl, hb⟩; have F1 := aS_ (F.out.below hb); have R2 := aS_ (Kd.R_below R1.out hb); clear F R1 hb; have F := F1; have R1 := R2; clear F1 R2; clear hct0 hct1 hct2 hct3 hct4 hcc0 hcc1 hcc2 hcc3 hcc4 hcc5 hcc6 hcc7 hcc8 hcc9 hcc10 hcc11 hcc12 hcc13 hcr0 hfr0 hcr1 hcr2 hcr3 hcr4 hcr5 hcr6 hft0; obtain ⟨hct0, hct1, hct2, hct3, hct4⟩ := cells5 F.out.b2; obtain ⟨hcc0, hcc1, hcc2, hcc3, hcc4, hcc5, hcc6, hcc7, hcc8, hcc9, hcc10, hcc11, hcc12, hcc13⟩ := cells14 F.out.b3; obtain ⟨hcr0, hcr1, hcr2, hcr3, hcr4, hcr5, hcr6⟩ := cells7 F.out.b4; have hfr0 := bF_ F.out.b4; have hft0 := bF_ F.out.b2)
   | (go_at_call 27; refine (headgateref03_Name.calls k c.f2 _ _ HNM.out).mono ?_; rintro e w8 ⟨rfl, hd⟩; have hb := hd.below; clear hd; have F1 := aS_ (F.out.below hb); have R2 := aS_ (Kd.R_below R1.out hb); clear F R1 hb; have F := F1; have R1 := R2; clear F1 R2; clear hct0 hct1 hct2 hct3 hct4 hcc0 hcc1 hcc2 hcc3 hcc4 hcc5 hcc6 hcc7 hcc8 hcc9 hcc10 hcc11 hcc12 hcc13 hcr0 hfr0 hcr1 hcr2 hcr3 hcr4 hcr5 hcr6 hft0; obtain ⟨hct0, hct1, hct2, hct3, hct4⟩ := cells5 F.out.b2; obtain ⟨hcc0, hcc1, hcc2, hcc3, hcc4, hcc5, hcc6, hcc7, hcc8, hcc9, hcc10, hcc11, hcc12, hcc13⟩ := cells14 F.out.b3; obtain ⟨hcr0, hcr1, hcr2, hcr3, hcr4, hcr5, hcr6⟩ := cells7 F.out.b4; have hfr0 := bF_ F.out.b4; have hft0 := bF_ F.out.b2)
   | (go_at_call 38; refine (headgateref10_Type.calls c.f11 _ _ HTY.out).mono ?_; rintro e w9 ⟨rfl, hd⟩; have hb := hd.below; clear hd; have F1 := aS_ (F.out.below hb); have R2 := aS_ (Kd.R_below R1.out hb); clear F R1 hb; have F := F1; have R1 := R2; clear F1 R2; clear hct0 hct1 hct2 hct3 hct4 hcc0 hcc1 hcc2 hcc3 hcc4 hcc5 hcc6 hcc7 hcc8 hcc9 hcc10 hcc11 hcc12 hcc13 hcr0 hfr0 hcr1 hcr2 hcr3 hcr4 hcr5 hcr6 hft0; obtain ⟨hct0, hct1, hct2, hct3, hct4⟩ := cells5 F.out.b2; obtain ⟨hcc0, hcc1, hcc2, hcc3, hcc4, hcc5, hcc6, hcc7, hcc8, hcc9, hcc10, hcc11, hcc12, hcc13⟩ := cells14 F.out.b3; obtain ⟨hcr0, hcr1, hcr2, hcr3, hcr4, hcr5, hcr6⟩ := cells7 F.out.b4; have hfr0 := bF_ F.out.b4; have hft0 := bF_ F.out.b2)
   | (go_at_call 19; refine (headgateref11_Key.calls k _ _ l typ host gen apt c.f2 kk _ (Kd.R_reads' R1.out).2.2 (Kd.R_reads' R1.out).2.1 HKK.out).mono ?_; rintro e w10 ⟨rfl, hb⟩; have F1 := aS_ (F.out.below hb); have R2 := aS_ (Kd.R_below R1.out hb); clear F R1 hb; have F := F1; have R1 := R2; clear F1 R2; clear hct0 hct1 hct2 hct3 hct4 hcc0 hcc1 hcc2 hcc3 hcc4 hcc5 hcc6 hcc7 hcc8 hcc9 hcc10 hcc11 hcc12 hcc13 hcr0 hfr0 hcr1 hcr2 hcr3 hcr4 hcr5 hcr6 hft0; obtain ⟨hct0, hct1, hct2, hct3, hct4⟩ := cells5 F.out.b2; obtain ⟨hcc0, hcc1, hcc2, hcc3, hcc4, hcc5, hcc6, hcc7, hcc8, hcc9, hcc10, hcc11, hcc12, hcc13⟩ := cells14 F.out.b3; obtain ⟨hcr0, hcr1, hcr2, hcr3, hcr4, hcr5, hcr6⟩ := cells7 F.out.b4; have hfr0 := bF_ F.out.b4; have hft0 := bF_ F.out.b2))
  (try simp only [Exit.inBlock, Exit.then])
  refine ret_out rfl rfl rfl (F.out.out _ _ _ _ _ _ _).1 hu40 rfl rfl ?_;exact ⟨_, _, rfl, row_out R1.out F.out.b4 (by decide) _ _ _ _ _ _ _, Kd.R_nil _ _ _ _ _, (F.out.out _ _ _ _ _ _ _).2⟩
theorem rf_do_sub (k : Nat) (A0 : Option Addr) (c0 : Nat) (l : List S53) (typ : Int) (host : ByteArray) (gen : Int) (apt : Bool) (c : S31) (rg : Value) (w : World) (hr : Kd.C k53 w A0 l.length l) (hc : l.length ≤ c0) (hl : l.length ≤ 1000) (hgd : headgateref11_Good.f k l typ host gen apt = some true) (hnm : headgateref03_Name.f k c.f2 = some true) (r : List S53 × Int × ByteArray × Int × Bool × List S46 × Int) (hw : (HCp 37 w l typ host gen apt c rg r ∧ c.f0 = 8) ∨ (HCp 39 w l typ host gen apt c rg r ∧ (∃ kk, headgateref11_Key.f k l typ host gen apt c.f2 = some kk ∧ (kk == 0) = false ∧ (kk != c.f8) = false) ∧ headgateref10_Type.f c.f11 = some true ∧ c.f0 = 9) ∨ (HCp 40 w l typ host gen apt c rg r ∧ (∃ kk, headgateref11_Key.f k l typ host gen apt c.f2 = some kk ∧ (kk == 0) = false ∧ (kk != c.f8) = false) ∧ c.f0 = 10) ∨ (HCp 42 w l typ host gen apt c rg r ∧ (∃ kk, headgateref11_Key.f k l typ host gen apt c.f2 = some kk ∧ (kk == 0) = false ∧ (kk != c.f8) = false) ∧ headgateref10_Type.f c.f11 = some true ∧ c.f0 = 12)) :
  Calls Tryd.prog 16 #[.agg (tabc (.slice A0 l.length c0) typ host gen apt), .agg (cmdc c rg)] w fun e w' => ∃ v0 v5, e = .returned (.agg #[v0, .int .i64 r.2.1, .string r.2.2.1, .int .u32 r.2.2.2.1, .bool r.2.2.2.2.1, v5, .int .i64 r.2.2.2.2.2.2]) ∧ Kd.R k53 53 w' w.heap.size (fun _ => True) v0 r.1 ∧ Kd.R k46 46 w' w.heap.size (fun _ => True) v5 r.2.2.2.2.2.1 ∧ Below w.heap.size w w' := by
 have hu27 := Tryd.underlying27;have hu24 := Tryd.underlying24;have hu31 := Tryd.underlying31;have hu40 := Tryd.underlying40;have hu53 := Tryd.underlying53;have HR := aS_ hr;have HC := aS_ hc;have HB := aS_ (Below.refl w.heap.size w);clear hr hc;unfold tabc cmdc;have HCP := aS_ (rf_copy l typ host gen apt hl);clear hl
 rcases hw with ⟨hcall, ho⟩ | ⟨hcall, ⟨kk, hkk, e0, e1⟩, hty, ho⟩ | ⟨hcall, ⟨kk, hkk, e0, e1⟩, ho⟩ | ⟨hcall, ⟨kk, hkk, e0, e1⟩, hty, ho⟩
 all_goals (first | (obtain ⟨e8, e9, e10, e11, e12, el, eg⟩ := opf8 ho; clear ho) | (obtain ⟨e8, e9, e10, e11, e12, el, eg⟩ := opf9 ho; clear ho) | (obtain ⟨e8, e9, e10, e11, e12, el, eg⟩ := opf10 ho; clear ho) | (obtain ⟨e8, e9, e10, e11, e12, el, eg⟩ := opf12 ho; clear ho) | skip)
 all_goals ((try (have HGD := aS_ hgd; clear hgd)); (try (have HNM := aS_ hnm; clear hnm)); (try (have HTY := aS_ hty; clear hty)); (try (have HKK := aS_ hkk; clear hkk)); (try (have HCALL := aS_ hcall; clear hcall)))
 all_goals
  go_enter Tryd.func16, Tryd.ntmps16
  go_wp2_with (first
   | ((with_reducible refine gate_dst (N := 2) rfl ?_); refine bX_ (N := 2) (cs := tabc (.slice A0 l.length c0) typ host gen apt) (t := 27) ?hr ?_; (case hr => first | (go_simp; done) | (go_simp; rfl)); intro g2 hgg2 w2 hxg2 hyg2; have X2 := aS_ hxg2; have Y2 := aS_ hyg2; have Z2 := aS_ hgg2; clear hxg2 hyg2 hgg2)
   | ((with_reducible refine gate_dst (N := 3) rfl ?_); refine bX_ (N := 3) (cs := cmdc c rg) (t := 31) ?hr ?_; (case hr => first | (go_simp; done) | (go_simp; rfl)); intro g3 hgg3 w3 hxg3 hyg3; have X3 := aS_ hxg3; have Y3 := aS_ hyg3; have Z3 := aS_ (show g2 < g3 by rw [hgg3]; exact blk_lt X2.out); clear hxg3 hyg3 hgg3)
   | ((with_reducible refine gate_dst (N := 4) rfl ?_); refine bX_ (N := 4) (cs := outc) (t := 40) ?hr ?_; (case hr => first | (go_simp; done) | (go_simp; rfl)); intro g4 hgg4 w4 hxg4 hyg4; have hlt3 := blk_lt (blk_below X2.out Y3.out); have hlt4 := blk_lt X3.out; have hz2 := below_size (below_step HB.out (below_step Y2.out Y3.out)); have F := aS_ (Rf.mk (w0 := w) (by have := Z2.out; have := below_size HB.out; omega) (by omega) (by omega) (by have := Z3.out; omega) (by omega) (blk_below (blk_below X2.out Y3.out) hyg4) (blk_below X3.out hyg4) hxg4 (below_step HB.out (below_step Y2.out (below_step Y3.out hyg4)))); have n42 := F.out.n42; have n24 := F.out.n42.symm; clear hlt3 hlt4 hz2 X2 X3 Y2 Y3 Z2 Z3 hxg4 hyg4 hgg4; obtain ⟨hct0, hct1, hct2, hct3, hct4⟩ := cells5 F.out.b2; obtain ⟨hcc0, hcc1, hcc2, hcc3, hcc4, hcc5, hcc6, hcc7, hcc8, hcc9, hcc10, hcc11, hcc12, hcc13⟩ := cells14 F.out.b3; obtain ⟨hcr0, hcr1, hcr2, hcr3, hcr4, hcr5, hcr6⟩ := cells7 F.out.b4; have hfr0 := bF_ F.out.b4; have hft0 := bF_ F.out.b2)
   | (go_at_call 14; refine (headgatekeep_CopyTable.calls A0 c0 l typ host gen apt l typ host gen apt _ (Kd.C_below HR.out F.out.hb) HC.out HCP.out).mono ?_; rintro e w5 ⟨v1, rfl, hr1, hb⟩; have R1 := aS_ (R_re53 hr1 (below_size F.out.hb) (fun _ _ _ => trivial) (ok' := fun _ => True)); obtain ⟨A1, c1, e1⟩ := Kd.R_slice hr1; subst e1; clear hr1; have F1 := aS_ (F.out.below hb); clear F hb; have F := F1; clear F1; clear hct0 hct1 hct2 hct3 hct4 hcc0 hcc1 hcc2 hcc3 hcc4 hcc5 hcc6 hcc7 hcc8 hcc9 hcc10 hcc11 hcc12 hcc13 hcr0 hfr0 hcr1 hcr2 hcr3 hcr4 hcr5 hcr6 hft0; obtain ⟨hct0, hct1, hct2, hct3, hct4⟩ := cells5 F.out.b2; obtain ⟨hcc0, hcc1, hcc2, hcc3, hcc4, hcc5, hcc6, hcc7, hcc8, hcc9, hcc10, hcc11, hcc12, hcc13⟩ := cells14 F.out.b3; obtain ⟨hcr0, hcr1, hcr2, hcr3, hcr4, hcr5, hcr6⟩ := cells7 F.out.b4; have hfr0 := bF_ F.out.b4; have hft0 := bF_ F.out.b2)
   | (go_at_call 20; refine deed_call (fun w' => Aside0 (Rf w w' g2 g3 g4 c rg (tabc (.slice A1 l.length c1) typ host gen apt)) ∧ Aside0 (Kd.R k53 53 w' w.heap.size (fun _ => True) (.slice A1 l.length c1) l)) ⟨⟨((((F.out.put 0 _ rfl).put 1 _ rfl).put 2 _ rfl).put 3 _ rfl).put 4 _ rfl⟩, ⟨row_put5 R1.out F.out.b2 (by decide) _ _ _ _ _⟩⟩ ?_; rintro w6 ⟨F6, R6⟩; clear F R1; have F := F6; have R1 := R6; clear F6 R6; refine (headgateref11_Good.calls k _ _ l typ host gen apt _ _ (Kd.R_reads' R1.out).2.2 (Kd.R_reads' R1.out).2.1 HGD.out).mono ?_; rintro e w7 ⟨rfl, hb⟩; have F1 := aS_ (F.out.below hb); have R2 := aS_ (Kd.R_below R1.out hb); clear F R1 hb; have F := F1; have R1 := R2; clear F1 R2; clear hct0 hct1 hct2 hct3 hct4 hcc0 hcc1 hcc2 hcc3 hcc4 hcc5 hcc6 hcc7 hcc8 hcc9 hcc10 hcc11 hcc12 hcc13 hcr0 hfr0 hcr1 hcr2 hcr3 hcr4 hcr5 hcr6 hft0; obtain ⟨hct0, hct1, hct2, hct3, hct4⟩ := cells5 F.out.b2; obtain ⟨hcc0, hcc1, hcc2, hcc3, hcc4, hcc5, hcc6, hcc7, hcc8, hcc9, hcc10, hcc11, hcc12, hcc13⟩ := cells14 F.out.b3; obtain ⟨hcr0, hcr1, hcr2, hcr3, hcr4, hcr5, hcr6⟩ := cells7 F.out.b4; have hfr0 := bF_ F.out.b4; have hft0 := bF_ F.out.b2)
   | (go_at_call 27; refine (headgateref03_Name.calls k c.f2 _ _ HNM.out).mono ?_; rintro e w8 ⟨rfl, hd⟩; have hb := hd.below; clear hd; have F1 := aS_ (F.out.below hb); have R2 := aS_ (Kd.R_below R1.out hb); clear F R1 hb; have F := F1; have R1 := R2; clear F1 R2; clear hct0 hct1 hct2 hct3 hct4 hcc0 hcc1 hcc2 hcc3 hcc4 hcc5 hcc6 hcc7 hcc8 hcc9 hcc10 hcc11 hcc12 hcc13 hcr0 hfr0 hcr1 hcr2 hcr3 hcr4 hcr5 hcr6 hft0; obtain ⟨hct0, hct1, hct2, hct3, hct4⟩ := cells5 F.out.b2; obtain ⟨hcc0, hcc1, hcc2, hcc3, hcc4, hcc5, hcc6, hcc7, hcc8, hcc9, hcc10, hcc11, hcc12, hcc13⟩ := cells14 F.out.b3; obtain ⟨hcr0, hcr1, hcr2, hcr3, hcr4, hcr5, hcr6⟩ := cells7 F.out.b4; have hfr0 := bF_ F.out.b4; have hft0 := bF_ F.out.b2)
   | (go_at_call 38; refine (headgateref10_Type.calls c.f11 _ _ HTY.out).mono ?_; rintro e w9 ⟨rfl, hd⟩; have hb := hd.below; clear hd; have F1 := aS_ (F.out.below hb); have R2 := aS_ (Kd.R_below R1.out hb); clear F R1 hb; have F := F1; have R1 := R2; clear F1 R2; clear hct0 hct1 hct2 hct3 hct4 hcc0 hcc1 hcc2 hcc3 hcc4 hcc5 hcc6 hcc7 hcc8 hcc9 hcc10 hcc11 hcc12 hcc13 hcr0 hfr0 hcr1 hcr2 hcr3 hcr4 hcr5 hcr6 hft0; obtain ⟨hct0, hct1, hct2, hct3, hct4⟩ := cells5 F.out.b2; obtain ⟨hcc0, hcc1, hcc2, hcc3, hcc4, hcc5, hcc6, hcc7, hcc8, hcc9, hcc10, hcc11, hcc12, hcc13⟩ := cells14 F.out.b3; obtain ⟨hcr0, hcr1, hcr2, hcr3, hcr4, hcr5, hcr6⟩ := cells7 F.out.b4; have hfr0 := bF_ F.out.b4; have hft0 := bF_ F.out.b2)
   | (go_at_call 19; refine (headgateref11_Key.calls k _ _ l typ host gen apt c.f2 kk _ (Kd.R_reads' R1.out).2.2 (Kd.R_reads' R1.out).2.1 HKK.out).mono ?_; rintro e w10 ⟨rfl, hb⟩; have F1 := aS_ (F.out.below hb); have R2 := aS_ (Kd.R_below R1.out hb); clear F R1 hb; have F := F1; have R1 := R2; clear F1 R2; clear hct0 hct1 hct2 hct3 hct4 hcc0 hcc1 hcc2 hcc3 hcc4 hcc5 hcc6 hcc7 hcc8 hcc9 hcc10 hcc11 hcc12 hcc13 hcr0 hfr0 hcr1 hcr2 hcr3 hcr4 hcr5 hcr6 hft0; obtain ⟨hct0, hct1, hct2, hct3, hct4⟩ := cells5 F.out.b2; obtain ⟨hcc0, hcc1, hcc2, hcc3, hcc4, hcc5, hcc6, hcc7, hcc8, hcc9, hcc10, hcc11, hcc12, hcc13⟩ := cells14 F.out.b3; obtain ⟨hcr0, hcr1, hcr2, hcr3, hcr4, hcr5, hcr6⟩ := cells7 F.out.b4; have hfr0 := bF_ F.out.b4; have hft0 := bF_ F.out.b2)
   | ((first | go_at_call 37 | go_at_call 39 | go_at_call 40 | go_at_call 42); refine (HCALL.out _ _ _ F.out.hb R1.out).mono ?_; rintro e w11 ⟨v0, v5, rfl, hr0, hr5, hbb, hkt⟩; have F1 := aS_ (F.out.kt hkt hbb); clear F R1 hbb hkt; have F := F1; clear F1; obtain ⟨Ax, cx, ex⟩ := Kd.R_slice hr0; obtain ⟨Ay, cy, ey⟩ := Kd.R_slice hr5; subst ex; subst ey; have R0 := aS_ hr0; have R5 := aS_ hr5; clear hr0 hr5; clear hct0 hct1 hct2 hct3 hct4 hcc0 hcc1 hcc2 hcc3 hcc4 hcc5 hcc6 hcc7 hcc8 hcc9 hcc10 hcc11 hcc12 hcc13 hcr0 hfr0 hcr1 hcr2 hcr3 hcr4 hcr5 hcr6 hft0; obtain ⟨hct0, hct1, hct2, hct3, hct4⟩ := cells5 F.out.b2; obtain ⟨hcr0, hcr1, hcr2, hcr3, hcr4, hcr5, hcr6⟩ := cells7 F.out.b4; have hfr0 := bF_ F.out.b4))
  (try simp only [Exit.inBlock, Exit.then])
  refine ret_out rfl rfl rfl (F.out.out _ _ _ _ _ _ _).1 hu40 rfl rfl ?_;exact ⟨_, _, rfl, row_out R0.out F.out.b4 (by decide) _ _ _ _ _ _ _, row_out R5.out F.out.b4 (by decide) _ _ _ _ _ _ _, (F.out.out _ _ _ _ _ _ _).2⟩
theorem rf_do_clear (k : Nat) (A0 : Option Addr) (c0 : Nat) (l : List S53) (typ : Int) (host : ByteArray) (gen : Int) (apt : Bool) (c : S31) (rg : Value) (w : World) (hr : Kd.C k53 w A0 l.length l) (hc : l.length ≤ c0) (hl : l.length ≤ 1000) (hgd : headgateref11_Good.f k l typ host gen apt = some true) (hnm : headgateref03_Name.f k c.f2 = some true) (kk : Int) (hkk : headgateref11_Key.f k l typ host gen apt c.f2 = some kk) (h0 : kk ≠ 0) (h8 : kk = c.f8) (ho : c.f0 = 11) (evs : List S46) (hev : headgateref11_events.f k l c.f2 4 = some evs) :
  Calls Tryd.prog 16 #[.agg (tabc (.slice A0 l.length c0) typ host gen apt), .agg (cmdc c rg)] w fun e w' => ∃ v0 v5, e = .returned (.agg (outd v0 0 (⟨#[]⟩ : ByteArray) ((gen + 1) % 4294967296) apt v5 1)) ∧ Kd.R k53 53 w' w.heap.size (fun _ => True) v0 [] ∧ Kd.R k46 46 w' w.heap.size (fun _ => True) v5 evs ∧ Below w.heap.size w w' := by
 have hu27 := Tryd.underlying27;have hu24 := Tryd.underlying24;have hu31 := Tryd.underlying31;have hu40 := Tryd.underlying40;have hu53 := Tryd.underlying53;have HR := aS_ hr;have HC := aS_ hc;have HB := aS_ (Below.refl w.heap.size w);clear hr hc;unfold tabc cmdc;have HCP := aS_ (rf_copy l typ host gen apt hl);clear hl;have HGD := aS_ hgd;clear hgd;have HNM := aS_ hnm;clear hnm;have HKK := aS_ hkk;clear hkk;have HEV := aS_ hev;clear hev;have e0 : (kk == 0) = false := beq_eq_false_iff_ne.mpr h0;have e1 : (kk != c.f8) = false := bne_eq_false_iff_eq.mpr h8;clear h0 h8
 have e8 : (c.f0 == 8) = false := by rw [ho]; rfl
 have e9 : (c.f0 == 9) = false := by rw [ho]; rfl
 have e10 : (c.f0 == 10) = false := by rw [ho]; rfl
 have e11 : (c.f0 == 11) = true := by rw [ho]; rfl
 have e12 : (c.f0 == 12) = false := by rw [ho]; rfl
 have el : decide (c.f0 < 8) = false := by rw [ho]; rfl
 have eg : decide (12 < c.f0) = false := by rw [ho]; rfl
 clear ho;go_enter Tryd.func16, Tryd.ntmps16
 go_wp2_with (first
  | ((with_reducible refine gate_dst (N := 2) rfl ?_); refine bX_ (N := 2) (cs := tabc (.slice A0 l.length c0) typ host gen apt) (t := 27) ?hr ?_; (case hr => first | (go_simp; done) | (go_simp; rfl)); intro g2 hgg2 w2 hxg2 hyg2; have X2 := aS_ hxg2; have Y2 := aS_ hyg2; have Z2 := aS_ hgg2; clear hxg2 hyg2 hgg2)
  | ((with_reducible refine gate_dst (N := 3) rfl ?_); refine bX_ (N := 3) (cs := cmdc c rg) (t := 31) ?hr ?_; (case hr => first | (go_simp; done) | (go_simp; rfl)); intro g3 hgg3 w3 hxg3 hyg3; have X3 := aS_ hxg3; have Y3 := aS_ hyg3; have Z3 := aS_ (show g2 < g3 by rw [hgg3]; exact blk_lt X2.out); clear hxg3 hyg3 hgg3)
  | ((with_reducible refine gate_dst (N := 4) rfl ?_); refine bX_ (N := 4) (cs := outc) (t := 40) ?hr ?_; (case hr => first | (go_simp; done) | (go_simp; rfl)); intro g4 hgg4 w4 hxg4 hyg4; have hlt3 := blk_lt (blk_below X2.out Y3.out); have hlt4 := blk_lt X3.out; have hz2 := below_size (below_step HB.out (below_step Y2.out Y3.out)); have F := aS_ (Rf.mk (w0 := w) (by have := Z2.out; have := below_size HB.out; omega) (by omega) (by omega) (by have := Z3.out; omega) (by omega) (blk_below (blk_below X2.out Y3.out) hyg4) (blk_below X3.out hyg4) hxg4 (below_step HB.out (below_step Y2.out (below_step Y3.out hyg4)))); have n42 := F.out.n42; have n24 := F.out.n42.symm; clear hlt3 hlt4 hz2 X2 X3 Y2 Y3 Z2 Z3 hxg4 hyg4 hgg4; obtain ⟨hct0, hct1, hct2, hct3, hct4⟩ := cells5 F.out.b2; obtain ⟨hcc0, hcc1, hcc2, hcc3, hcc4, hcc5, hcc6, hcc7, hcc8, hcc9, hcc10, hcc11, hcc12, hcc13⟩ := cells14 F.out.b3; obtain ⟨hcr0, hcr1, hcr2, hcr3, hcr4, hcr5, hcr6⟩ := cells7 F.out.b4; have hfr0 := bF_ F.out.b4; have hft0 := bF_ F.out.b2)
  | (go_at_call 14; refine (headgatekeep_CopyTable.calls A0 c0 l typ host gen apt l typ host gen apt _ (Kd.C_below HR.out F.out.hb) HC.out HCP.out).mono ?_; rintro e w5 ⟨v1, rfl, hr1, hb⟩; have R1 := aS_ (R_re53 hr1 (below_size F.out.hb) (fun _ _ _ => trivial) (ok' := fun _ => True)); obtain ⟨A1, c1, e1⟩ := Kd.R_slice hr1; subst e1; clear hr1; have F1 := aS_ (F.out.below hb); clear F hb; have F := F1; clear F1; clear hct0 hct1 hct2 hct3 hct4 hcc0 hcc1 hcc2 hcc3 hcc4 hcc5 hcc6 hcc7 hcc8 hcc9 hcc10 hcc11 hcc12 hcc13 hcr0 hfr0 hcr1 hcr2 hcr3 hcr4 hcr5 hcr6 hft0; obtain ⟨hct0, hct1, hct2, hct3, hct4⟩ := cells5 F.out.b2; obtain ⟨hcc0, hcc1, hcc2, hcc3, hcc4, hcc5, hcc6, hcc7, hcc8, hcc9, hcc10, hcc11, hcc12, hcc13⟩ := cells14 F.out.b3; obtain ⟨hcr0, hcr1, hcr2, hcr3, hcr4, hcr5, hcr6⟩ := cells7 F.out.b4; have hfr0 := bF_ F.out.b4; have hft0 := bF_ F.out.b2)
  | (go_at_call 20; refine deed_call (fun w' => Aside0 (Rf w w' g2 g3 g4 c rg (tabc (.slice A1 l.length c1) typ host gen apt)) ∧ Aside0 (Kd.R k53 53 w' w.heap.size (fun _ => True) (.slice A1 l.length c1) l)) ⟨⟨((((F.out.put 0 _ rfl).put 1 _ rfl).put 2 _ rfl).put 3 _ rfl).put 4 _ rfl⟩, ⟨row_put5 R1.out F.out.b2 (by decide) _ _ _ _ _⟩⟩ ?_; rintro w6 ⟨F6, R6⟩; clear F R1; have F := F6; have R1 := R6; clear F6 R6; refine (headgateref11_Good.calls k _ _ l typ host gen apt true _ (Kd.R_reads' R1.out).2.2 (Kd.R_reads' R1.out).2.1 HGD.out).mono ?_; rintro e w7 ⟨rfl, hb⟩; have F1 := aS_ (F.out.below hb); have R2 := aS_ (Kd.R_below R1.out hb); clear F R1 hb; have F := F1; have R1 := R2; clear F1 R2; clear hct0 hct1 hct2 hct3 hct4 hcc0 hcc1 hcc2 hcc3 hcc4 hcc5 hcc6 hcc7 hcc8 hcc9 hcc10 hcc11 hcc12 hcc13 hcr0 hfr0 hcr1 hcr2 hcr3 hcr4 hcr5 hcr6 hft0; obtain ⟨hct0, hct1, hct2, hct3, hct4⟩ := cells5 F.out.b2; obtain ⟨hcc0, hcc1, hcc2, hcc3, hcc4, hcc5, hcc6, hcc7, hcc8, hcc9, hcc10, hcc11, hcc12, hcc13⟩ := cells14 F.out.b3; obtain ⟨hcr0, hcr1, hcr2, hcr3, hcr4, hcr5, hcr6⟩ := cells7 F.out.b4; have hfr0 := bF_ F.out.b4; have hft0 := bF_ F.out.b2)
  | (go_at_call 27; refine (headgateref03_Name.calls k c.f2 true _ HNM.out).mono ?_; rintro e w8 ⟨rfl, hd⟩; have hb := hd.below; clear hd; have F1 := aS_ (F.out.below hb); have R2 := aS_ (Kd.R_below R1.out hb); clear F R1 hb; have F := F1; have R1 := R2; clear F1 R2; clear hct0 hct1 hct2 hct3 hct4 hcc0 hcc1 hcc2 hcc3 hcc4 hcc5 hcc6 hcc7 hcc8 hcc9 hcc10 hcc11 hcc12 hcc13 hcr0 hfr0 hcr1 hcr2 hcr3 hcr4 hcr5 hcr6 hft0; obtain ⟨hct0, hct1, hct2, hct3, hct4⟩ := cells5 F.out.b2; obtain ⟨hcc0, hcc1, hcc2, hcc3, hcc4, hcc5, hcc6, hcc7, hcc8, hcc9, hcc10, hcc11, hcc12, hcc13⟩ := cells14 F.out.b3; obtain ⟨hcr0, hcr1, hcr2, hcr3, hcr4, hcr5, hcr6⟩ := cells7 F.out.b4; have hfr0 := bF_ F.out.b4; have hft0 := bF_ F.out.b2)
  | (go_at_call 19; refine (headgateref11_Key.calls k _ _ l typ host gen apt c.f2 kk _ (Kd.R_reads' R1.out).2.2 (Kd.R_reads' R1.out).2.1 HKK.out).mono ?_; rintro e w10 ⟨rfl, hb⟩; have F1 := aS_ (F.out.below hb); have R2 := aS_ (Kd.R_below R1.out hb); clear F R1 hb; have F := F1; have R1 := R2; clear F1 R2; clear hct0 hct1 hct2 hct3 hct4 hcc0 hcc1 hcc2 hcc3 hcc4 hcc5 hcc6 hcc7 hcc8 hcc9 hcc10 hcc11 hcc12 hcc13 hcr0 hfr0 hcr1 hcr2 hcr3 hcr4 hcr5 hcr6 hft0; obtain ⟨hct0, hct1, hct2, hct3, hct4⟩ := cells5 F.out.b2; obtain ⟨hcc0, hcc1, hcc2, hcc3, hcc4, hcc5, hcc6, hcc7, hcc8, hcc9, hcc10, hcc11, hcc12, hcc13⟩ := cells14 F.out.b3; obtain ⟨hcr0, hcr1, hcr2, hcr3, hcr4, hcr5, hcr6⟩ := cells7 F.out.b4; have hfr0 := bF_ F.out.b4; have hft0 := bF_ F.out.b2)
  | (go_at_call 41; refine (headgateref11_events.calls k _ _ l c.f2 4 evs _ (Kd.R_reads' R1.out).2.2 (Kd.R_reads' R1.out).2.1 HEV.out).mono ?_; rintro e w11 ⟨v5, rfl, hv, hb⟩; have R5 := aS_ (R_re46 hv (below_size F.out.hb) (fun _ _ _ => trivial) (ok' := fun _ => True)); obtain ⟨Ay, cy, ey⟩ := Kd.R_slice hv; subst ey; clear hv R1; have F1 := aS_ (F.out.below hb); clear F hb; have F := F1; clear F1; clear hct0 hct1 hct2 hct3 hct4 hcc0 hcc1 hcc2 hcc3 hcc4 hcc5 hcc6 hcc7 hcc8 hcc9 hcc10 hcc11 hcc12 hcc13 hcr0 hfr0 hcr1 hcr2 hcr3 hcr4 hcr5 hcr6 hft0; obtain ⟨hct0, hct1, hct2, hct3, hct4⟩ := cells5 F.out.b2; obtain ⟨hcr0, hcr1, hcr2, hcr3, hcr4, hcr5, hcr6⟩ := cells7 F.out.b4; have hfr0 := bF_ F.out.b4; have hft0 := bF_ F.out.b2))
 (try simp only [Exit.inBlock, Exit.then])
 refine ret_out rfl rfl rfl (((((F.out.put 0 _ rfl).put 1 _ rfl).put 2 _ rfl).put 3 _ rfl).out _ _ _ _ _ _ _).1 hu40 rfl rfl ?_;exact ⟨_, _, rfl, Kd.R_nil _ _ _ _ _, row_out (Kd.R_set (Kd.R_set (Kd.R_set (Kd.R_set R5.out F.out.b2 (by decide) 0 _) (F.out.put 0 _ rfl).b2 (by decide) 1 _) ((F.out.put 0 _ rfl).put 1 _ rfl).b2 (by decide) 2 _) (((F.out.put 0 _ rfl).put 1 _ rfl).put 2 _ rfl).b2 (by decide) 3 _) ((((F.out.put 0 _ rfl).put 1 _ rfl).put 2 _ rfl).put 3 _ rfl).b4 (by decide) _ _ _ _ _ _ _, (((((F.out.put 0 _ rfl).put 1 _ rfl).put 2 _ rfl).put 3 _ rfl).out _ _ _ _ _ _ _).2⟩
end Go.Proofs.YtjogkfcjlljjcaaDoor.P
