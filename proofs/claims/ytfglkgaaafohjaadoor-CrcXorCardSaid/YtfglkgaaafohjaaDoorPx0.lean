-- written by this session's patched copy of the printer (wip/tools/patch_print.py); Lean checks it
import Derived.Test.YtfglkgaaafohjaaDoorProg
import Derived.Below
import Derived.Deep.Draws
import Derived.Deep.AppendLies
import Derived.Maps.AppendAt
import Derived.OwnWalk
import Derived.Laws.BytesArg
import Derived.Laws.MakeOwn
import Derived.Laws.OwnMore
import Derived.Deep.OwnRows
import Derived.Tactics
import Derived.Lib.ConvBytes
import Derived.Laws.Slices
import Derived.WalkKit
import Derived.KernelRfl
import Derived.RowKit3
import Derived.Deep.LoopGhost
import Derived.Deep.QuietTactic
import Derived.BigQuiet
import Derived.WideLaws
import Derived.Deep.DeepCutAuto
import Derived.Deep.CutBlock
import Derived.Deep.RegionHeld3
import Derived.Laws.Rows
import Derived.Lib.AppendStr
import Derived.ArgAppend
import Derived.Laws.IdiomCopy
import Derived.OrdersHeld
import Derived.Laws.BitsLemmas
import Derived.RowKit
import Derived.Test.YtfglkgaaafohjaaDoorCrc
import Derived.Test.YtfglkgaaafohjaaDoorBytesAt
import Derived.Test.YtfglkgaaafohjaaDoorWWords
import Derived.Test.YtfglkgaaafohjaaDoorWLast
import Derived.Test.YtfglkgaaafohjaaDoorWTab
import Derived.Test.YtfglkgaaafohjaaDoorWFour
import Derived.Test.YtfglkgaaafohjaaDoorWQPut
import Derived.Test.YtfglkgaaafohjaaDoorWApart
import Derived.Test.YtfglkgaaafohjaaDoorWArr
import Derived.Test.YtfglkgaaafohjaaDoorWZeros
import Derived.Test.YtfglkgaaafohjaaDoorWFoot
import Derived.Test.YtfglkgaaafohjaaDoorWKept
import Derived.Test.YtfglkgaaafohjaaDoorWShare
import Derived.Test.YtfglkgaaafohjaaDoorWN
import Derived.Test.YtfglkgaaafohjaaDoorWFootNe
import Derived.Test.YtfglkgaaafohjaaDoorWAt
import Derived.Test.YtfglkgaaafohjaaDoorWEqStruct
import Derived.Test.YtfglkgaaafohjaaDoorWRepsOne
import Derived.Test.YtfglkgaaafohjaaDoorWInv
import Derived.Test.YtfglkgaaafohjaaDoorWInvWords
import Derived.Test.YtfglkgaaafohjaaDoorWGuard
import Derived.Test.YtfglkgaaafohjaaDoorWNEv
import Derived.Test.YtfglkgaaafohjaaDoorWMore
namespace Go.Proofs.YtfglkgaaafohjaaDoor.P
open Go.RowKit Go.Proofs.YtfglkgaaafohjaaDoorW.PrintWords Go.Proofs.YtfglkgaaafohjaaDoorW.PrintLast Go.Proofs.YtfglkgaaafohjaaDoorW.PrintMore
attribute [local go_sem] max2_int min2_int max_two min_two max_three min_three max_four min_four   -- for this text's walks alone
set_option linter.unusedVariables false
set_option linter.unusedSimpArgs false



def errW : Option Int → Value
  | none => .nilIface
  | some c => .iface 0 (.int .i64 c)
theorem errW_none : errW none = .nilIface := rfl
theorem errW_some (c : Int) : errW (some c) = .iface 0 (.int .i64 c) := rfl

theorem info3 : (Tryd.prog.info? 3).map (fun i => (i.zero, i.size, i.bytes)) = some (some (.int .i64 0), 1, 8) := by kernel_rfl
theorem info5 : (Tryd.prog.info? 5).map (fun i => (i.zero, i.size, i.bytes)) = some (some (.int .u8 0), 1, 1) := by kernel_rfl
-- the values' own types

def G_crc_steps.tab : List Int := Crc.tab
def G_crc_steps (w : World) : Prop := ∀ i : Nat, i < 16 → w.cell? ⟨0, i, none⟩ = some (.int .u32 (Crc.tat i))
theorem G_crc_steps.keep {w w' : World} (h : G_crc_steps w) (hb : Below w.heap.size w w') : G_crc_steps w' := fun i hi => (hb.cell (World.block_lt_of_cell? w _ (h i hi))).trans (h i hi)
theorem G_crc_steps.of_laid {w : World} (h : ∀ i, i < G_crc_steps.tab.length → w.cell? ⟨0, i, none⟩ = some (.int .u32 (G_crc_steps.tab.getD i 0))) : G_crc_steps w := h
theorem G_crc_steps.reads {w : World} (h : G_crc_steps w) : Kd.C (Kd.int .u32) w (some ⟨0, 0, none⟩) G_crc_steps.tab.length G_crc_steps.tab := by
  refine ⟨rfl, by decide, fun _ => ⟨_, rfl, fun j p hp => ⟨[.int .u32 p], rfl, rfl, fun i u hu => ?_⟩⟩⟩
  have hj : j < 16 := (List.getElem?_eq_some_iff.mp hp).1
  have h1 := h j hj
  have h2 : Crc.tat j = p := by
    show G_crc_steps.tab.getD j 0 = p
    rw [List.getD_eq_getElem?_getD, hp]
    rfl
  rw [h2] at h1
  match i, hu with
  | 0, hu =>
    cases hu
    rw [← h1]
    show w.cell? (Addr.add _ (j * 1 + 0)) = _
    unfold Addr.add
    by_cases hz : j = 0
    · subst hz
      rfl
    · rw [if_neg (by omega)]
      simp

def Glob (w : World) : Prop := G_crc_steps w
theorem Glob.crc_steps {w : World} (h : Glob w) : G_crc_steps w := h
theorem Glob.keep {w w1 : World} (h : Glob w) (hb : Below w.heap.size w w1) : Glob w1 := G_crc_steps.keep h hb
end Go.Proofs.YtfglkgaaafohjaaDoor.P
