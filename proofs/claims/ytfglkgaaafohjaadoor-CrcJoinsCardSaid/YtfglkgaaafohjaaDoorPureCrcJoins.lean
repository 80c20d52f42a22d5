/- The sum of two texts, one behind the other, is the sum of the one, taken on over the other, wherever they part: for every three texts. -/
import Derived.Test.YtfglkgaaafohjaaDoorPx2
import Derived.Test.YtfglkgaaafohjaaDoorRq
import Derived.Test.YtfglkgaaafohjaaDoorCrcLib
import Derived.Test.YtfglkgaaafohjaaDoorCrcWakes
namespace Go.Proofs.YtfglkgaaafohjaaDoor.Pure
open Go.RowKit Go.Proofs.YtfglkgaaafohjaaDoor.P Go.Proofs.YtfglkgaaafohjaaDoorW.PrintWords Go.Proofs.YtfglkgaaafohjaaDoorW.PrintLast Go.Proofs.YtfglkgaaafohjaaDoorW.PrintMore Go.Proofs.YtfglkgaaafohjaaDoor.Num
set_option linter.unusedVariables false
set_option linter.unusedSimpArgs false

theorem app (a b : ByteArray) : (a ++ b).data.toList = a.data.toList ++ b.data.toList := by simp
set_option maxRecDepth 100000 in
theorem CrcJoins (x0 : ByteArray) (x1 : ByteArray) (x2 : ByteArray) (h0 : x0.size ≤ 9223372036854775807) (h1 : x1.size ≤ 9223372036854775807) (h2 : x2.size ≤ 9223372036854775807) : ∃ k, headgatelaw02_CrcJoins.f k x0 x1 x2 = some true := by
  refine ⟨x0.size + 12, ?_⟩
  have hj : headgatelaw02_CrcJoins.j0 (x0.size + 12) x0 x1 x2 true = some true := by
    rw [headgatelaw02_CrcJoins.j0, if_pos rfl, wakes_ok _ (by omega)]
    rfl
  unfold headgatelaw02_CrcJoins.f
  by_cases ha : (x0.size : Int) > 20000
  · rw [if_pos ha, hj]
  · rw [if_neg ha]
    by_cases hb : (x1.size : Int) > 20000
    · rw [if_pos hb, hj]
    · rw [if_neg hb]
      by_cases hc : (x2.size : Int) > 20000
      · rw [decide_eq_true hc, hj]
      · have l0 := Crc.more_lt (w := 0) (by decide) x0.data.toList
        have l1 := Crc.more_lt (w := 0) (by decide) (x0.data.toList ++ x1.data.toList)
        have e1 : crc_More.f ((Crc.more 0 x0.data.toList : Nat) : Int) x1 = some ((Crc.more 0 (x0.data.toList ++ x1.data.toList) : Nat) : Int) := by
          rw [More_spec _ x1 l0 h1, Crc.more_append]
        have e2 : crc_More.f ((Crc.more 0 (x0.data.toList ++ x1.data.toList) : Nat) : Int) x2 = some ((Crc.more 0 (x0.data.toList ++ x1.data.toList ++ x2.data.toList) : Nat) : Int) := by
          rw [More_spec _ x2 l1 h2, Crc.more_append]
        have e3 : crc_More.f ((Crc.more 0 x0.data.toList : Nat) : Int) ⟨#[]⟩ = some ((Crc.more 0 x0.data.toList : Nat) : Int) := by
          rw [More_spec _ _ l0 (by decide)]
          rw [show (⟨#[]⟩ : ByteArray).data.toList = [] from rfl, Crc.more_nil]
        have s1 : (x0 ++ x1).size = x0.size + x1.size := ByteArray.size_append
        have s2 : ((x0 ++ x1) ++ x2).size = x0.size + x1.size + x2.size := by rw [ByteArray.size_append, s1]
        have e4 : crc_Sum.f (x0 ++ x1) = some ((Crc.more 0 (x0.data.toList ++ x1.data.toList) : Nat) : Int) := by
          rw [Sum_spec _ (by omega), app]
        have e5 : crc_Sum.f ((x0 ++ x1) ++ x2) = some ((Crc.more 0 (x0.data.toList ++ x1.data.toList ++ x2.data.toList) : Nat) : Int) := by
          rw [Sum_spec _ (by omega), app, app]
        have e0 := Sum_spec x0 h0
        have hw := wakes_ok (x0.size + 11) (by omega)
        have c1 : x0.size + x1.size ≤ 9223372036854775807 := by omega
        have c2 : (x0 ++ x1).size + x2.size ≤ 9223372036854775807 := by omega
        clear l0 l1 s1 s2 h0 h1 h2
        generalize ((Crc.more 0 x0.data.toList : Nat) : Int) = A at *
        generalize ((Crc.more 0 (x0.data.toList ++ x1.data.toList) : Nat) : Int) = B at *
        generalize ((Crc.more 0 (x0.data.toList ++ x1.data.toList ++ x2.data.toList) : Nat) : Int) = C at *
        rw [decide_eq_false hc, headgatelaw02_CrcJoins.j0, if_neg (by decide)]
        rw [e0, Option.bind_some, e1, Option.bind_some, if_pos c1, e4, Option.bind_some, if_pos rfl, Option.bind_some, e1, Option.bind_some, e2, Option.bind_some, if_pos c2, e5, Option.bind_some, if_pos rfl, Option.bind_some, e3, Option.bind_some, Option.bind_some, if_pos rfl, hw, Option.bind_some]

end Go.Proofs.YtfglkgaaafohjaaDoor.Pure
