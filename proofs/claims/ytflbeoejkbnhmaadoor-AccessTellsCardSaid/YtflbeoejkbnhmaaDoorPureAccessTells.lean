/- Who holds and who may: the program answers of every table what the document says, and leaves the table as it was. -/
import Derived.Test.YtflbeoejkbnhmaaDoorPx4
import Derived.Test.YtflbeoejkbnhmaaDoorRq
import Derived.Test.YtflbeoejkbnhmaaDoorAccessLib
namespace Go.Proofs.YtflbeoejkbnhmaaDoor.Pure
open Go.RowKit Go.Proofs.YtflbeoejkbnhmaaDoor.P Go.Proofs.YtflbeoejkbnhmaaDoorW.PrintWords Go.Proofs.YtflbeoejkbnhmaaDoorW.PrintLast Go.Proofs.YtflbeoejkbnhmaaDoorW.PrintMore Go.Proofs.YtflbeoejkbnhmaaDoor.Num
set_option linter.unusedVariables false
set_option linter.unusedSimpArgs false

theorem AccessTells (x0 : S27) (x1 : ByteArray) (x2 : Int) (h0 : Q27 x0) (h1 : x1.size ≤ 9223372036854775807) (h2 : (Lit.int .i64 x2).wf = true) : ∃ k, headgatelaw10_AccessTells.f k x0.f0 x0.f1.f0 x0.f1.f1 x0.f2 x0.f3 x1 x2 = some true := by
  refine ⟨400, ?_⟩
  obtain ⟨z, hz, hzl⟩ := Large_spec 400 x0.f0 x0.f1.f0 x0.f1.f1 x0.f2 x0.f3 (by decide)
  have hj : headgatelaw10_AccessTells.j0 400 x1 x2 true x0.f0 x0.f1.f0 x0.f1.f1 x0.f2 x0.f3 = some true := by
    rw [headgatelaw10_AccessTells.j0, if_pos rfl, wakes_ok _ (by decide)]
    rfl
  unfold headgatelaw10_AccessTells.f
  rw [hz, Option.bind_some]
  cases z with
  | true => rw [if_pos rfl, hj]
  | false =>
    rw [if_neg (by decide)]
    have hl := hzl rfl
    by_cases hs : (x1.size : Int) > 1000
    · rw [decide_eq_true hs, hj]
    · rw [decide_eq_false hs, headgatelaw10_AccessTells.j0, if_neg (by decide), Copy_spec _ _ _ _ _ hl, Option.bind_some]
      dsimp only
      rw [Holds_spec _ _ _ _ _ _ _ (by omega) (by decide), refHolds_spec _ _ _ _ _ _ _ (by omega) (by decide), May_spec _ _ _ _ _ _ _ _ (by omega) (by decide), refMay_spec _ _ _ _ _ _ _ _ (by omega) (by decide), Tables_spec _ _ _ _ _ _ (by omega) (by decide), wakes_ok _ (by decide)]
      simp

end Go.Proofs.YtflbeoejkbnhmaaDoor.Pure
