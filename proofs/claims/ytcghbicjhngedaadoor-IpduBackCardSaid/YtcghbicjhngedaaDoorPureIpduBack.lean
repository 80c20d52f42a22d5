/- What was put is got, whatever follows, and no beginning of it is more than a beginning: for every message, text behind and number. -/
import Derived.Test.YtcghbicjhngedaaDoorPx9
import Derived.Test.YtcghbicjhngedaaDoorRq
import Derived.Test.YtcghbicjhngedaaDoorIpduWakes
import Derived.Test.YtcghbicjhngedaaDoorIpduWire
namespace Go.Proofs.YtcghbicjhngedaaDoor.Pure
open Go.RowKit Go.Proofs.YtcghbicjhngedaaDoor.P Go.Proofs.YtcghbicjhngedaaDoorW.PrintWords Go.Proofs.YtcghbicjhngedaaDoorW.PrintLast Go.Proofs.YtcghbicjhngedaaDoorW.PrintMore Go.Proofs.YtcghbicjhngedaaDoor.Num
set_option linter.unusedVariables false
set_option linter.unusedSimpArgs false

theorem IpduBack (x0 : S23) (x1 : ByteArray) (x2 : Int) (h0 : Q23 x0) (h1 : x1.size ≤ 9223372036854775807) (h2 : (Lit.int .i64 x2).wf = true) : ∃ k, headgatelaw20_IpduBack.f k x0.f0 x0.f1 x1 x2 = some true := by
  refine ⟨100, ?_⟩
  have hj : headgatelaw20_IpduBack.j0 100 x1 x2 true x0.f0 x0.f1 = some true := by
    rw [headgatelaw20_IpduBack.j0, if_pos rfl, wakes_ok _ (by decide)]
    rfl
  unfold headgatelaw20_IpduBack.f
  by_cases h1 : (x0.f0.size : Int) > 20000
  · rw [if_pos h1, hj]
  · rw [if_neg h1]
    by_cases h2 : (x0.f1.size : Int) > 20000
    · rw [if_pos h2, hj]
    · rw [if_neg h2]
      by_cases h3 : (x1.size : Int) > 20000
      · rw [decide_eq_true h3, hj]
      · rw [decide_eq_false h3, headgatelaw20_IpduBack.j0, if_neg (by decide), Put_spec _ _ _ _ _ (by omega) (by omega) (by decide), Option.bind_some]
        generalize ((Int.tmod x2 2) == 0) = b1
        generalize ((Int.tmod (wrap64 (Int.tdiv x2 2)) 2) == 0) = b2
        by_cases hc : good x0.f0 = true ∧ x0.f1.size ≤ 8192
        · rw [putOf_ok _ _ _ _ hc.1 hc.2]
          dsimp only
          have hh := (of_decide_eq_true hc.1).1
          have hz := wire_size x0.f0 x0.f1 b1 b2 hh
          have hG := get_wire x0.f0 x0.f1 x1 b1 b2 hc.1 hc.2
          have hP := get_part x0.f0 x0.f1 b1 b2
          have h5 := hd_left x0.f0 x0.f1.size hh 0 5 (by omega)
          have h8 := hd_right x0.f0 x0.f1.size hh
          have hs := hd_size x0.f0 x0.f1.size hh
          generalize hW : wire x0.f0 x0.f1 b1 b2 = s at *
          have hs1 : 48 ≤ s.size := by rw [hz]; split <;> split <;> omega
          have hs2 : s.size ≤ 9000 := by rw [hz]; split <;> split <;> omega
          rw [if_pos rfl, if_neg (fun z => by have := (toList_nil _).mp z; omega), if_pos (by omega), Get_spec _ _ _ _ (by rw [ByteArray.size_append]; omega) (by decide), Option.bind_some, hG]
          dsimp only
          have eu : IntKind.u64.wrap (s.size : Int) = s.size := u64_id (by omega) (by omega)
          have ev := wrap_u64 x2
          have ev0 : 0 ≤ IntKind.u64.wrap x2 := by rw [ev]; omega
          have em0 := Int.emod_nonneg (IntKind.u64.wrap x2) (b := (s.size : Int)) (by omega)
          have em1 := Int.emod_lt_of_pos (IntKind.u64.wrap x2) (b := (s.size : Int)) (by omega)
          obtain ⟨m, hm⟩ : ∃ m : Nat, IntKind.u64.wrap x2 % (s.size : Int) = m := ⟨(IntKind.u64.wrap x2 % (s.size : Int)).toNat, by omega⟩
          have ew : wrap64 (Int.tmod (IntKind.u64.wrap x2) (s.size : Int)) = (m : Int) := by
            rw [Int.tmod_eq_emod_of_nonneg ev0, hm]
            exact w64 (by omega) (by omega)
          have hp := hP m hc.1 hc.2 (by omega)
          rw [eu, if_neg (by omega), ew, if_pos (by omega), if_pos (by omega), Int.toNat_natCast, Get_spec _ _ _ _ (by rw [ByteArray.size_extract]; omega) (by decide), Option.bind_some, if_pos rfl, if_pos rfl, if_pos rfl, if_pos (by omega), if_pos (by decide), if_pos (by omega), if_pos (by omega), if_pos (by rw [h5]), if_pos (by omega), if_pos (by omega), if_pos (by rw [hs, h8, hh]), if_pos (by rw [hp]), if_pos (by rw [hp]), wakes_ok _ (by decide)]
          rfl
        · rw [putOf_none _ _ _ _ hc]
          dsimp only
          rw [if_neg (by decide), if_pos ((toList_nil _).mpr rfl), wakes_ok _ (by decide)]
          rfl

end Go.Proofs.YtcghbicjhngedaaDoor.Pure
