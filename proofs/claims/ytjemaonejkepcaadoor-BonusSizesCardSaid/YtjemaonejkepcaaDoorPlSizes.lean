/- The plain law of BonusSizes: the program's bonus and allowed tolerance are the reference's. -/
import Derived.Test.YtjemaonejkepcaaDoorPlB
import Derived.Test.YtjemaonejkepcaaDoorB9
namespace Go.Proofs.YtjemaonejkepcaaDoor.B
open Go.RowKit

theorem sizes_pure (x y lo hi tol mat : Int) (pin : Bool) (n : Int) : ∃ k, metrolablaw44_BonusSizes.f k x y lo hi tol mat pin n = some true := by
  refine ⟨3, ?_⟩
  unfold metrolablaw44_BonusSizes.f
  by_cases h : chk x y lo hi tol mat pin = 0
  · have ho := chk_ok.1 h
    by_cases hn : lo ≤ n ∧ n ≤ hi
    · rw [bonus_ok 3 (by omega) ho hn, rbonus_ok 3 (by omega) ho hn, allowed_ok 3 (by omega) ho hn, rallowed_ok 3 (by omega) ho hn]
      simp [metrolablaw44_awake.f]
    · rw [bonus_out 3 (by omega) ho hn, rbonus_out 3 (by omega) ho hn, allowed_out 3 (by omega) ho hn, rallowed_out 3 (by omega) ho hn]
      simp [metrolablaw44_awake.f]
  · rw [bonus_bad 3 (by omega) h, rbonus_bad 3 (by omega) h, allowed_bad 3 (by omega) h, rallowed_bad 3 (by omega) h]
    simp [metrolablaw44_awake.f]

end Go.Proofs.YtjemaonejkepcaaDoor.B
