/- The plain law of BonusChecks: the program's check, virtual and resultant sizes are the reference's. -/
import Derived.Test.YtjemaonejkepcaaDoorPlA
import Derived.Test.YtjemaonejkepcaaDoorB7
namespace Go.Proofs.YtjemaonejkepcaaDoor.B
open Go.RowKit

theorem checks_pure (x y lo hi tol mat : Int) (pin : Bool) : ∃ k, metrolablaw44_BonusChecks.f k x y lo hi tol mat pin = some true := by
  refine ⟨3, ?_⟩
  unfold metrolablaw44_BonusChecks.f
  rw [bcheck 3 (by omega), rcheck 3 (by omega)]
  by_cases h : chk x y lo hi tol mat pin = 0
  · have ho := chk_ok.1 h
    rw [virtual_ok 3 (by omega) ho, rvirtual_ok 3 (by omega) ho, resultant_ok 3 (by omega) ho, rresultant_ok 3 (by omega) ho]
    simp [metrolablaw44_awake.f]
  · rw [virtual_bad 3 (by omega) h, rvirtual_bad 3 (by omega) h, resultant_bad 3 (by omega) h, rresultant_bad 3 (by omega) h]
    simp [metrolablaw44_awake.f]

end Go.Proofs.YtjemaonejkepcaaDoor.B
