/- The plain law of BonusGrows: the bonus is from 0 to the width of the limits, is 0 at one of them, and grows by one with each micrometre. -/
import Derived.Test.YtjemaonejkepcaaDoorPlB
import Derived.Test.YtjemaonejkepcaaDoorB13
import Derived.OpenShut
namespace Go.Proofs.YtjemaonejkepcaaDoor.B
open Go.RowKit Go.Proofs.YtjemaonejkepcaaDoorW.PrintWords

theorem size_in' {lo hi n : Int} (h1 : 1 ≤ lo) (h2 : lo ≤ hi) (h3 : hi ≤ 100000) (hn : 0 ≤ n ∧ n ≤ 65535) :
    wrap64 (wrap64 (hi - lo) + 1) ≠ 0 ∧ ∃ m, lo ≤ m ∧ m ≤ hi ∧ wrap64 (lo + Int.tmod (wrap64 n) (wrap64 (wrap64 (hi - lo) + 1))) = m := by
  rw [w64 (n := hi - lo) (by omega), w64 (n := hi - lo + 1) (by omega), w64 (n := n) (by omega), Int.tmod_eq_emod_of_nonneg hn.1]
  have h4 := Int.emod_nonneg n (show hi - lo + 1 ≠ 0 by omega)
  have h5 := Int.emod_lt_of_pos n (show 0 < hi - lo + 1 by omega)
  exact ⟨by omega, _, by omega, by omega, w64 (by omega)⟩

theorem grows_pure (x y lo hi tol mat : Int) (pin : Bool) (n : Int) (w : (Lit.int .u16 n).wf = true) : ∃ k, metrolablaw44_BonusGrows.f k x y lo hi tol mat pin n = some true := by
  refine ⟨4, ?_⟩
  have hn := Go.bounds_u16 w
  unfold metrolablaw44_BonusGrows.f
  rw [rcheck 4 (by omega)]
  simp only [Option.bind_some]
  by_cases h : chk x y lo hi tol mat pin = 0
  · rw [if_pos h]
    have ho := chk_ok.1 h
    obtain ⟨hx, hy, h1, h2, h3, h4, h5, hp, h6, h7⟩ := id ho
    obtain ⟨hw, m, hm1, hm2, e⟩ := size_in' h1 h2 h3 hn
    rw [bonus_ok 4 (by omega) ho ⟨by omega, h2⟩, bonus_ok 4 (by omega) ho ⟨h2, by omega⟩]
    simp only [Option.bind_some]
    rw [if_neg hw, e, bonus_ok 4 (by omega) ho ⟨hm1, hm2⟩]
    simp only [Option.bind_some]
    rw [if_pos (show wrap64 (wrap64 (0 + 0) + 0) = 0 by rw [w64 (n := 0 + 0) (by omega), w64 (by omega)]; rfl)]
    simp only [metrolablaw44_BonusGrows.j0, metrolablaw44_awake.f, Option.bind_some]
    unfold ext mn mx
    by_cases hm : mat = 0
    · simp [hm]
    · simp only [if_neg hm]
      rw [side_same h6 h7 hm]
      by_cases hs : ((mat == 2) == pin) = true
      · simp only [if_pos hs]
        rw [w64 (n := hi - lo) (by omega), w64 (n := m - lo) (by omega), w64 (n := lo - lo + (hi - lo)) (by omega), w64 (n := lo - lo - (m - lo)) (by omega), w64 (n := m - lo - (lo - lo)) (by omega)]
        have e1 : ((if hi - lo < lo - lo then hi - lo else lo - lo) != 0) = false := by
          rw [bne_eq_false_iff_eq]; split <;> omega
        rw [e1, if_neg (by decide), if_pos (by omega)]
        have e2 : m - lo = if lo - lo - (m - lo) < m - lo - (lo - lo) then m - lo - (lo - lo) else lo - lo - (m - lo) := by split <;> omega
        rw [if_pos e2]
      · simp only [if_neg hs]
        rw [w64 (n := hi - lo) (by omega), w64 (n := m - lo) (by omega), w64 (n := hi - lo + (hi - hi)) (by omega), w64 (n := hi - lo - (m - lo)) (by omega), w64 (n := m - lo - (hi - lo)) (by omega)]
        have e1 : ((if hi - hi < hi - lo then hi - hi else hi - lo) != 0) = false := by
          rw [bne_eq_false_iff_eq]; split <;> omega
        rw [e1, if_neg (by decide), if_pos (by omega)]
        have e2 : hi - m = if hi - lo - (m - lo) < m - lo - (hi - lo) then m - lo - (hi - lo) else hi - lo - (m - lo) := by split <;> omega
        rw [if_pos e2]
  · rw [if_neg h]; simp [metrolablaw44_awake.f]

end Go.Proofs.YtjemaonejkepcaaDoor.B
