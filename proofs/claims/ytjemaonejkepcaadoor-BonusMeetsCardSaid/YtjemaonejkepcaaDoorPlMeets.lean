/- The plain law of BonusMeets: a size less (or and) its allowed tolerance is the virtual size, by the sides of the material conditions. -/
import Derived.Test.YtjemaonejkepcaaDoorPlB
import Derived.Test.YtjemaonejkepcaaDoorB10
import Derived.OpenShut
namespace Go.Proofs.YtjemaonejkepcaaDoor.B
open Go.RowKit

theorem size_in {lo hi n : Int} (h1 : 1 ≤ lo) (h2 : lo ≤ hi) (h3 : hi ≤ 100000) (hn : 0 ≤ n ∧ n ≤ 65535) :
    wrap64 (wrap64 (hi - lo) + 1) ≠ 0 ∧ ∃ m, lo ≤ m ∧ m ≤ hi ∧ wrap64 (lo + Int.tmod (wrap64 n) (wrap64 (wrap64 (hi - lo) + 1))) = m := by
  rw [w64 (n := hi - lo) (by omega), w64 (n := hi - lo + 1) (by omega), w64 (n := n) (by omega), Int.tmod_eq_emod_of_nonneg hn.1]
  have h4 := Int.emod_nonneg n (show hi - lo + 1 ≠ 0 by omega)
  have h5 := Int.emod_lt_of_pos n (show 0 < hi - lo + 1 by omega)
  exact ⟨by omega, _, by omega, by omega, w64 (by omega)⟩

theorem meets_pure (x y lo hi tol mat : Int) (pin : Bool) (n : Int) (w : (Lit.int .u16 n).wf = true) : ∃ k, metrolablaw44_BonusMeets.f k x y lo hi tol mat pin n = some true := by
  refine ⟨4, ?_⟩
  have hn := Go.bounds_u16 w
  unfold metrolablaw44_BonusMeets.f
  rw [rcheck 4 (by omega)]
  simp only [Option.bind_some]
  by_cases h : chk x y lo hi tol mat pin = 0
  · rw [if_pos h]
    have ho := chk_ok.1 h
    by_cases hm : mat = 0
    · subst hm; simp [metrolablaw44_BonusMeets.j0, metrolablaw44_awake.f]
    · have hb : (mat == 0) = false := by simpa using hm
      rw [hb]
      simp only [metrolablaw44_BonusMeets.j0]
      obtain ⟨hx, hy, h1, h2, h3, h4, h5, hp, h6, h7⟩ := id ho
      obtain ⟨hw, m, hm1, hm2, e⟩ := size_in h1 h2 h3 hn
      have hr := ext_range ho ⟨hm1, hm2⟩
      rw [if_neg (by decide), if_neg hw, e, allowed_ok 3 (by omega) ho ⟨hm1, hm2⟩, virtual_ok 3 (by omega) ho]
      simp only [Option.bind_some, metrolablaw44_awake.f]
      rw [if_pos (show wrap64 (0 + 0) = 0 from w64 (by omega)), side_same h6 h7 hm]
      unfold ext vir at *
      rw [if_neg hm] at hr ⊢
      rw [side_same h6 h7 hm] at hr ⊢
      by_cases hs : ((mat == 2) == pin) = true
      · rw [if_pos hs] at hr ⊢
        rw [if_pos hs, if_pos hs, w64 (by omega), if_pos (by omega)]
      · rw [if_neg hs] at hr ⊢
        rw [if_neg hs, if_neg hs, w64 (by omega), if_pos (by omega)]
  · rw [if_neg h]; simp [metrolablaw44_BonusMeets.j0, metrolablaw44_awake.f]

end Go.Proofs.YtjemaonejkepcaaDoor.B
