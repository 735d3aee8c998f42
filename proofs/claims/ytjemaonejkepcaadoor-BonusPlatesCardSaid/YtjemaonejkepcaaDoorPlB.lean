/- Plain laws of layer 44: the bonus and the allowed tolerance for a size. -/
import Derived.Test.YtjemaonejkepcaaDoorPlA
import Derived.Test.YtjemaonejkepcaaDoorB8
import Derived.Test.YtjemaonejkepcaaDoorB9
import Derived.Test.YtjemaonejkepcaaDoorB12
namespace Go.Proofs.YtjemaonejkepcaaDoor.B
open Go.RowKit

theorem bwithin (x y lo hi tol mat : Int) (pin : Bool) (n : Int) : bonus_within.f x y lo hi tol mat pin n = some (decide (lo ≤ n ∧ n ≤ hi)) := by
  unfold bonus_within.f
  by_cases h : n ≥ lo
  · rw [if_pos h]; simp; omega
  · rw [if_neg h]; simp; omega
theorem rinside (x y lo hi tol mat : Int) (pin : Bool) (n : Int) : metrolabref44_Inside.f x y lo hi tol mat pin n = some (decide (lo ≤ n ∧ n ≤ hi)) := bwithin x y lo hi tol mat pin n

theorem side_same {mat : Int} {pin : Bool} (h0 : 0 ≤ mat) (h2 : mat ≤ 2) (hm : mat ≠ 0) : ((mat == 1) != pin) = ((mat == 2) == pin) := by
  have : mat = 1 ∨ mat = 2 := by omega
  rcases this with rfl | rfl <;> cases pin <;> rfl
theorem bextra {x y lo hi tol mat : Int} {pin : Bool} {n : Int} (h : Okt x y lo hi tol mat pin) (hn : -200000 ≤ n ∧ n ≤ 200000) : bonus_condition_extra.f x y lo hi tol mat pin (sgn mat pin) n = some (ext lo hi mat pin n) := by
  obtain ⟨_, _, h1, h2, h3, h4, h5, _, h6, h7⟩ := h
  unfold bonus_condition_extra.f ext
  by_cases hm : mat = 0
  · rw [if_pos hm, if_pos hm]
  · rw [if_neg hm, if_neg hm, side_same h6 h7 hm]
    simp only [bonus_condition_end.f, sgn_eq]
    by_cases hs : ((mat == 2) == pin) = true
    · simp only [if_pos hs]; rw [if_pos (by omega)]; simp only [Option.bind_some]; rw [w64 (n := lo - n) (by omega), w64 (by omega)]; congr 1; omega
    · simp only [if_neg hs]; rw [if_neg (by omega)]; simp only [Option.bind_some]; rw [w64 (n := hi - n) (by omega), w64 (by omega)]; congr 1; omega
theorem rextra {x y lo hi tol mat : Int} {pin : Bool} {n : Int} (h : Okt x y lo hi tol mat pin) (hn : -200000 ≤ n ∧ n ≤ 200000) : metrolabref44_Extra.f x y lo hi tol mat pin n = some (ext lo hi mat pin n) := by
  obtain ⟨_, _, h1, h2, h3, h4, h5, _, h6, h7⟩ := h
  unfold metrolabref44_Extra.f ext
  rw [w64 (n := n - lo) (by omega), w64 (n := hi - n) (by omega)]
  split
  · rfl
  · split <;> rfl
theorem ext_range {x y lo hi tol mat : Int} {pin : Bool} {n : Int} (h : Okt x y lo hi tol mat pin) (hn : lo ≤ n ∧ n ≤ hi) : 0 ≤ ext lo hi mat pin n ∧ ext lo hi mat pin n ≤ hi - lo := by
  obtain ⟨_, _, h1, h2, h3, h4, h5, _, h6, h7⟩ := h
  unfold ext; split
  · omega
  · split <;> omega

/-- What Bonus answers. -/
theorem bonus_bad (k : Nat) (hk : 3 ≤ k) {x y lo hi tol mat : Int} {pin : Bool} {n : Int} (h : chk x y lo hi tol mat pin ≠ 0) : bonus_Bonus.f k x y lo hi tol mat pin n = some (0, chk x y lo hi tol mat pin) := by
  unfold bonus_Bonus.f; rw [bcheck k hk]; simp only [Option.bind_some]; rw [if_neg h]
theorem bonus_out (k : Nat) (hk : 3 ≤ k) {x y lo hi tol mat : Int} {pin : Bool} {n : Int} (h : Okt x y lo hi tol mat pin) (hn : ¬ (lo ≤ n ∧ n ≤ hi)) : bonus_Bonus.f k x y lo hi tol mat pin n = some (0, 2) := by
  unfold bonus_Bonus.f; rw [bcheck k hk]; simp only [Option.bind_some, bwithin]; rw [if_pos (chk_ok.2 h), if_neg (by simpa using hn)]
theorem bonus_ok (k : Nat) (hk : 3 ≤ k) {x y lo hi tol mat : Int} {pin : Bool} {n : Int} (h : Okt x y lo hi tol mat pin) (hn : lo ≤ n ∧ n ≤ hi) : bonus_Bonus.f k x y lo hi tol mat pin n = some (ext lo hi mat pin n, 0) := by
  unfold bonus_Bonus.f; rw [bcheck k hk]; simp only [Option.bind_some, bwithin]; rw [if_pos (chk_ok.2 h), if_pos (by simpa using hn), bof h.2.2.2.2.2.2.2.2.1 h.2.2.2.2.2.2.2.2.2]
  simp only [Option.bind_some]
  rw [bextra h (by obtain ⟨_, _, h1, h2, h3, _⟩ := h; omega)]; rfl
theorem allowed_bad (k : Nat) (hk : 3 ≤ k) {x y lo hi tol mat : Int} {pin : Bool} {n : Int} (h : chk x y lo hi tol mat pin ≠ 0) : bonus_Allowed.f k x y lo hi tol mat pin n = some (0, chk x y lo hi tol mat pin) := by
  unfold bonus_Allowed.f; rw [bonus_bad k hk h]; simp only [Option.bind_some]; rw [if_neg h]
theorem allowed_out (k : Nat) (hk : 3 ≤ k) {x y lo hi tol mat : Int} {pin : Bool} {n : Int} (h : Okt x y lo hi tol mat pin) (hn : ¬ (lo ≤ n ∧ n ≤ hi)) : bonus_Allowed.f k x y lo hi tol mat pin n = some (0, 2) := by
  unfold bonus_Allowed.f; rw [bonus_out k hk h hn]; simp
theorem allowed_ok (k : Nat) (hk : 3 ≤ k) {x y lo hi tol mat : Int} {pin : Bool} {n : Int} (h : Okt x y lo hi tol mat pin) (hn : lo ≤ n ∧ n ≤ hi) : bonus_Allowed.f k x y lo hi tol mat pin n = some (tol + ext lo hi mat pin n, 0) := by
  have he := ext_range h hn
  unfold bonus_Allowed.f; rw [bonus_ok k hk h hn]; simp; rw [w64 (by obtain ⟨_, _, h1, h2, h3, h4, h5, _⟩ := h; omega)]

end Go.Proofs.YtjemaonejkepcaaDoor.B
