/- Plain laws of layer 44: the reference's squared distance, and its Good. -/
import Derived.Test.YtjemaonejkepcaaDoorPlC
import Derived.Test.YtjemaonejkepcaaDoorB15
namespace Go.Proofs.YtjemaonejkepcaaDoor.B
open Go.RowKit Go.Proofs.YtjemaonejkepcaaDoorW.PrintWords

theorem far_ok {x y u v : Int} (hx : -100000 ≤ x ∧ x ≤ 100000) (hy : -100000 ≤ y ∧ y ≤ 100000) (hu : -100000 ≤ u ∧ u ≤ 100000) (hv : -100000 ≤ v ∧ v ≤ 100000) :
    metrolabref07_Far.f x y u v = some ((u - x) * (u - x) + (v - y) * (v - y)) := by
  unfold metrolabref07_Far.f metrolabref07_Minus.f metrolabref07_Times.f
  simp only [Option.bind_some]
  have q1 := sq_le (d := x - u) (B := 200000) (by omega) (by omega)
  have q2 := sq_le (d := y - v) (B := 200000) (by omega) (by omega)
  have e1 : (u - x) * (u - x) = (x - u) * (x - u) := by grind
  have e2 : (v - y) * (v - y) = (y - v) * (y - v) := by grind
  rw [w64 (n := x - u) (by omega), w64 (n := y - v) (by omega), w64 (n := (x - u) * (x - u)) (by omega), w64 (n := (y - v) * (y - v)) (by omega), w64 (by omega), e1, e2]

theorem rgood_ok {x y lo hi tol mat : Int} {pin : Bool} {u v s : Int} (h : Okt x y lo hi tol mat pin) (hc : Okc u v s) : metrolabref44_Good.f x y lo hi tol mat pin u v s = some (goodB x y lo hi tol mat pin u v s) := by
  have he := ext_wide h hc.2.2
  unfold metrolabref44_Good.f goodB
  rw [rinside, rextra h (by have := hc.2.2; omega), far_ok h.1 h.2.1 hc.1 hc.2.1]
  obtain ⟨hx, hy, h1, h2, h3, h4, h5, hp, h6, h7⟩ := id h
  obtain ⟨hu, hv, hs⟩ := hc
  simp only [Option.bind_some, decide_eq_true_eq]
  have q1 := sq_le (d := u - x) (B := 200000) (by omega) (by omega)
  have q2 := sq_le (d := v - y) (B := 200000) (by omega) (by omega)
  have q3 := sq_le (d := tol + ext lo hi mat pin s) (B := 200000) (by omega) (by omega)
  rw [w64 (n := tol + ext lo hi mat pin s) (by omega), w64 (n := 4 * ((u - x) * (u - x) + (v - y) * (v - y))) (by omega), w64 (n := (tol + ext lo hi mat pin s) * (tol + ext lo hi mat pin s)) (by omega)]
  by_cases hi' : lo ≤ s ∧ s ≤ hi
  · rw [if_pos hi']; simp [hi']
  · rw [if_neg hi']; congr 1; exact (decide_eq_false (fun h => hi' h.1)).symm
end Go.Proofs.YtjemaonejkepcaaDoor.B
