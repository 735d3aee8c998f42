/- The plain law of BonusGauges: what keeps its target at Maximum goes over a gauge of the virtual size. -/
import Derived.Test.YtjemaonejkepcaaDoorPlC
import Derived.Test.YtjemaonejkepcaaDoorB12
import Derived.OpenShut
namespace Go.Proofs.YtjemaonejkepcaaDoor.B
open Go.RowKit

theorem cs_eq (X Y A B : Int) : (X*A+Y*B)*(X*A+Y*B) + (X*B-Y*A)*(X*B-Y*A) = (X*X+Y*Y)*(A*A+B*B) := by grind
theorem sq_mono {m n : Int} (hn : 0 ≤ n) (h : m*m ≤ n*n) : m ≤ n := by
  rcases Int.lt_or_le n m with h1 | h1
  · have : n*n < m*m := Int.lt_of_le_of_lt (Int.mul_le_mul_of_nonneg_left (Int.le_of_lt h1) hn) (Int.mul_lt_mul_of_pos_right h1 (by omega))
    omega
  · exact h1
/-- Two discs whose radii add up: the triangle's inequality, squared. -/
theorem tri {X Y A B v a : Int} (hv : 0 ≤ v) (ha : 0 ≤ a) (h1 : X*X+Y*Y ≤ v*v) (h2 : A*A+B*B ≤ a*a) : (X-A)*(X-A)+(Y-B)*(Y-B) ≤ (v+a)*(v+a) := by
  have hc := cs_eq X Y A B
  have p1 : 0 ≤ (X*B-Y*A)*(X*B-Y*A) := by rw [← Int.natAbs_mul_self]; exact Int.natCast_nonneg _
  have p2 : (X*X+Y*Y)*(A*A+B*B) ≤ (v*v)*(a*a) := Int.mul_le_mul h1 h2 (by
    have := Int.natAbs_mul_self (a := A); have := Int.natAbs_mul_self (a := B); omega) (Int.mul_nonneg hv hv)
  have p3 : (v*v)*(a*a) = (v*a)*(v*a) := by grind
  have p4 : -(X*A+Y*B) ≤ v*a := sq_mono (Int.mul_nonneg hv ha) (by rw [Int.neg_mul_neg]; omega)
  have e1 : (X-A)*(X-A)+(Y-B)*(Y-B) = (X*X+Y*Y) + (A*A+B*B) + 2*(-(X*A+Y*B)) := by grind
  have e2 : (v+a)*(v+a) = v*v + a*a + 2*(v*a) := by grind
  rw [e1, e2]; omega

/-- A hole: the virtual disc lies in the real one. -/
theorem hole_law {lo tol s D E X Y : Int} (h1 : tol < lo) (h2 : 0 ≤ tol) (h3 : lo ≤ s) (hg : 4 * (D * D + E * E) ≤ (tol + (s - lo)) * (tol + (s - lo))) (hp : X * X + Y * Y ≤ (lo - tol) * (lo - tol)) :
    (X - 2 * D) * (X - 2 * D) + (Y - 2 * E) * (Y - 2 * E) ≤ s * s := by
  have h := tri (X := X) (Y := Y) (A := 2 * D) (B := 2 * E) (v := lo - tol) (a := tol + (s - lo)) (by omega) (by omega) hp (by grind)
  have e : lo - tol + (tol + (s - lo)) = s := by omega
  rw [e] at h; exact h
/-- A pin: the real disc lies in the virtual one. -/
theorem pin_law {hi tol s D E X Y : Int} (h1 : 0 ≤ s) (h2 : 0 ≤ tol) (h3 : s ≤ hi) (hg : 4 * (D * D + E * E) ≤ (tol + (hi - s)) * (tol + (hi - s))) (hp : (X - 2 * D) * (X - 2 * D) + (Y - 2 * E) * (Y - 2 * E) ≤ s * s) :
    X * X + Y * Y ≤ (hi + tol) * (hi + tol) := by
  have h := tri (X := X - 2 * D) (Y := Y - 2 * E) (A := -(2 * D)) (B := -(2 * E)) (v := s) (a := tol + (hi - s)) (by omega) (by omega) hp (by grind)
  have e : s + (tol + (hi - s)) = hi + tol := by omega
  have e1 : X - 2 * D - -(2 * D) = X := by omega
  have e2 : Y - 2 * E - -(2 * E) = Y := by omega
  rw [e, e1, e2] at h; exact h

theorem gauges_pure (x y lo hi tol mat : Int) (pin : Bool) (u v s p r : Int) (wp : (Lit.int .i16 p).wf = true) (wr : (Lit.int .i16 r).wf = true) : ∃ k, metrolablaw44_BonusGauges.f k x y lo hi tol mat pin u v s p r = some true := by
  refine ⟨4, ?_⟩
  have hp := Go.bounds_i16 wp
  have hr := Go.bounds_i16 wr
  unfold metrolablaw44_BonusGauges.f
  rw [rcheck 4 (by omega), rring]
  simp only [Option.bind_some]
  by_cases h : chk x y lo hi tol 1 pin = 0
  · rw [if_pos h]
    have ho := chk_ok.1 h
    by_cases hc : ringc u v s = 0
    · have hk := ringc_ok.1 hc
      rw [hc, show ((0 : Int) != 0) = false from rfl]
      simp only [metrolablaw44_BonusGauges.j0]
      rw [if_neg (by decide), keeps_ok 3 (by omega) ho hk, virtual_ok 3 (by omega) ho]
      simp only [Option.bind_some, metrolablaw44_awake.f]
      rw [if_pos (show wrap64 (0 + 0) = 0 from w64 (by omega))]
      by_cases hg : goodB x y lo hi tol 1 pin u v s = true
      · rw [if_pos hg]
        obtain ⟨hs, hg⟩ := goodB_iff.1 hg
        obtain ⟨hx, hy, h1, h2, h3, h4, h5, ht, h6, h7⟩ := id ho
        obtain ⟨hu, hv, hs'⟩ := id hk
        rw [w64 (n := p) (by omega), w64 (n := r) (by omega), w64 (n := u - x) (by omega), w64 (n := v - y) (by omega), w64 (n := 2 * p) (by omega), w64 (n := 2 * r) (by omega), w64 (n := 2 * (u - x)) (by omega), w64 (n := 2 * (v - y)) (by omega), w64 (n := 2 * p - 2 * (u - x)) (by omega), w64 (n := 2 * r - 2 * (v - y)) (by omega)]
        have q1 := sq_le (d := 2 * p - 2 * (u - x)) (B := 600000) (by omega) (by omega)
        have q2 := sq_le (d := 2 * r - 2 * (v - y)) (B := 600000) (by omega) (by omega)
        have q3 := sq_le (d := 2 * p) (B := 600000) (by omega) (by omega)
        have q4 := sq_le (d := 2 * r) (B := 600000) (by omega) (by omega)
        have q5 := sq_le (d := s) (B := 600000) (by omega) (by omega)
        rw [w64 (n := s * s) (by omega), w64 (n := 2 * p * (2 * p)) (by omega), w64 (n := 2 * r * (2 * r)) (by omega), w64 (n := (2 * p - 2 * (u - x)) * (2 * p - 2 * (u - x))) (by omega), w64 (n := (2 * r - 2 * (v - y)) * (2 * r - 2 * (v - y))) (by omega), w64 (n := 2 * p * (2 * p) + 2 * r * (2 * r)) (by omega), w64 (n := (2 * p - 2 * (u - x)) * (2 * p - 2 * (u - x)) + (2 * r - 2 * (v - y)) * (2 * r - 2 * (v - y))) (by omega)]
        cases pin with
        | true =>
          have ev : vir lo hi tol 1 true = hi + tol := rfl
          have ee : ext lo hi 1 true s = hi - s := rfl
          have q6 := sq_le (d := hi + tol) (B := 600000) (by omega) (by omega)
          rw [ee] at hg
          rw [ev, w64 (n := (hi + tol) * (hi + tol)) (by omega), if_pos rfl]
          by_cases hin : (2 * p - 2 * (u - x)) * (2 * p - 2 * (u - x)) + (2 * r - 2 * (v - y)) * (2 * r - 2 * (v - y)) ≤ s * s
          · rw [if_pos hin]
            have hl := pin_law (by omega) h4 hs.2 hg hin
            rw [if_neg (by omega)]
          · rw [if_neg hin]
        | false =>
          have ev : vir lo hi tol 1 false = lo - tol := rfl
          have ee : ext lo hi 1 false s = s - lo := rfl
          have q6 := sq_le (d := lo - tol) (B := 600000) (by omega) (by omega)
          rw [ee] at hg
          rw [ev, w64 (n := (lo - tol) * (lo - tol)) (by omega), if_neg (by decide)]
          by_cases hin : 2 * p * (2 * p) + 2 * r * (2 * r) ≤ (lo - tol) * (lo - tol)
          · rw [if_pos hin]
            have hl := hole_law (ht rfl) h4 hs.1 hg hin
            rw [if_neg (by omega)]
          · rw [if_neg hin]
      · rw [if_neg hg]
    · rw [ringc_bad hc, show ((2 : Int) != 0) = true from rfl]
      simp [metrolablaw44_BonusGauges.j0, metrolablaw44_awake.f]
  · rw [if_neg h]; simp [metrolablaw44_BonusGauges.j0, metrolablaw44_awake.f]

end Go.Proofs.YtjemaonejkepcaaDoor.B
