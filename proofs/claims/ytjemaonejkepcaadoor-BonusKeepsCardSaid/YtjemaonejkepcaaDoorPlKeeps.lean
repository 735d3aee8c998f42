/- The plain law of BonusKeeps: the program's distance, Keeps and KeepsBox are the reference's. -/
import Derived.Test.YtjemaonejkepcaaDoorPlC
import Derived.Test.YtjemaonejkepcaaDoorB15
import Derived.Test.YtjemaonejkepcaaDoorB16
import Derived.Test.YtjemaonejkepcaaDoorB17
namespace Go.Proofs.YtjemaonejkepcaaDoor.B
open Go.RowKit Go.Proofs.YtjemaonejkepcaaDoorW.PrintWords

theorem rboth_bad (k : Nat) (hk : 3 ≤ k) {x y lo hi tol mat : Int} {pin : Bool} {u v s : Int} (h : chk x y lo hi tol mat pin ≠ 0) : metrolabref44_both.f k x y lo hi tol mat pin u v s = some (chk x y lo hi tol mat pin) := by
  unfold metrolabref44_both.f; rw [rcheck k hk]; simp only [Option.bind_some]; rw [if_neg h]
theorem rboth_ok (k : Nat) (hk : 3 ≤ k) {x y lo hi tol mat : Int} {pin : Bool} {u v s : Int} (h : Okt x y lo hi tol mat pin) : metrolabref44_both.f k x y lo hi tol mat pin u v s = some (ringc u v s) := by
  unfold metrolabref44_both.f; rw [rcheck k hk, rring]; simp only [Option.bind_some]; rw [if_pos (chk_ok.2 h)]

theorem far_ok {x y u v : Int} (hx : -100000 ≤ x ∧ x ≤ 100000) (hy : -100000 ≤ y ∧ y ≤ 100000) (hu : -100000 ≤ u ∧ u ≤ 100000) (hv : -100000 ≤ v ∧ v ≤ 100000) :
    metrolabref07_Far.f x y u v = some ((u - x) * (u - x) + (v - y) * (v - y)) := by
  unfold metrolabref07_Far.f metrolabref07_Minus.f metrolabref07_Times.f
  simp only [Option.bind_some]
  have q1 := sq_le (d := x - u) (B := 200000) (by omega) (by omega)
  have q2 := sq_le (d := y - v) (B := 200000) (by omega) (by omega)
  have e1 : (u - x) * (u - x) = (x - u) * (x - u) := by grind
  have e2 : (v - y) * (v - y) = (y - v) * (y - v) := by grind
  rw [w64 (n := x - u) (by omega), w64 (n := y - v) (by omega), w64 (n := (x - u) * (x - u)) (by omega), w64 (n := (y - v) * (y - v)) (by omega), w64 (by omega), e1, e2]

theorem dist_bad (k : Nat) (hk : 3 ≤ k) {x y lo hi tol mat : Int} {pin : Bool} {u v s : Int} (h : chk x y lo hi tol mat pin ≠ 0) : bonus_Distance.f k x y lo hi tol mat pin u v s = some (0, chk x y lo hi tol mat pin) := by
  unfold bonus_Distance.f; rw [both_bad k hk h]; simp only [Option.bind_some]; rw [if_neg h]
theorem dist_off (k : Nat) (hk : 3 ≤ k) {x y lo hi tol mat : Int} {pin : Bool} {u v s : Int} (h : Okt x y lo hi tol mat pin) (hr : ringc u v s ≠ 0) : bonus_Distance.f k x y lo hi tol mat pin u v s = some (0, ringc u v s) := by
  unfold bonus_Distance.f; rw [both_ok k hk h]; simp only [Option.bind_some]; rw [if_neg hr]
theorem dist_ok (k : Nat) (hk : 3 ≤ k) {x y lo hi tol mat : Int} {pin : Bool} {u v s : Int} (h : Okt x y lo hi tol mat pin) (hc : Okc u v s) : bonus_Distance.f k x y lo hi tol mat pin u v s = some ((u - x) * (u - x) + (v - y) * (v - y), 0) := by
  unfold bonus_Distance.f bonus_gap.f; rw [both_ok k hk h]; simp only [Option.bind_some]; rw [if_pos (ringc_ok.2 hc)]
  obtain ⟨hu, hv, _⟩ := hc
  obtain ⟨hx, hy, _⟩ := h
  have q1 := sq_le (d := u - x) (B := 200000) (by omega) (by omega)
  have q2 := sq_le (d := v - y) (B := 200000) (by omega) (by omega)
  rw [w64 (n := u - x) (by omega), w64 (n := v - y) (by omega), w64 (n := (u - x) * (u - x)) (by omega), w64 (n := (v - y) * (v - y)) (by omega), w64 (by omega)]
theorem rdist_bad (k : Nat) (hk : 3 ≤ k) {x y lo hi tol mat : Int} {pin : Bool} {u v s : Int} (h : chk x y lo hi tol mat pin ≠ 0) : metrolabref44_Distance.f k x y lo hi tol mat pin u v s = some (0, chk x y lo hi tol mat pin) := by
  unfold metrolabref44_Distance.f; rw [rboth_bad k hk h]; simp only [Option.bind_some]; rw [if_neg h]
theorem rdist_off (k : Nat) (hk : 3 ≤ k) {x y lo hi tol mat : Int} {pin : Bool} {u v s : Int} (h : Okt x y lo hi tol mat pin) (hr : ringc u v s ≠ 0) : metrolabref44_Distance.f k x y lo hi tol mat pin u v s = some (0, ringc u v s) := by
  unfold metrolabref44_Distance.f; rw [rboth_ok k hk h]; simp only [Option.bind_some]; rw [if_neg hr]
theorem rdist_ok (k : Nat) (hk : 3 ≤ k) {x y lo hi tol mat : Int} {pin : Bool} {u v s : Int} (h : Okt x y lo hi tol mat pin) (hc : Okc u v s) : metrolabref44_Distance.f k x y lo hi tol mat pin u v s = some ((u - x) * (u - x) + (v - y) * (v - y), 0) := by
  unfold metrolabref44_Distance.f; rw [rboth_ok k hk h]; simp only [Option.bind_some]; rw [if_pos (ringc_ok.2 hc), far_ok h.1 h.2.1 hc.1 hc.2.1]; rfl

theorem rgood_ok {x y lo hi tol mat : Int} {pin : Bool} {u v s : Int} (h : Okt x y lo hi tol mat pin) (hc : Okc u v s) : metrolabref44_Good.f x y lo hi tol mat pin u v s = some (goodB x y lo hi tol mat pin u v s) := by
  have he := ext_wide h hc.2.2
  unfold metrolabref44_Good.f goodB
  rw [rinside, rextra h (by have := hc.2.2; omega), far_ok h.1 h.2.1 hc.1 hc.2.1]
  obtain ⟨hx, hy, h1, h2, h3, h4, h5, hp, h6, h7⟩ := id h
  obtain ⟨hu, hv, hs⟩ := hc
  simp only [Option.bind_some, decide_eq_true_eq]
  have q1 := sq_le (d := u - x) (B := 200000) (by omega) (by omega)
  have q2 := sq_le (d := v - y) (B := 200000) (by omega) (by omega)
  have q3 := sq_le (d := tol + ext lo hi mat pin s) (B := 200000) (by omega) (by omega)
  rw [w64 (n := tol + ext lo hi mat pin s) (by omega), w64 (n := 4 * ((u - x) * (u - x) + (v - y) * (v - y))) (by omega), w64 (n := (tol + ext lo hi mat pin s) * (tol + ext lo hi mat pin s)) (by omega)]
  by_cases hi' : lo ≤ s ∧ s ≤ hi
  · rw [if_pos hi']; simp [hi']
  · rw [if_neg hi']; congr 1; exact (decide_eq_false (fun h => hi' h.1)).symm
theorem rkeeps_bad (k : Nat) (hk : 3 ≤ k) {x y lo hi tol mat : Int} {pin : Bool} {u v s : Int} (h : chk x y lo hi tol mat pin ≠ 0) : metrolabref44_Keeps.f k x y lo hi tol mat pin u v s = some (false, chk x y lo hi tol mat pin) := by
  unfold metrolabref44_Keeps.f; rw [rboth_bad k hk h]; simp only [Option.bind_some]; rw [if_neg h]
theorem rkeeps_off (k : Nat) (hk : 3 ≤ k) {x y lo hi tol mat : Int} {pin : Bool} {u v s : Int} (h : Okt x y lo hi tol mat pin) (hr : ringc u v s ≠ 0) : metrolabref44_Keeps.f k x y lo hi tol mat pin u v s = some (false, ringc u v s) := by
  unfold metrolabref44_Keeps.f; rw [rboth_ok k hk h]; simp only [Option.bind_some]; rw [if_neg hr]
theorem rkeeps_ok (k : Nat) (hk : 3 ≤ k) {x y lo hi tol mat : Int} {pin : Bool} {u v s : Int} (h : Okt x y lo hi tol mat pin) (hc : Okc u v s) : metrolabref44_Keeps.f k x y lo hi tol mat pin u v s = some (goodB x y lo hi tol mat pin u v s, 0) := by
  unfold metrolabref44_Keeps.f; rw [rboth_ok k hk h, rgood_ok h hc]; simp only [Option.bind_some]; rw [if_pos (ringc_ok.2 hc)]

theorem rgoodbox_ok {x y lo hi tol mat : Int} {pin : Bool} {u v s : Int} (h : Okt x y lo hi tol mat pin) (hc : Okc u v s) : metrolabref44_GoodBox.f x y lo hi tol mat pin u v s = some (boxB x y lo hi tol mat pin u v s) := by
  have he := ext_wide h hc.2.2
  unfold metrolabref44_GoodBox.f boxB
  rw [rinside, rextra h (by have := hc.2.2; omega)]
  obtain ⟨hx, hy, h1, h2, h3, h4, h5, hp, h6, h7⟩ := id h
  obtain ⟨hu, hv, hs⟩ := hc
  simp only [Option.bind_some, decide_eq_true_eq]
  rw [w64 (n := u - x) (by omega), w64 (n := v - y) (by omega), w64 (n := tol + ext lo hi mat pin s) (by omega), w64 (n := -(u - x)) (by omega), w64 (n := -(v - y)) (by omega)]
  generalize tol + ext lo hi mat pin s = c at *
  generalize hA : mx (u - x) (-(u - x)) = A
  generalize hB : mx (v - y) (-(v - y)) = B
  have ha : 0 ≤ A ∧ A ≤ 200000 ∧ (u - x ≤ A ∧ -(u - x) ≤ A) ∧ (A = u - x ∨ A = -(u - x)) := by
    unfold mx at hA; split at hA <;> omega
  have hb : 0 ≤ B ∧ B ≤ 200000 ∧ (v - y ≤ B ∧ -(v - y) ≤ B) ∧ (B = v - y ∨ B = -(v - y)) := by
    unfold mx at hB; split at hB <;> omega
  rw [w64 (n := 2 * A) (by omega), w64 (n := 2 * B) (by omega)]
  by_cases hi' : lo ≤ s ∧ s ≤ hi
  · rw [if_pos hi']
    by_cases hl : 2 * A ≤ c
    · rw [if_pos hl]
      congr 1
      apply decide_eq_decide.2
      constructor
      · intro hh; exact ⟨hi', by omega, by omega⟩
      · rintro ⟨_, hh1, hh2⟩; omega
    · rw [if_neg hl]
      congr 1
      exact (decide_eq_false (fun hh => hl (by omega))).symm
  · rw [if_neg hi']; congr 1; exact (decide_eq_false (fun h => hi' h.1)).symm
theorem rboxf_bad (k : Nat) (hk : 3 ≤ k) {x y lo hi tol mat : Int} {pin : Bool} {u v s : Int} (h : chk x y lo hi tol mat pin ≠ 0) : metrolabref44_KeepsBox.f k x y lo hi tol mat pin u v s = some (false, chk x y lo hi tol mat pin) := by
  unfold metrolabref44_KeepsBox.f; rw [rboth_bad k hk h]; simp only [Option.bind_some]; rw [if_neg h]
theorem rboxf_off (k : Nat) (hk : 3 ≤ k) {x y lo hi tol mat : Int} {pin : Bool} {u v s : Int} (h : Okt x y lo hi tol mat pin) (hr : ringc u v s ≠ 0) : metrolabref44_KeepsBox.f k x y lo hi tol mat pin u v s = some (false, ringc u v s) := by
  unfold metrolabref44_KeepsBox.f; rw [rboth_ok k hk h]; simp only [Option.bind_some]; rw [if_neg hr]
theorem rboxf_ok (k : Nat) (hk : 3 ≤ k) {x y lo hi tol mat : Int} {pin : Bool} {u v s : Int} (h : Okt x y lo hi tol mat pin) (hc : Okc u v s) : metrolabref44_KeepsBox.f k x y lo hi tol mat pin u v s = some (boxB x y lo hi tol mat pin u v s, 0) := by
  unfold metrolabref44_KeepsBox.f; rw [rboth_ok k hk h, rgoodbox_ok h hc]; simp only [Option.bind_some]; rw [if_pos (ringc_ok.2 hc)]

theorem keeps_pure (x y lo hi tol mat : Int) (pin : Bool) (u v s : Int) : ∃ k, metrolablaw44_BonusKeeps.f k x y lo hi tol mat pin u v s = some true := by
  refine ⟨4, ?_⟩
  unfold metrolablaw44_BonusKeeps.f
  by_cases h : chk x y lo hi tol mat pin = 0
  · have ho := chk_ok.1 h
    by_cases hr : ringc u v s = 0
    · have hc := ringc_ok.1 hr
      rw [dist_ok 4 (by omega) ho hc, rdist_ok 4 (by omega) ho hc, keeps_ok 4 (by omega) ho hc, rkeeps_ok 4 (by omega) ho hc]
      simp only [Option.bind_some, metrolablaw44_BonusKeeps.j0, bne_self_eq_false, if_true]
      rw [boxf_ok 3 (by omega) ho hc, rboxf_ok 3 (by omega) ho hc]
      simp [metrolablaw44_awake.f]
    · rw [dist_off 4 (by omega) ho hr, rdist_off 4 (by omega) ho hr, keeps_off 4 (by omega) ho hr, rkeeps_off 4 (by omega) ho hr]
      simp only [Option.bind_some, metrolablaw44_BonusKeeps.j0, bne_self_eq_false, if_true]
      rw [boxf_off 3 (by omega) ho hr, rboxf_off 3 (by omega) ho hr]
      simp [metrolablaw44_awake.f]
  · rw [dist_bad 4 (by omega) h, rdist_bad 4 (by omega) h, keeps_bad 4 (by omega) h, rkeeps_bad 4 (by omega) h]
    simp only [Option.bind_some, metrolablaw44_BonusKeeps.j0, bne_self_eq_false, if_true]
    rw [boxf_bad 3 (by omega) h, rboxf_bad 3 (by omega) h]
    simp [metrolablaw44_awake.f]

end Go.Proofs.YtjemaonejkepcaaDoor.B
