/- Plain laws of layer 44: circles that keep their targets, and their boxes. -/
import Derived.Test.YtjemaonejkepcaaDoorPlB
import Derived.Test.YtjemaonejkepcaaDoorB10
import Derived.Test.YtjemaonejkepcaaDoorB11
import Derived.Test.YtjemaonejkepcaaDoorB14
namespace Go.Proofs.YtjemaonejkepcaaDoor.B
open Go.RowKit Go.Proofs.YtjemaonejkepcaaDoorW.PrintWords

theorem sq_le {d B : Int} (h1 : -B ≤ d) (h2 : d ≤ B) : 0 ≤ d * d ∧ d * d ≤ B * B := by
  rcases Int.le_total 0 d with h | h
  · exact ⟨Int.mul_nonneg h h, Int.mul_le_mul h2 h2 h (by omega)⟩
  · have e : d * d = (-d) * (-d) := by rw [Int.neg_mul_neg]
    rw [e]
    exact ⟨Int.mul_nonneg (by omega) (by omega), Int.mul_le_mul (by omega) (by omega) (by omega) (by omega)⟩

/-- The number of a circle's error. -/
def ringc (u v s : Int) : Int := if (-100000 ≤ u ∧ u ≤ 100000) ∧ (-100000 ≤ v ∧ v ≤ 100000) ∧ (1 ≤ s ∧ s ≤ 100000) then 0 else 2
theorem bring (u v s : Int) : bonus_ring.f u v s = some (ringc u v s) := by
  unfold bonus_ring.f ringc
  simp only [bin, bsz, Option.bind_some, decide_eq_true_eq]
  by_cases h1 : -100000 ≤ u ∧ u ≤ 100000
  · by_cases h2 : -100000 ≤ v ∧ v ≤ 100000
    · by_cases h3 : 1 ≤ s ∧ s ≤ 100000
      · rw [if_pos h1, if_pos h2, if_pos h3, if_pos ⟨h1, h2, h3⟩]
      · rw [if_pos h1, if_pos h2, if_neg h3, if_neg (fun h => h3 h.2.2)]
    · rw [if_pos h1, if_neg h2, if_neg (fun h => h2 h.2.1)]
  · rw [if_neg h1, if_neg (fun h => h1 h.1)]
theorem rring (u v s : Int) : metrolabref44_Ring.f u v s = some (ringc u v s) := by
  unfold metrolabref44_Ring.f metrolabref07_Right.f ringc
  simp only [rin, rsz, Option.bind_some]
  by_cases h1 : -100000 ≤ u ∧ u ≤ 100000
  · by_cases h2 : -100000 ≤ v ∧ v ≤ 100000
    · by_cases h3 : 1 ≤ s ∧ s ≤ 100000
      · simp [h1, h2, h3]
      · have h3' : ¬ ((-100000 ≤ u ∧ u ≤ 100000) ∧ (-100000 ≤ v ∧ v ≤ 100000) ∧ (1 ≤ s ∧ s ≤ 100000)) := fun h => h3 h.2.2
        rw [if_neg h3', decide_eq_true h1, decide_eq_true h2, decide_eq_false h3]; rfl
    · have h3' : ¬ ((-100000 ≤ u ∧ u ≤ 100000) ∧ (-100000 ≤ v ∧ v ≤ 100000) ∧ (1 ≤ s ∧ s ≤ 100000)) := fun h => h2 h.2.1
      rw [if_neg h3', decide_eq_true h1, decide_eq_false h2]; rfl
  · have h3' : ¬ ((-100000 ≤ u ∧ u ≤ 100000) ∧ (-100000 ≤ v ∧ v ≤ 100000) ∧ (1 ≤ s ∧ s ≤ 100000)) := fun h => h1 h.1
    rw [if_neg h3', decide_eq_false h1]; rfl
/-- A right circle. -/
def Okc (u v s : Int) : Prop := (-100000 ≤ u ∧ u ≤ 100000) ∧ (-100000 ≤ v ∧ v ≤ 100000) ∧ (1 ≤ s ∧ s ≤ 100000)
theorem ringc_ok {u v s : Int} : ringc u v s = 0 ↔ Okc u v s := by
  unfold ringc Okc; split
  · exact ⟨fun _ => by assumption, fun _ => rfl⟩
  · exact ⟨fun h => by omega, fun h => absurd h (by assumption)⟩
theorem ringc_bad {u v s : Int} (h : ringc u v s ≠ 0) : ringc u v s = 2 := by
  unfold ringc at *; split at h
  · exact absurd rfl h
  · rw [if_neg (by assumption)]

/-- What a circle that keeps its target, or its box, meets. -/
def Good (x y lo hi tol mat : Int) (pin : Bool) (u v s : Int) : Prop :=
  (lo ≤ s ∧ s ≤ hi) ∧ 4 * ((u - x) * (u - x) + (v - y) * (v - y)) ≤ (tol + ext lo hi mat pin s) * (tol + ext lo hi mat pin s)
def Box (x y lo hi tol mat : Int) (pin : Bool) (u v s : Int) : Prop :=
  (lo ≤ s ∧ s ≤ hi) ∧ (2 * (u - x) ≤ tol + ext lo hi mat pin s ∧ -(2 * (u - x)) ≤ tol + ext lo hi mat pin s) ∧ (2 * (v - y) ≤ tol + ext lo hi mat pin s ∧ -(2 * (v - y)) ≤ tol + ext lo hi mat pin s)
def goodB (x y lo hi tol mat : Int) (pin : Bool) (u v s : Int) : Bool :=
  decide ((lo ≤ s ∧ s ≤ hi) ∧ 4 * ((u - x) * (u - x) + (v - y) * (v - y)) ≤ (tol + ext lo hi mat pin s) * (tol + ext lo hi mat pin s))
def boxB (x y lo hi tol mat : Int) (pin : Bool) (u v s : Int) : Bool :=
  decide ((lo ≤ s ∧ s ≤ hi) ∧ (2 * (u - x) ≤ tol + ext lo hi mat pin s ∧ -(2 * (u - x)) ≤ tol + ext lo hi mat pin s) ∧ (2 * (v - y) ≤ tol + ext lo hi mat pin s ∧ -(2 * (v - y)) ≤ tol + ext lo hi mat pin s))
theorem goodB_iff {x y lo hi tol mat : Int} {pin : Bool} {u v s : Int} : goodB x y lo hi tol mat pin u v s = true ↔ Good x y lo hi tol mat pin u v s := by
  unfold goodB Good; rw [decide_eq_true_eq]
theorem boxB_iff {x y lo hi tol mat : Int} {pin : Bool} {u v s : Int} : boxB x y lo hi tol mat pin u v s = true ↔ Box x y lo hi tol mat pin u v s := by
  unfold boxB Box; rw [decide_eq_true_eq]

theorem ext_wide {x y lo hi tol mat : Int} {pin : Bool} {s : Int} (h : Okt x y lo hi tol mat pin) (hs : 1 ≤ s ∧ s ≤ 100000) : -100000 ≤ ext lo hi mat pin s ∧ ext lo hi mat pin s ≤ 100000 := by
  obtain ⟨_, _, h1, h2, h3, _⟩ := h
  unfold ext; split
  · omega
  · split <;> omega

theorem good_ok {x y lo hi tol mat : Int} {pin : Bool} {u v s : Int} (h : Okt x y lo hi tol mat pin) (hc : Okc u v s) : bonus_good.f x y lo hi tol mat pin u v s = some (goodB x y lo hi tol mat pin u v s) := by
  have he := ext_wide h hc.2.2
  obtain ⟨hx, hy, h1, h2, h3, h4, h5, hp, h6, h7⟩ := id h
  obtain ⟨hu, hv, hs⟩ := hc
  unfold bonus_good.f bonus_gap.f
  rw [bof h6 h7]
  simp only [Option.bind_some, bwithin]
  rw [bextra h (by omega)]
  simp only [Option.bind_some, decide_eq_true_eq]
  have q1 := sq_le (d := u - x) (B := 200000) (by omega) (by omega)
  have q2 := sq_le (d := v - y) (B := 200000) (by omega) (by omega)
  have q3 := sq_le (d := tol + ext lo hi mat pin s) (B := 200000) (by omega) (by omega)
  rw [w64 (n := u - x) (by omega), w64 (n := v - y) (by omega), w64 (n := tol + ext lo hi mat pin s) (by omega)]
  unfold goodB
  generalize (u - x) * (u - x) = a at *
  generalize (v - y) * (v - y) = b at *
  generalize (tol + ext lo hi mat pin s) * (tol + ext lo hi mat pin s) = c at *
  rw [w64 (n := a) (by omega), w64 (n := b) (by omega), w64 (n := c) (by omega), w64 (n := a + b) (by omega), w64 (n := 4 * (a + b)) (by omega)]
  by_cases hi' : lo ≤ s ∧ s ≤ hi
  · rw [if_pos hi']; simp [hi']
  · rw [if_neg hi']; congr 1; exact (decide_eq_false (fun h => hi' h.1)).symm

theorem both_bad (k : Nat) (hk : 3 ≤ k) {x y lo hi tol mat : Int} {pin : Bool} {u v s : Int} (h : chk x y lo hi tol mat pin ≠ 0) : bonus_both.f k x y lo hi tol mat pin u v s = some (chk x y lo hi tol mat pin) := by
  unfold bonus_both.f; rw [bcheck k hk]; simp only [Option.bind_some]; rw [if_neg h]
theorem both_ok (k : Nat) (hk : 3 ≤ k) {x y lo hi tol mat : Int} {pin : Bool} {u v s : Int} (h : Okt x y lo hi tol mat pin) : bonus_both.f k x y lo hi tol mat pin u v s = some (ringc u v s) := by
  unfold bonus_both.f; rw [bcheck k hk, bring]; simp only [Option.bind_some]; rw [if_pos (chk_ok.2 h)]

theorem keeps_bad (k : Nat) (hk : 3 ≤ k) {x y lo hi tol mat : Int} {pin : Bool} {u v s : Int} (h : chk x y lo hi tol mat pin ≠ 0) : bonus_Keeps.f k x y lo hi tol mat pin u v s = some (false, chk x y lo hi tol mat pin) := by
  unfold bonus_Keeps.f; rw [both_bad k hk h]; simp only [Option.bind_some]; rw [if_neg h]
theorem keeps_off (k : Nat) (hk : 3 ≤ k) {x y lo hi tol mat : Int} {pin : Bool} {u v s : Int} (h : Okt x y lo hi tol mat pin) (hr : ringc u v s ≠ 0) : bonus_Keeps.f k x y lo hi tol mat pin u v s = some (false, ringc u v s) := by
  unfold bonus_Keeps.f; rw [both_ok k hk h]; simp only [Option.bind_some]; rw [if_neg hr]
theorem keeps_ok (k : Nat) (hk : 3 ≤ k) {x y lo hi tol mat : Int} {pin : Bool} {u v s : Int} (h : Okt x y lo hi tol mat pin) (hc : Okc u v s) : bonus_Keeps.f k x y lo hi tol mat pin u v s = some (goodB x y lo hi tol mat pin u v s, 0) := by
  unfold bonus_Keeps.f; rw [both_ok k hk h, good_ok h hc]; simp only [Option.bind_some]; rw [if_pos (ringc_ok.2 hc)]

theorem boxf_bad (k : Nat) (hk : 3 ≤ k) {x y lo hi tol mat : Int} {pin : Bool} {u v s : Int} (h : chk x y lo hi tol mat pin ≠ 0) : bonus_KeepsBox.f k x y lo hi tol mat pin u v s = some (false, chk x y lo hi tol mat pin) := by
  unfold bonus_KeepsBox.f; rw [both_bad k hk h]; simp only [Option.bind_some]; rw [if_neg h]
theorem boxf_off (k : Nat) (hk : 3 ≤ k) {x y lo hi tol mat : Int} {pin : Bool} {u v s : Int} (h : Okt x y lo hi tol mat pin) (hr : ringc u v s ≠ 0) : bonus_KeepsBox.f k x y lo hi tol mat pin u v s = some (false, ringc u v s) := by
  unfold bonus_KeepsBox.f; rw [both_ok k hk h]; simp only [Option.bind_some]; rw [if_neg hr]
theorem boxf_ok (k : Nat) (hk : 3 ≤ k) {x y lo hi tol mat : Int} {pin : Bool} {u v s : Int} (h : Okt x y lo hi tol mat pin) (hc : Okc u v s) : bonus_KeepsBox.f k x y lo hi tol mat pin u v s = some (boxB x y lo hi tol mat pin u v s, 0) := by
  have he := ext_wide h hc.2.2
  obtain ⟨hx, hy, h1, h2, h3, h4, h5, hp, h6, h7⟩ := id h
  unfold bonus_KeepsBox.f bonus_gap.f; rw [both_ok k hk h]; simp only [Option.bind_some]
  rw [if_pos (ringc_ok.2 hc)]
  obtain ⟨hu, hv, hs⟩ := hc
  rw [bof h6 h7]
  simp only [Option.bind_some, bwithin]
  rw [bextra h (by omega)]
  simp only [Option.bind_some, decide_eq_true_eq]
  rw [w64 (n := u - x) (by omega), w64 (n := v - y) (by omega), w64 (n := tol + ext lo hi mat pin s) (by omega), w64 (n := -(u - x)) (by omega), w64 (n := -(v - y)) (by omega)]
  unfold boxB
  generalize tol + ext lo hi mat pin s = c at *
  generalize hA : mx (mx (mx (u - x) (-(u - x))) (v - y)) (-(v - y)) = A
  have hb : -200000 ≤ A ∧ A ≤ 200000 ∧ (u - x ≤ A ∧ -(u - x) ≤ A ∧ v - y ≤ A ∧ -(v - y) ≤ A) ∧ (A = u - x ∨ A = -(u - x) ∨ A = v - y ∨ A = -(v - y)) := by
    unfold mx at hA; repeat' split at hA
    all_goals omega
  rw [w64 (n := 2 * A) (by omega)]
  by_cases hi' : lo ≤ s ∧ s ≤ hi
  · rw [if_pos hi']
    have e : decide (2 * A ≤ c) = decide ((lo ≤ s ∧ s ≤ hi) ∧ (2 * (u - x) ≤ c ∧ -(2 * (u - x)) ≤ c) ∧ (2 * (v - y) ≤ c ∧ -(2 * (v - y)) ≤ c)) := by
      apply decide_eq_decide.2
      constructor
      · intro hh; exact ⟨hi', by omega, by omega⟩
      · rintro ⟨_, hh1, hh2⟩; omega
    rw [e]
  · rw [if_neg hi']; congr 2; exact (decide_eq_false (fun h => hi' h.1)).symm

end Go.Proofs.YtjemaonejkepcaaDoor.B
