/- Plain laws of layer 44: what the checks and the virtual sizes come to, as one function each of the numbers. -/
import Derived.Test.YtjemaonejkepcaaDoorB1
import Derived.Test.YtjemaonejkepcaaDoorB2
import Derived.Test.YtjemaonejkepcaaDoorB3
import Derived.Test.YtjemaonejkepcaaDoorB4
namespace Go.Proofs.YtjemaonejkepcaaDoor.B
open Go.RowKit

theorem w64 {n : Int} (h : -1000000000000 ≤ n ∧ n ≤ 1000000000000) : wrap64 n = n := by unfold wrap64; omega

theorem bin (a : Int) : bonus_in.f a = some (decide (-100000 ≤ a ∧ a ≤ 100000)) := by
  unfold bonus_in.f
  by_cases h : a ≥ -100000
  · rw [if_pos h]; simp; omega
  · rw [if_neg h]; simp; omega
theorem rin (a : Int) : metrolabref07_in.f a = some (decide (-100000 ≤ a ∧ a ≤ 100000)) := bin a
theorem bsz (a : Int) : bonus_size.f a = some (decide (1 ≤ a ∧ a ≤ 100000)) := by
  unfold bonus_size.f
  by_cases h : a ≥ 1
  · rw [if_pos h]; simp; omega
  · rw [if_neg h]; simp; omega
theorem rsz (a : Int) : metrolabref44_size.f a = some (decide (1 ≤ a ∧ a ≤ 100000)) := bsz a

/-- The number of a target's error. -/
def chk (x y lo hi tol mat : Int) (pin : Bool) : Int :=
  if (-100000 ≤ x ∧ x ≤ 100000) ∧ (-100000 ≤ y ∧ y ≤ 100000) ∧ (1 ≤ lo ∧ lo ≤ 100000) ∧ (1 ≤ hi ∧ hi ≤ 100000) then
    if hi < lo then 9 else if tol < 0 ∨ 100000 < tol ∨ (pin = false ∧ lo ≤ tol) then 2 else if mat < 0 ∨ 2 < mat then 1 else 0
  else 2

theorem bcheck (k : Nat) (hk : 3 ≤ k) (x y lo hi tol mat : Int) (pin : Bool) : bonus_Check.f k x y lo hi tol mat pin = some (chk x y lo hi tol mat pin) := by
  obtain ⟨k, rfl⟩ : ∃ m, k = m + 3 := ⟨k - 3, by omega⟩
  unfold bonus_Check.f chk
  simp only [bin, bsz, Option.bind_some, decide_eq_true_eq]
  by_cases h1 : -100000 ≤ x ∧ x ≤ 100000
  · by_cases h2 : -100000 ≤ y ∧ y ≤ 100000
    · by_cases h3 : 1 ≤ lo ∧ lo ≤ 100000
      · by_cases h4 : 1 ≤ hi ∧ hi ≤ 100000
        · rw [if_pos h1, if_pos h2, if_pos h3, if_pos ⟨h1, h2, h3, h4⟩]
          simp only [bonus_Check.j0, bonus_Check.j1, decide_eq_true h4]
          cases pin <;> repeat' (first | rfl | (split <;> try (simp_all; done)) | omega | (exfalso; simp_all; omega))
        · rw [if_pos h1, if_pos h2, if_pos h3, if_neg (fun h => h4 h.2.2.2)]
          simp only [bonus_Check.j0, decide_eq_false h4]; simp
      · rw [if_pos h1, if_pos h2, if_neg h3, if_neg (fun h => h3 h.2.2.1)]; simp [bonus_Check.j0]
    · rw [if_pos h1, if_neg h2, if_neg (fun h => h2 h.2.1)]; simp [bonus_Check.j0]
  · rw [if_neg h1, if_neg (fun h => h1 h.1)]; simp [bonus_Check.j0]

theorem rcheck (k : Nat) (hk : 3 ≤ k) (x y lo hi tol mat : Int) (pin : Bool) : metrolabref44_Check.f k x y lo hi tol mat pin = some (chk x y lo hi tol mat pin) := by
  obtain ⟨k, rfl⟩ : ∃ m, k = m + 3 := ⟨k - 3, by omega⟩
  unfold metrolabref44_Check.f chk metrolabref07_Right.f
  simp only [rin, rsz, Option.bind_some, decide_eq_true_eq]
  by_cases h1 : -100000 ≤ x ∧ x ≤ 100000
  · by_cases h2 : -100000 ≤ y ∧ y ≤ 100000
    · by_cases h3 : 1 ≤ lo ∧ lo ≤ 100000
      · by_cases h4 : 1 ≤ hi ∧ hi ≤ 100000
        · rw [if_pos h1]
          simp only [Option.bind_some, decide_eq_true h2]
          rw [if_pos trivial, if_pos h3, if_pos ⟨h1, h2, h3, h4⟩]
          simp only [metrolabref44_Check.j0, metrolabref44_Check.j1, decide_eq_true h4]
          cases pin <;> repeat' (first | rfl | (split <;> try (simp_all; done)) | omega | (exfalso; simp_all; omega))
        · rw [if_pos h1]
          simp only [Option.bind_some, decide_eq_true h2]
          rw [if_pos trivial, if_pos h3, if_neg (fun h => h4 h.2.2.2)]
          simp only [metrolabref44_Check.j0, decide_eq_false h4]; simp
      · rw [if_pos h1]
        simp only [Option.bind_some, decide_eq_true h2]
        rw [if_pos trivial, if_neg h3, if_neg (fun h => h3 h.2.2.1)]; simp [metrolabref44_Check.j0]
    · rw [if_pos h1]
      simp only [Option.bind_some, decide_eq_false h2]
      rw [if_neg (fun h : (_ ∧ _ ∧ _) => h2 h.2.1)]; simp [metrolabref44_Check.j0]
  · rw [if_neg h1, if_neg (c := (-100000 ≤ x ∧ x ≤ 100000) ∧ _) (fun h => h1 h.1)]; simp [metrolabref44_Check.j0]

/-- A right target. -/
def Okt (x y lo hi tol mat : Int) (pin : Bool) : Prop :=
  (-100000 ≤ x ∧ x ≤ 100000) ∧ (-100000 ≤ y ∧ y ≤ 100000) ∧ 1 ≤ lo ∧ lo ≤ hi ∧ hi ≤ 100000 ∧ 0 ≤ tol ∧ tol ≤ 100000 ∧ (pin = false → tol < lo) ∧ 0 ≤ mat ∧ mat ≤ 2

theorem chk_ok {x y lo hi tol mat : Int} {pin : Bool} : chk x y lo hi tol mat pin = 0 ↔ Okt x y lo hi tol mat pin := by
  unfold chk Okt
  by_cases h : (-100000 ≤ x ∧ x ≤ 100000) ∧ (-100000 ≤ y ∧ y ≤ 100000) ∧ (1 ≤ lo ∧ lo ≤ 100000) ∧ (1 ≤ hi ∧ hi ≤ 100000)
  · rw [if_pos h]
    by_cases h1 : hi < lo
    · rw [if_pos h1]; constructor
      · intro h; omega
      · intro h; omega
    · rw [if_neg h1]
      by_cases h2 : tol < 0 ∨ 100000 < tol ∨ (pin = false ∧ lo ≤ tol)
      · rw [if_pos h2]; constructor
        · intro h; omega
        · rintro ⟨_, _, _, _, _, ha, hb, hc, _⟩
          rcases h2 with h2 | h2 | ⟨e, h2⟩
          · omega
          · omega
          · have := hc e; omega
      · rw [if_neg h2]
        by_cases h3 : mat < 0 ∨ 2 < mat
        · rw [if_pos h3]; constructor
          · intro h; omega
          · intro h; omega
        · rw [if_neg h3]
          refine ⟨fun _ => ⟨h.1, h.2.1, by omega, by omega, by omega, by omega, by omega, fun e => ?_, by omega, by omega⟩, fun _ => rfl⟩
          rcases Int.lt_or_le tol lo with hl | hl
          · exact hl
          · exact absurd (Or.inr (Or.inr ⟨e, hl⟩)) h2
  · rw [if_neg h]; constructor
    · intro h; omega
    · intro h; omega
theorem chk_range (x y lo hi tol mat : Int) (pin : Bool) : 0 ≤ chk x y lo hi tol mat pin ∧ chk x y lo hi tol mat pin ≤ 9 := by
  unfold chk; repeat' split
  all_goals omega

theorem sgn_eq (mat : Int) (pin : Bool) : sgn mat pin = if ((mat == 2) == pin) = true then -1 else 1 := by
  unfold sgn
  by_cases h : mat = 2 <;> cases pin <;> simp [h]
theorem bof {x y lo hi tol mat : Int} {pin : Bool} (h0 : 0 ≤ mat) (h2 : mat ≤ 2) : bonus_of.f x y lo hi tol mat pin = some (x, y, lo, hi, tol, mat, pin, sgn mat pin) := by
  unfold bonus_of.f; rw [if_pos ⟨h0, h2⟩]

/-- The virtual size, the resultant one, the bonus. -/
def vir (lo hi tol mat : Int) (pin : Bool) : Int := if ((mat == 2) == pin) = true then lo - tol else hi + tol
def res (lo hi tol mat : Int) (pin : Bool) : Int :=
  if ((mat == 2) == pin) = true then hi + tol + (if mat = 0 then 0 else hi - lo) else lo - tol - (if mat = 0 then 0 else hi - lo)
def ext (lo hi mat : Int) (pin : Bool) (n : Int) : Int := if mat = 0 then 0 else if ((mat == 1) != pin) = true then n - lo else hi - n

theorem virtual_bad (k : Nat) (hk : 3 ≤ k) {x y lo hi tol mat : Int} {pin : Bool} (h : chk x y lo hi tol mat pin ≠ 0) : bonus_Virtual.f k x y lo hi tol mat pin = some (0, chk x y lo hi tol mat pin) := by
  unfold bonus_Virtual.f; rw [bcheck k hk]; simp only [Option.bind_some]; rw [if_neg h]
theorem virtual_ok (k : Nat) (hk : 3 ≤ k) {x y lo hi tol mat : Int} {pin : Bool} (h : Okt x y lo hi tol mat pin) : bonus_Virtual.f k x y lo hi tol mat pin = some (vir lo hi tol mat pin, 0) := by
  unfold bonus_Virtual.f vir
  rw [bcheck k hk]; simp only [Option.bind_some]; rw [if_pos (chk_ok.2 h)]
  obtain ⟨_, _, h1, h2, h3, h4, h5, _, h6, h7⟩ := h
  rw [bof h6 h7]; simp only [Option.bind_some, bonus_condition_end.f, sgn_eq]
  split <;> simp
  · rw [w64 (n := -tol) (by omega), w64 (by omega)]; omega
  · rw [w64 (n := tol) (by omega), w64 (by omega)]
theorem gauge_ok {x y lo hi tol mat : Int} {pin : Bool} (h : Okt x y lo hi tol mat pin) : metrolabref44_Gauge.f x y lo hi tol mat pin = some (vir lo hi tol mat pin) := by
  unfold metrolabref44_Gauge.f vir
  obtain ⟨_, _, h1, h2, h3, h4, h5, _, h6, h7⟩ := h
  split
  · rw [w64 (by omega)]
  · rw [w64 (by omega)]

end Go.Proofs.YtjemaonejkepcaaDoor.B
