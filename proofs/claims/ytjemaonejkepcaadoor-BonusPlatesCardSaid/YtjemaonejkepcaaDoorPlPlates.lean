/- The plain law of BonusPlates: the program's CheckPlate and Failures are the reference's; slices of targets and circles opened. -/
import Derived.Test.YtjemaonejkepcaaDoorPlC
import Derived.Test.YtjemaonejkepcaaDoorPlF
import Derived.Test.YtjemaonejkepcaaDoorB19
import Derived.Test.YtjemaonejkepcaaDoorB20
import Derived.Test.YtjemaonejkepcaaDoorB28
import Derived.Test.YtjemaonejkepcaaDoorOpen2
namespace Go.Proofs.YtjemaonejkepcaaDoor.B
open Go.RowKit Go.Proofs.YtjemaonejkepcaaDoorW.PrintWords
set_option maxRecDepth 100000

theorem open_targets {H : Type} {enc : TypeId × Value → H} {w : World} {base : Nat} {spare : Nat → Bool} {held : Bool} {r : Reach} {b0 : Nat} {v : Value} {d : DataW H} {p : List MemPlace} (hv : Value.okWide Tryd.prog w r b0 42 v) (h : DataW.Trod enc Tryd.prog w base spare held 42 v d p) :
    ∃ (A : Option Addr) (c : Nat) (l : List S27), v = .slice A l.length c ∧ Kd.C k27 w A l.length l ∧ l.length ≤ c :=
  open_row z27 (R := k27.K w) Tryd.underlying42 cs27 (fun n cs x ht => by
    obtain ⟨x, y, lo, hi, tol, mat, pin, rfl⟩ := target_cells ht
    exact ⟨⟨⟨x, y⟩, ⟨lo, hi⟩, tol, mat, pin⟩, k27_mk w ⟨⟨x, y⟩, ⟨lo, hi⟩, tol, mat, pin⟩⟩) hv h
theorem open_circles {H : Type} {enc : TypeId × Value → H} {w : World} {base : Nat} {spare : Nat → Bool} {held : Bool} {r : Reach} {b0 : Nat} {v : Value} {d : DataW H} {p : List MemPlace} (hv : Value.okWide Tryd.prog w r b0 82 v) (h : DataW.Trod enc Tryd.prog w base spare held 82 v d p) :
    ∃ (A : Option Addr) (c : Nat) (l : List S68), v = .slice A l.length c ∧ Kd.C k68 w A l.length l ∧ l.length ≤ c :=
  open_row z68 (R := k68.K w) Tryd.underlying82 cs68 (fun n cs x ht => by
    obtain ⟨x, y, s, rfl⟩ := circle_cells ht
    exact ⟨⟨⟨x, y⟩, s⟩, k68_mk w ⟨⟨x, y⟩, s⟩⟩) hv h

abbrev tchk (t : S27) : Int := chk t.f0.f0 t.f0.f1 t.f1.f0 t.f1.f1 t.f2 t.f3 t.f4
abbrev cchk (c : S68) : Int := ringc c.f0.f0 c.f0.f1 c.f1

theorem plate_l1 (cs : List S68) (hn : cs.length ≤ 32) (d : Nat) : ∀ (k k' : Nat) (i : Int), 0 ≤ i → (cs.length : Int) - i = d → d < k → d < k' →
    ∃ r, bonus_CheckPlate.l1 k cs (cs.length : Int) i = some r ∧ metrolabref44_CheckPlate.l1 k' cs i = some r ∧ (r = 0 → ∀ j : Int, i ≤ j → j < cs.length → cchk (rd_T68 cs j) = 0) := by
  induction d with
  | zero =>
    intro k k' i h0 hd hk hk'
    obtain ⟨k, rfl⟩ : ∃ m, k = m + 1 := ⟨k - 1, by omega⟩
    obtain ⟨k', rfl⟩ : ∃ m, k' = m + 1 := ⟨k' - 1, by omega⟩
    refine ⟨0, ?_, ?_, fun _ j h1 h2 => by omega⟩
    · simp only [bonus_CheckPlate.l1]; rw [if_neg (by omega)]
    · simp only [metrolabref44_CheckPlate.l1]; rw [if_neg (by omega)]
  | succ d ih =>
    intro k k' i h0 hd hk hk'
    obtain ⟨k, rfl⟩ : ∃ m, k = m + 1 := ⟨k - 1, by omega⟩
    obtain ⟨k', rfl⟩ : ∃ m, k' = m + 1 := ⟨k' - 1, by omega⟩
    have hlt : i < (cs.length : Int) := by omega
    simp only [bonus_CheckPlate.l1, metrolabref44_CheckPlate.l1]
    rw [if_pos hlt, if_pos h0, if_pos hlt, if_pos hlt, if_pos h0, bring, rring, w64 (n := i + 1) (by omega)]
    simp only [Option.bind_some]
    by_cases hz : cchk (rd_T68 cs i) = 0
    · rw [if_pos hz, if_pos hz]
      obtain ⟨r, h1, h2, h3⟩ := ih k k' (i + 1) (by omega) (by omega) (by omega) (by omega)
      refine ⟨r, h1, h2, fun hr j hj1 hj2 => ?_⟩
      by_cases hji : j = i
      · rw [hji]; exact hz
      · exact h3 hr j (by omega) hj2
    · rw [if_neg hz, if_neg hz]
      exact ⟨_, rfl, rfl, fun hr => absurd hr hz⟩

theorem plate_l0 (ts : List S27) (cs : List S68) (hn : ts.length ≤ 32) (hc : cs.length ≤ 32) (d : Nat) : ∀ (k k' : Nat) (i : Int), 0 ≤ i → (ts.length : Int) - i = d → d + 40 < k → d + 40 < k' →
    ∃ r, bonus_CheckPlate.l0 k ts cs ts (ts.length : Int) i = some r ∧ metrolabref44_CheckPlate.l0 k' ts cs i = some r ∧ (r = 0 → (cs.length = ts.length ∧ (∀ j : Int, i ≤ j → j < ts.length → tchk (rd_T27 ts j) = 0) ∧ ∀ j : Int, 0 ≤ j → j < cs.length → cchk (rd_T68 cs j) = 0)) := by
  induction d with
  | zero =>
    intro k k' i h0 hd hk hk'
    obtain ⟨k, rfl⟩ : ∃ m, k = m + 1 := ⟨k - 1, by omega⟩
    obtain ⟨k', rfl⟩ : ∃ m, k' = m + 1 := ⟨k' - 1, by omega⟩
    simp only [bonus_CheckPlate.l0, metrolabref44_CheckPlate.l0]
    have hge : ¬ i < (ts.length : Int) := by omega
    rw [if_neg hge, if_neg hge]
    by_cases he : (cs.length : Int) = (ts.length : Int)
    · rw [if_pos he, if_pos he]
      obtain ⟨r, h1, h2, h3⟩ := plate_l1 cs hc cs.length k k' 0 (by omega) (by omega) (by omega) (by omega)
      exact ⟨r, h1, h2, fun hr => ⟨by omega, fun j h1 h2 => by omega, h3 hr⟩⟩
    · rw [if_neg he, if_neg he]
      exact ⟨8, rfl, rfl, fun h => by omega⟩
  | succ d ih =>
    intro k k' i h0 hd hk hk'
    obtain ⟨k, rfl⟩ : ∃ m, k = m + 1 := ⟨k - 1, by omega⟩
    obtain ⟨k', rfl⟩ : ∃ m, k' = m + 1 := ⟨k' - 1, by omega⟩
    have hlt : i < (ts.length : Int) := by omega
    simp only [bonus_CheckPlate.l0, metrolabref44_CheckPlate.l0]
    rw [if_pos hlt, if_pos h0, if_pos hlt, if_pos hlt, if_pos h0, bcheck k (by omega), rcheck k' (by omega), w64 (n := i + 1) (by omega)]
    simp only [Option.bind_some]
    by_cases hz : tchk (rd_T27 ts i) = 0
    · rw [if_pos hz, if_pos hz]
      obtain ⟨r, h1, h2, h3⟩ := ih k k' (i + 1) (by omega) (by omega) (by omega) (by omega)
      refine ⟨r, h1, h2, fun hr => ?_⟩
      obtain ⟨g1, g2, g3⟩ := h3 hr
      refine ⟨g1, fun j hj1 hj2 => ?_, g3⟩
      by_cases hji : j = i
      · rw [hji]; exact hz
      · exact g2 j (by omega) hj2
    · rw [if_neg hz, if_neg hz]
      exact ⟨_, rfl, rfl, fun hr => absurd hr hz⟩

theorem plate (k : Nat) (hk : 100 ≤ k) (ts : List S27) (cs : List S68) (hn : ts.length ≤ 32) (hc : cs.length ≤ 32) :
    ∃ r, bonus_CheckPlate.f k ts cs = some r ∧ metrolabref44_CheckPlate.f k ts cs = some r ∧ (r = 0 → (cs.length = ts.length ∧ (∀ j : Int, 0 ≤ j → j < ts.length → tchk (rd_T27 ts j) = 0) ∧ ∀ j : Int, 0 ≤ j → j < cs.length → cchk (rd_T68 cs j) = 0)) := by
  unfold bonus_CheckPlate.f metrolabref44_CheckPlate.f
  by_cases h : (ts.length : Int) > 16
  · rw [if_pos h, if_pos h]; exact ⟨5, rfl, rfl, fun h => by omega⟩
  · rw [if_neg h, if_neg h]
    exact plate_l0 ts cs hn hc ts.length k k 0 (by omega) (by omega) (by omega) (by omega)

theorem failures_l0 (ts : List S27) (cs : List S68) (hn : ts.length ≤ 32) (he : cs.length = ts.length) (ht : ∀ j : Int, 0 ≤ j → j < ts.length → tchk (rd_T27 ts j) = 0) (hcc : ∀ j : Int, 0 ≤ j → j < cs.length → cchk (rd_T68 cs j) = 0) (d : Nat) :
    ∀ (k k' : Nat) (acc : List Int) (i : Int), 0 ≤ i → (ts.length : Int) - i = d → (acc.length : Int) ≤ i → d < k → d < k' →
    ∃ out, bonus_Failures.l0 k cs acc ts (ts.length : Int) i = some (out, 0) ∧ metrolabref44_Failures.l0 k' ts cs acc i = some (out, 0) ∧ out.length ≤ ts.length := by
  induction d with
  | zero =>
    intro k k' acc i h0 hd ha hk hk'
    obtain ⟨k, rfl⟩ : ∃ m, k = m + 1 := ⟨k - 1, by omega⟩
    obtain ⟨k', rfl⟩ : ∃ m, k' = m + 1 := ⟨k' - 1, by omega⟩
    refine ⟨acc, ?_, ?_, by omega⟩
    · simp only [bonus_Failures.l0]; rw [if_neg (by omega)]
    · simp only [metrolabref44_Failures.l0]; rw [if_neg (by omega)]
  | succ d ih =>
    intro k k' acc i h0 hd ha hk hk'
    obtain ⟨k, rfl⟩ : ∃ m, k = m + 1 := ⟨k - 1, by omega⟩
    obtain ⟨k', rfl⟩ : ∃ m, k' = m + 1 := ⟨k' - 1, by omega⟩
    have hlt : i < (ts.length : Int) := by omega
    have hlc : i < (cs.length : Int) := by omega
    have hok := chk_ok.1 (ht i h0 hlt)
    have hck := ringc_ok.1 (hcc i h0 hlc)
    simp only [bonus_Failures.l0, metrolabref44_Failures.l0]
    rw [if_pos hlt, if_pos h0, if_pos hlt, if_pos hlc, if_pos hlt, if_pos h0, if_pos hlc, good_ok hok hck, rgood_ok hok hck, w64 (n := i + 1) (by omega)]
    simp only [Option.bind_some]
    cases hg : goodB (rd_T27 ts i).f0.f0 (rd_T27 ts i).f0.f1 (rd_T27 ts i).f1.f0 (rd_T27 ts i).f1.f1 (rd_T27 ts i).f2 (rd_T27 ts i).f3 (rd_T27 ts i).f4 (rd_T68 cs i).f0.f0 (rd_T68 cs i).f0.f1 (rd_T68 cs i).f1 with
    | true =>
      rw [if_pos rfl, if_pos rfl]
      exact ih k k' acc (i + 1) (by omega) (by omega) (by omega) (by omega) (by omega)
    | false =>
      have hacc : acc.length < 17592186044416 := by omega
      rw [if_neg Bool.false_ne_true, if_neg Bool.false_ne_true, if_pos hacc, if_pos hacc]
      exact ih k k' (acc ++ [i]) (i + 1) (by omega) (by omega) (by rw [List.length_append, List.length_singleton]; omega) (by omega) (by omega)

theorem equal_l0 (l : List Int) (hn : l.length ≤ 32) (d : Nat) : ∀ (k : Nat) (i : Int), 0 ≤ i → (l.length : Int) - i = d → d < k → slices_Equal_int_int.l0 k l l (l.length : Int) i = some true := by
  induction d with
  | zero =>
    intro k i h0 hd hk
    obtain ⟨k, rfl⟩ : ∃ m, k = m + 1 := ⟨k - 1, by omega⟩
    simp only [slices_Equal_int_int.l0]; rw [if_neg (by omega)]
  | succ d ih =>
    intro k i h0 hd hk
    obtain ⟨k, rfl⟩ : ∃ m, k = m + 1 := ⟨k - 1, by omega⟩
    have hlt : i < (l.length : Int) := by omega
    simp only [slices_Equal_int_int.l0]
    rw [if_pos hlt, if_pos h0, if_pos hlt, if_pos hlt, if_pos trivial, w64 (n := i + 1) (by omega)]
    exact ih k (i + 1) (by omega) (by omega) (by omega)
theorem equal_self (k : Nat) (hk : 40 ≤ k) (l : List Int) (hn : l.length ≤ 32) : slices_Equal_int_int.f k l l = some true := by
  unfold slices_Equal_int_int.f; rw [if_pos rfl]; exact equal_l0 l hn l.length k 0 (by omega) (by omega) (by omega)

theorem plates_pure (ts : List S27) (cs : List S68) : ∃ k, metrolablaw44_BonusPlates.f k ts cs = some true := by
  refine ⟨100, ?_⟩
  unfold metrolablaw44_BonusPlates.f metrolabref44_Few.f
  by_cases hn : (ts.length : Int) ≤ 32
  · by_cases hc : (cs.length : Int) ≤ 32
    · rw [if_pos hn]
      simp only [Option.bind_some, decide_eq_true hc, if_true]
      obtain ⟨r, h1, h2, h3⟩ := plate 100 (by omega) ts cs (by omega) (by omega)
      unfold bonus_Failures.f metrolabref44_Failures.f
      rw [h1, h2]
      simp only [Option.bind_some]
      by_cases hr : r = 0
      · obtain ⟨he, g1, g2⟩ := h3 hr
        obtain ⟨out, o1, o2, o3⟩ := failures_l0 ts cs (by omega) he g1 g2 ts.length 100 100 [] 0 (by omega) (by omega) (by simp) (by omega) (by omega)
        rw [if_pos hr, if_pos hr, o1, o2]
        simp only [Option.bind_some]
        rw [equal_self 100 (by omega) out (by omega)]
        simp [metrolablaw44_awake.f]
      · rw [if_neg hr, if_neg hr]
        simp only [Option.bind_some]
        rw [equal_self 100 (by omega) [] (by simp)]
        simp [metrolablaw44_awake.f]
    · rw [if_pos hn]; simp [hc, metrolablaw44_awake.f]
  · rw [if_neg hn]; simp [metrolablaw44_awake.f]

end Go.Proofs.YtjemaonejkepcaaDoor.B
