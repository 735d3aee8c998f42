/- Texts of the law GaugeKeeps, laid together by a program of this session; what is not reached is cut. In it: words that the kit's print.sh printed, contracts of Go functions printed over the kit's printer, our own laws. Not trusted: Lean checks them. -/
import Derived.Test.YtjemaonejkepcaaDoorZKGaugeKeeps6
namespace Go.Proofs.YtjemaonejkepcaaDoor.G
set_option linter.unusedVariables false
set_option linter.unusedSimpArgs false
open Go.Proofs.YtjemaonejkepcaaDoor.B
open Go.RowKit Go.Proofs.YtjemaonejkepcaaDoorW.PrintWords
/-- The play of a tool that a circle goes into. -/
theorem play_good {W M : Int} (hW : 0 ≤ W ∧ W ≤ 100000) (hM : 0 ≤ M ∧ M ≤ 100000) (high : Bool) {t : S27} (ht : te t = 0) {u v s : Int} (hi : t.f1.f0 ≤ s ∧ s ≤ t.f1.f1) {p : Int} (hp : p = if (dt high W M t).f1 = true then (dt high W M t).f2 - s else s - (dt high W M t).f2) (h0 : 0 ≤ p)
    (hd : 4 * ((u - t.f0.f0) * (u - t.f0.f0) + (v - t.f0.f1) * (v - t.f0.f1)) ≤ p * p) : goodB t.f0.f0 t.f0.f1 t.f1.f0 t.f1.f1 t.f2 t.f3 t.f4 u v s = true := by
  obtain ⟨_, hm⟩ := te_ok ht
  obtain ⟨_, _, e3, e4, e5⟩ := dt_is high hW.1 hM.1 t
  have htv := tv_is ht
  have hle : p ≤ t.f2 + ext t.f1.f0 t.f1.f1 t.f3 t.f4 s := by
    rw [hp, e3]
    unfold ext
    rw [hm]
    cases hq : t.f4 with
    | true =>
      have := e4 hq
      rw [hq, if_pos rfl] at htv
      simp
      omega
    | false =>
      have := e5 hq
      rw [hq, if_neg Bool.false_ne_true] at htv
      simp
      omega
  unfold goodB
  refine decide_eq_true ⟨hi, Int.le_trans hd ?_⟩
  exact Int.mul_le_mul hle hle h0 (by omega)
theorem play_range {W M : Int} (hW : 0 ≤ W ∧ W ≤ 100000) (hM : 0 ≤ M ∧ M ≤ 100000) (high : Bool) {t : S27} (ht : te t = 0) : -400000 ≤ (dt high W M t).f2 ∧ (dt high W M t).f2 ≤ 400000 := by
  obtain ⟨_, _, e3, e4, e5⟩ := dt_is high hW.1 hM.1 t
  have hv := tv_range ht
  cases hq : t.f4 with
  | true => have := e4 hq; omega
  | false => have := e5 hq; omega
theorem keeps_l1 {W M : Int} (hW : 0 ≤ W ∧ W ≤ 100000) (hM : 0 ≤ M ∧ M ≤ 100000) (high : Bool) (l : List S27) (hn : l.length ≤ 1000) (hl : ∀ t ∈ l, te t = 0) {u v s : Int} (hc : Okc u v s) (gg : List S104) (bs : List Bool) (n b : Int) (K : Nat)
    (hC : ∀ k, K ≤ k → metrolablaw47_GaugeKeeps.l0 k l gg bs n (wrap64 (b + 1)) u v s = some true) (d : Nat) : ∀ (k : Nat) (i : Int), 0 ≤ i → (l.length : Int) - i = d → 3 * d + K + 10 ≤ k →
    metrolablaw47_GaugeKeeps.l1 k l gg bs n b ((l.map (de W M)).map (mkt high)) (((l.map (de W M)).map (mkt high)).length : Int) i u v s = some true := by
  induction d with
  | zero =>
    intro k i h0 hd hk
    obtain ⟨k, rfl⟩ : ∃ m, k = m + 1 := ⟨k - 1, by omega⟩
    simp only [metrolablaw47_GaugeKeeps.l1]
    rw [if_neg (by simp; omega)]
    exact hC k (by omega)
  | succ d ih =>
    intro k i h0 hd hk
    obtain ⟨k, rfl⟩ : ∃ m, k = m + 3 := ⟨k - 3, by omega⟩
    have h1 : i < (l.length : Int) := by omega
    have hdr : l.drop i.toNat = rd_T27 l i :: l.drop (i + 1).toNat := drop_rd l z27 h0 h1
    have hm : te (rd_T27 l i) = 0 := hl _ (List.mem_of_mem_drop (by rw [hdr]; exact List.mem_cons_self))
    have hn1 : i < (((l.map (de W M)).map (mkt high)).length : Int) := by simpa using h1
    have hat := dt_at high W M l (i := i) (by omega)
    have hih1 := ih k (i + 1) (by omega) (by omega) (by omega)
    have hih2 := ih (k + 1) (i + 1) (by omega) (by omega) (by omega)
    have hpr := play_range hW hM high hm
    have hw : ∀ p : Int, p = (if (dt high W M (rd_T27 l i)).f1 = true then (dt high W M (rd_T27 l i)).f2 - s else s - (dt high W M (rd_T27 l i)).f2) →
        metrolablaw47_GaugeKeeps.j4 (k + 2) l gg i p bs n b ((l.map (de W M)).map (mkt high)) (((l.map (de W M)).map (mkt high)).length : Int) i u v s = some true := by
      intro p hp
      obtain ⟨hu, hv, hs⟩ := hc
      have hpp : -600000 ≤ p ∧ p ≤ 600000 := by rw [hp]; split <;> omega
      have hok := (te_ok hm).1
      simp only [metrolablaw47_GaugeKeeps.j4]
      rw [if_pos h0, if_pos h1, dist47_ok (k + 1) (by omega) hok ⟨hu, hv, hs⟩, rinside]
      simp only [Option.bind_some, if_true, decide_eq_true_eq]
      by_cases hi : (rd_T27 l i).f1.f0 ≤ s ∧ s ≤ (rd_T27 l i).f1.f1
      · rw [if_pos hi]
        by_cases hp0 : p < 0
        · rw [if_pos hp0]
          simp only [metrolablaw47_GaugeKeeps.j5, if_true]
          rw [up64 h0 (by omega)]; exact hih1
        · rw [if_neg hp0]
          simp only [metrolablaw47_GaugeKeeps.j5, decide_eq_true_eq]
          have q1 := sq_le (d := u - (rd_T27 l i).f0.f0) (B := 200000) (by have := hok.1; omega) (by have := hok.1; omega)
          have q2 := sq_le (d := v - (rd_T27 l i).f0.f1) (B := 200000) (by have := hok.2.1; omega) (by have := hok.2.1; omega)
          have q3 := sq_le (d := p) (B := 600000) (by omega) (by omega)
          rw [w64 (n := 4 * ((u - (rd_T27 l i).f0.f0) * (u - (rd_T27 l i).f0.f0) + (v - (rd_T27 l i).f0.f1) * (v - (rd_T27 l i).f0.f1))) (by omega), w64 (n := p * p) (by omega)]
          by_cases hD : 4 * ((u - (rd_T27 l i).f0.f0) * (u - (rd_T27 l i).f0.f0) + (v - (rd_T27 l i).f0.f1) * (v - (rd_T27 l i).f0.f1)) > p * p
          · rw [if_pos hD, up64 h0 (by omega)]; exact hih1
          · rw [if_neg hD, if_pos h0, if_pos h1, keeps_ok k (by omega) hok ⟨hu, hv, hs⟩, play_good hW hM high hm hi hp (by omega) (by omega)]
            simp only [Option.bind_some, if_true]
            rw [up64 h0 (by omega)]; exact hih1
      · rw [if_neg hi]
        simp only [metrolablaw47_GaugeKeeps.j5, if_true]
        rw [up64 h0 (by omega)]; exact hih1
    simp only [metrolablaw47_GaugeKeeps.l1]
    rw [if_pos hn1, if_pos h0, if_pos hn1, hat]
    obtain ⟨hu, hv, hs⟩ := hc
    by_cases hf : (dt high W M (rd_T27 l i)).f1 = true
    · rw [if_pos hf, w64 (n := (dt high W M (rd_T27 l i)).f2 - s) (by omega)]
      exact hw _ (by rw [if_pos hf])
    · rw [if_neg hf, w64 (n := s - (dt high W M (rd_T27 l i)).f2) (by omega)]
      exact hw _ (by rw [if_neg hf])
theorem keeps47_pure (l : List S27) (W M u v s : Int) : ∃ k, metrolablaw47_GaugeKeeps.f k l W M u v s = some true := by
  refine ⟨5000, ?_⟩
  unfold metrolablaw47_GaugeKeeps.f
  simp only [metrolablaw47_few.f, Option.bind_some, decide_eq_true_eq]
  by_cases hn : (l.length : Int) ≤ 32
  · rw [if_pos hn, rring]
    simp only [Option.bind_some, metrolablaw47_GaugeKeeps.j0]
    by_cases hr : ringc u v s = 0
    · rw [hr, if_neg (by decide), gdesign 4999 (by omega)]
      simp only [Option.bind_some]
      by_cases hd : dz W M l = 0
      · rw [if_pos hd, if_pos hd]
        have hc : ce l = 0 := by
          unfold dz at hd
          by_cases hc : ce l = 0
          · exact hc
          · rw [if_neg hc] at hd; exact absurd hd hc
        obtain ⟨hn1, hn2, hl⟩ := ce_ok hc
        have hx : (0 ≤ W ∧ W ≤ 100000 ∧ 0 ≤ M ∧ M ≤ 100000) ∧ lowOk W M l = true := by
          unfold dz at hd
          rw [if_pos hc] at hd
          by_cases hx : 0 ≤ W ∧ W ≤ 100000 ∧ 0 ≤ M ∧ M ≤ 100000
          · rw [if_pos hx] at hd
            by_cases hL : lowOk W M l = true
            · exact ⟨hx, hL⟩
            · rw [if_neg hL] at hd; omega
          · rw [if_neg hx] at hd; omega
        obtain ⟨⟨w1, w2, m1, m2⟩, hL⟩ := hx
        have hmz := mz_de ⟨w1, w2⟩ ⟨m1, m2⟩ hn2 hl hL
        have hlen : ∀ high : Bool, ((((l.map (de W M)).map (mkt high)).length : Int) != (l.length : Int)) = false := fun high => by simp
        have ho := ringc_ok.1 hr
        -- behind both rounds
        have c2 : ∀ k, 100 ≤ k → metrolablaw47_GaugeKeeps.l0 k l (l.map (de W M)) [false, true] (2 : Int) (wrap64 (1 + 1)) u v s = some true := by
          intro k hk
          obtain ⟨k, rfl⟩ : ∃ m, k = m + 1 := ⟨k - 1, by omega⟩
          rw [show wrap64 (1 + 1) = 2 from up64 (i := 1) (by decide) (by decide)]
          simp only [metrolablaw47_GaugeKeeps.l0]
          rw [if_neg (by decide), awake_ok k (by omega)]; rfl
        have c1 : ∀ k, 1000 ≤ k → metrolablaw47_GaugeKeeps.l0 k l (l.map (de W M)) [false, true] (2 : Int) (wrap64 (0 + 1)) u v s = some true := by
          intro k hk
          obtain ⟨k, rfl⟩ : ∃ m, k = m + 2 := ⟨k - 2, by omega⟩
          rw [show wrap64 (0 + 1) = 1 from up64 (i := 0) (by decide) (by decide)]
          simp only [metrolablaw47_GaugeKeeps.l0]
          rw [if_pos (by decide), if_pos (by decide), if_pos (by decide), show rdOf false [false, true] 1 = true from rfl, gmade (k + 1) (by omega), hmz]
          simp only [Option.bind_some, if_true]
          rw [hlen true]
          simp only [metrolablaw47_GaugeKeeps.j2]
          rw [if_neg Bool.false_ne_true]
          exact keeps_l1 ⟨w1, w2⟩ ⟨m1, m2⟩ true l (by omega) hl ho _ _ _ 1 100 c2 l.length k 0 (by omega) (by omega) (by omega)
        have c0 : metrolablaw47_GaugeKeeps.l0 4999 l (l.map (de W M)) [false, true] (2 : Int) 0 u v s = some true := by
          simp only [metrolablaw47_GaugeKeeps.l0]
          rw [if_pos (by decide), if_pos (by decide), if_pos (by decide), show rdOf false [false, true] 0 = false from rfl, gmade 4998 (by omega), hmz]
          simp only [Option.bind_some, if_true]
          rw [hlen false]
          simp only [metrolablaw47_GaugeKeeps.j2]
          rw [if_neg Bool.false_ne_true]
          exact keeps_l1 ⟨w1, w2⟩ ⟨m1, m2⟩ false l (by omega) hl ho _ _ _ 0 1000 c1 l.length 4997 0 (by omega) (by omega) (by omega)
        exact c0
      · rw [if_neg hd, awake_ok 4999 (by omega)]; rfl
    · rw [if_pos (by simpa using hr), awake_ok 4999 (by omega)]; rfl
  · rw [if_neg hn]
    simp only [metrolablaw47_GaugeKeeps.j0, if_true]
    rw [awake_ok 4999 (by omega)]; rfl
end Go.Proofs.YtjemaonejkepcaaDoor.G
