/- Texts of the law GaugeLoses, laid together by a program of this session; what is not reached is cut. In it: words that the kit's print.sh printed, contracts of Go functions printed over the kit's printer, our own laws. Not trusted: Lean checks them. -/
import Derived.Test.YtjemaonejkepcaaDoorZQc5
namespace Go.Proofs.YtjemaonejkepcaaDoor.G
open Go.Proofs.YtjemaonejkepcaaDoor.B
open Go.RowKit Go.Proofs.YtjemaonejkepcaaDoorW.PrintWords Go.Proofs.YtjemaonejkepcaaDoorW.PrintLast Go.Proofs.YtjemaonejkepcaaDoorW.PrintMore
attribute [local go_sem] max2_int min2_int max_two min_two max_three min_three max_four min_four   -- for this text's walks alone
set_option linter.unusedVariables false
set_option linter.unusedSimpArgs false
def metrolabref47_Loss.l0 : Nat → List (S27) → List (S141) → Int → Int → Option (Int × Int)
  | 0, _, _, _, _ => none
  | k + 1, x0, x1, x7, x8 => if x8 < (x1.length : Int) then (if 0 ≤ x8 then (if x8 < (x0.length : Int) then ((metrolabref44_Gauge.f ((rd_T27 x0 x8).f0.f0) ((rd_T27 x0 x8).f0.f1) ((rd_T27 x0 x8).f1.f0) ((rd_T27 x0 x8).f1.f1) ((rd_T27 x0 x8).f2) ((rd_T27 x0 x8).f3) ((rd_T27 x0 x8).f4)).bind fun t310 => (metrolabref47_Loss.l0 k x0 x1 (mx (mx x7 (wrap64 (((rd_T141 x1 x8).f2.f1) - t310))) (wrap64 (t310 - ((rd_T141 x1 x8).f2.f0)))) (wrap64 (x8 + 1)))) else (none)) else (none)) else (some (x7, 0))
def metrolabref47_Loss.f (k : Nat) (l0 : List (S27)) (l1 : List (S141)) : Option (Int × Int) := (metrolabref47_Safe.f k l0 l1).bind fun t308 => (if t308 = 0 then (metrolabref47_Loss.l0 k l0 l1 0 0) else (some (0, t308)))
theorem metrolabref47_Loss.mono_l : ∀ k, (∀ y0 y1 y2 y3, LeO (metrolabref47_Loss.l0 k y0 y1 y2 y3) (metrolabref47_Loss.l0 (k + 1) y0 y1 y2 y3))
  | 0 => fun _ _ _ _ r h => by simp [metrolabref47_Loss.l0] at h
  | k + 1 => by
    have ih0 := metrolabref47_Loss.mono_l k
    · intro y0 y1 y2 y3
      unfold metrolabref47_Loss.l0
      repeat' first
      | (with_reducible exact ih0 _ _ _ _)
      | (with_reducible exact metrolabref47_Safe.mono _ _ _)
      | (with_reducible exact LeO.refl _)
      | (with_reducible exact LeO.none _)
      | (with_reducible refine LeO.ite ?_ ?_)
      | (with_reducible refine LeO.bind ?_ (fun _ => ?_))
      | exact ih0 _ _ _ _
      | exact metrolabref47_Safe.mono _ _ _
      | exact LeO.none _
      | refine LeO.ite ?_ ?_
      | refine LeO.bind ?_ (fun _ => ?_)
theorem metrolabref47_Loss.mono : ∀ a0 a1 k, LeO (metrolabref47_Loss.f k a0 a1) (metrolabref47_Loss.f (k + 1) a0 a1) := by
  intro a0 a1 k
  have ih0 := metrolabref47_Loss.mono_l k
  unfold metrolabref47_Loss.f
  repeat' first
      | (with_reducible exact ih0 _ _ _ _)
      | (with_reducible exact metrolabref47_Safe.mono _ _ _)
      | (with_reducible exact LeO.refl _)
      | (with_reducible exact LeO.none _)
      | (with_reducible refine LeO.ite ?_ ?_)
      | (with_reducible refine LeO.bind ?_ (fun _ => ?_))
      | exact ih0 _ _ _ _
      | exact metrolabref47_Safe.mono _ _ _
      | exact LeO.none _
      | refine LeO.ite ?_ ?_
      | refine LeO.bind ?_ (fun _ => ?_)
set_option maxHeartbeats 8000000 in
set_option maxRecDepth 100000 in
theorem metrolabref47_Loss.calls (k : Nat) (A0 : Option Addr) (c0 : Nat) (l0 : List (S27)) (A1 : Option Addr) (c1 : Nat) (l1 : List (S141)) (r1 : Int) (r2 : Int) (w : World) (hr0 : Kd.C k27 w A0 l0.length l0) (hc0 : l0.length ≤ c0) (hr1 : Kd.C k141 w A1 l1.length l1) (hc1 : l1.length ≤ c1) (h : metrolabref47_Loss.f k l0 l1 = some (r1, r2)) :
    Calls Tryd.prog 58 #[.slice A0 l0.length c0, .slice A1 l1.length c1] w fun e w' => e = .returned (.tuple #[.int .i64 r1, .int .i64 r2]) ∧ Below w.heap.size w w' := by
  have hu27 := Tryd.underlying27
  have HR0 := Aside0.mk hr0
  have HC0 := Aside0.mk hc0
  clear hr0 hc0
  have HR1 := Aside0.mk hr1
  have HC1 := Aside0.mk hc1
  clear hr1 hc1
  have HB := Aside0.mk (Below.refl w.heap.size w)
  have H : ((metrolabref47_Safe.f k l0 l1).bind fun t308 => (if t308 = 0 then (metrolabref47_Loss.l0 k l0 l1 0 0) else (some (0, t308)))) = some (r1, r2) := h
  clear h
  replace H := Option.bind_eq_some_iff.mp H
  obtain ⟨t308, A30, H⟩ := H
  replace H : (if t308 = 0 then (metrolabref47_Loss.l0 k l0 l1 0 0) else (some (0, t308))) = some (r1, r2) := H
  have A3 := Aside0.mk A30
  clear A30
  by_cases c4 : t308 = 0
  · rw [if_pos c4] at H
    have c4b0 : (t308 == 0) = true := beq_iff_eq.mpr c4
    have c4b1 : (t308 != 0) = false := bne_eq_false_iff_eq.mpr c4
    clear c4
    have H' := Aside0.mk H
    clear H
    go_enter Tryd.func58, Tryd.ntmps58
    go_wp2_with (first | (go_at_call 56; (with_reducible refine (metrolabref47_Safe.calls k _ _ l0 _ _ l1 t308 _ ?side1 ?side2 ?side3 ?side4 A3.out).mono ?_); (case side1 => repeat (first | exact HR0.out | (with_reducible refine Kd.C_alloc ?_ _) | (with_reducible refine Kd.C_drewN ?_ _) | (with_reducible refine Kd.C_drew ?_))); (case side2 => exact HC0.out); (case side3 => repeat (first | exact HR1.out | (with_reducible refine Kd.C_alloc ?_ _) | (with_reducible refine Kd.C_drewN ?_ _) | (with_reducible refine Kd.C_drew ?_))); (case side4 => exact HC1.out); rintro e w5 ⟨rfl, hb⟩; have n0_ := Aside0.mk (below_step (by repeat (first | (with_reducible first | exact HB.out | apply below_alloc | apply pw_below_drewN | apply below_drew1) | exact HB.out)) hb); clear HB; have HB := n0_; clear n0_; (try clear hb); (try clear hb2); (try clear hk); (try clear hi)))
    repeat (go_quiet (first | (go_at_call 56; (with_reducible refine (metrolabref47_Safe.calls k _ _ l0 _ _ l1 t308 _ ?side1 ?side2 ?side3 ?side4 A3.out).mono ?_); (case side1 => repeat (first | exact HR0.out | (with_reducible refine Kd.C_alloc ?_ _) | (with_reducible refine Kd.C_drewN ?_ _) | (with_reducible refine Kd.C_drew ?_))); (case side2 => exact HC0.out); (case side3 => repeat (first | exact HR1.out | (with_reducible refine Kd.C_alloc ?_ _) | (with_reducible refine Kd.C_drewN ?_ _) | (with_reducible refine Kd.C_drew ?_))); (case side4 => exact HC1.out); rintro e w5 ⟨rfl, hb⟩; have n0_ := Aside0.mk (below_step (by repeat (first | (with_reducible first | exact HB.out | apply below_alloc | apply pw_below_drewN | apply below_drew1) | exact HB.out)) hb); clear HB; have HB := n0_; clear n0_; (try clear hb); (try clear hb2); (try clear hk); (try clear hi))); try go_wp2_with (first | (go_at_call 56; (with_reducible refine (metrolabref47_Safe.calls k _ _ l0 _ _ l1 t308 _ ?side1 ?side2 ?side3 ?side4 A3.out).mono ?_); (case side1 => repeat (first | exact HR0.out | (with_reducible refine Kd.C_alloc ?_ _) | (with_reducible refine Kd.C_drewN ?_ _) | (with_reducible refine Kd.C_drew ?_))); (case side2 => exact HC0.out); (case side3 => repeat (first | exact HR1.out | (with_reducible refine Kd.C_alloc ?_ _) | (with_reducible refine Kd.C_drewN ?_ _) | (with_reducible refine Kd.C_drew ?_))); (case side4 => exact HC1.out); rintro e w5 ⟨rfl, hb⟩; have n0_ := Aside0.mk (below_step (by repeat (first | (with_reducible first | exact HB.out | apply below_alloc | apply pw_below_drewN | apply below_drew1) | exact HB.out)) hb); clear HB; have HB := n0_; clear n0_; (try clear hb); (try clear hb2); (try clear hk); (try clear hi))))
    go_loopg [7, 8] k (fun kq v7 v8 w' => ∃ (x7_1 : Int) (x8_1 : Int), v7 = .int .i64 x7_1 ∧ v8 = .int .i64 x8_1 ∧ Aside0 (metrolabref47_Loss.l0 kq l0 l1 x7_1 x8_1 = some (r1, r2)) ∧ Aside0 (kq ≤ k) ∧ Aside0 (Below w.heap.size w w'))
    case atStart => exact ⟨(0), (0), (by first | rfl | (simp; done) | (simp [*]; done)), (by first | rfl | (simp; done) | (simp [*]; done)), H', ⟨Nat.le_refl _⟩, ⟨by repeat (first | (with_reducible first | exact HB.out | apply below_alloc | apply pw_below_drewN | apply below_drew1) | exact HB.out)⟩⟩
    case round =>
      clear H'
      try clear c1
      try clear p2
      try clear c4
      try clear c4b0
      try clear c4b1
      try clear c5
      obtain ⟨x7_1, x8_1, rfl, rfl, HA, HK1, HB⟩ := hrel
      cases gk with
      | zero => exact absurd HA.out (by simp [metrolabref47_Loss.l0])
      | succ k1 =>
        have H := HA.out
        clear HA
        simp only [metrolabref47_Loss.l0] at H
        by_cases c6 : x8_1 < (l1.length : Int)
        · rw [if_pos c6] at H
          have c6b0 : decide (x8_1 < (l1.length : Int)) = true := decide_eq_true c6
          clear c6
          by_cases c7 : 0 ≤ x8_1
          · rw [if_pos c7] at H
            have c7b0 : decide (0 ≤ x8_1) = true := decide_eq_true c7
            clear c7
            by_cases c8 : x8_1 < (l0.length : Int)
            · rw [if_pos c8] at H
              have c8b0 : decide (x8_1 < (l0.length : Int)) = true := decide_eq_true c8
              clear c8
              replace H := Option.bind_eq_some_iff.mp H
              obtain ⟨t310, A90, H⟩ := H
              replace H : (metrolabref47_Loss.l0 k1 l0 l1 (mx (mx x7_1 (wrap64 (((rd_T141 l1 x8_1).f2.f1) - t310))) (wrap64 (t310 - ((rd_T141 l1 x8_1).f2.f0)))) (wrap64 (x8_1 + 1))) = some (r1, r2) := H
              have A9 := Aside0.mk A90
              clear A90
              obtain ⟨ji10, hji10⟩ : ∃ j_ : Int, (mx x7_1 (wrap64 (((rd_T141 l1 x8_1).f2.f1) - t310))) = j_ := ⟨_, rfl⟩
              replace H : (metrolabref47_Loss.l0 k1 l0 l1 (mx (ji10) (wrap64 (t310 - ((rd_T141 l1 x8_1).f2.f0)))) (wrap64 (x8_1 + 1))) = some (r1, r2) := by first | (rw [hji10] at H; exact H) | (simp only [hji10] at H ⊢; exact H)
              (try rw [hji10] at A9)
              have hji10_ : (if x7_1 < (wrap64 (((rd_T141 l1 x8_1).f2.f1) - t310)) then (wrap64 (((rd_T141 l1 x8_1).f2.f1) - t310)) else x7_1) = ji10 := hji10
              obtain ⟨ji11, hji11⟩ : ∃ j_ : Int, (mx (ji10) (wrap64 (t310 - ((rd_T141 l1 x8_1).f2.f0)))) = j_ := ⟨_, rfl⟩
              replace H : (metrolabref47_Loss.l0 k1 l0 l1 ji11 (wrap64 (x8_1 + 1))) = some (r1, r2) := by first | (rw [hji11] at H; exact H) | (simp only [hji11] at H ⊢; exact H)
              (try rw [hji11] at A9)
              have hji11_ : (if (ji10) < (wrap64 (t310 - ((rd_T141 l1 x8_1).f2.f0))) then (wrap64 (t310 - ((rd_T141 l1 x8_1).f2.f0))) else (ji10)) = ji11 := hji11
              have H' := Aside0.mk H
              clear H
              have p309 : 0 ≤ (x8_1 : Int) := of_decide_eq_true (by first | (with_reducible assumption) | assumption)
              have q309 : x8_1 < (l0.length : Int) := of_decide_eq_true (by first | (with_reducible assumption) | assumption)
              obtain ⟨ad309, e309, hx309_0, hx309_1, hx309_2, hx309_3, hx309_4, hx309_5, hx309_6⟩ := at_T27 HR0.out x8_1 p309 q309
              cases e309
              replace hx309_0 := (HB.out.cell (World.block_lt_of_cell? w _ hx309_0)).trans hx309_0
              replace hx309_1 := (HB.out.cell (World.block_lt_of_cell? w _ hx309_1)).trans hx309_1
              replace hx309_2 := (HB.out.cell (World.block_lt_of_cell? w _ hx309_2)).trans hx309_2
              replace hx309_3 := (HB.out.cell (World.block_lt_of_cell? w _ hx309_3)).trans hx309_3
              replace hx309_4 := (HB.out.cell (World.block_lt_of_cell? w _ hx309_4)).trans hx309_4
              replace hx309_5 := (HB.out.cell (World.block_lt_of_cell? w _ hx309_5)).trans hx309_5
              replace hx309_6 := (HB.out.cell (World.block_lt_of_cell? w _ hx309_6)).trans hx309_6
              replace p309 := eq_true p309
              replace q309 := eq_true q309
              go_wp2_with (first | (go_at_call 69; (with_reducible refine (metrolabref44_Gauge.calls ((rd_T27 l0 x8_1).f0.f0) ((rd_T27 l0 x8_1).f0.f1) ((rd_T27 l0 x8_1).f1.f0) ((rd_T27 l0 x8_1).f1.f1) ((rd_T27 l0 x8_1).f2) ((rd_T27 l0 x8_1).f3) ((rd_T27 l0 x8_1).f4) t310 _ A9.out).mono ?_); rintro e w12 ⟨rfl, hb⟩; have n0_ := Aside0.mk (below_step (by repeat (first | (with_reducible first | exact HB.out | apply below_alloc | apply pw_below_drewN | apply below_drew1) | exact HB.out)) hb); clear HB; have HB := n0_; clear n0_; (try clear hb); (try clear hb2); (try clear hk); (try clear hi); have p311 : 0 ≤ (x8_1 : Int) := of_decide_eq_true (by first | (with_reducible assumption) | assumption); have q311 : x8_1 < (l1.length : Int) := of_decide_eq_true (by first | (with_reducible assumption) | assumption); obtain ⟨ad311, e311, hx311_0, hx311_1, hx311_2, hx311_3, hx311_4⟩ := at_T141 HR1.out x8_1 p311 q311; cases e311; replace hx311_0 := (HB.out.cell (World.block_lt_of_cell? w _ hx311_0)).trans hx311_0; replace hx311_1 := (HB.out.cell (World.block_lt_of_cell? w _ hx311_1)).trans hx311_1; replace hx311_2 := (HB.out.cell (World.block_lt_of_cell? w _ hx311_2)).trans hx311_2; replace hx311_3 := (HB.out.cell (World.block_lt_of_cell? w _ hx311_3)).trans hx311_3; replace hx311_4 := (HB.out.cell (World.block_lt_of_cell? w _ hx311_4)).trans hx311_4; replace p311 := eq_true p311; replace q311 := eq_true q311; have p312 : 0 ≤ (x8_1 : Int) := of_decide_eq_true (by first | (with_reducible assumption) | assumption); have q312 : x8_1 < (l1.length : Int) := of_decide_eq_true (by first | (with_reducible assumption) | assumption); obtain ⟨ad312, e312, hx312_0, hx312_1, hx312_2, hx312_3, hx312_4⟩ := at_T141 HR1.out x8_1 p312 q312; obtain rfl : ad311 = ad312 := (by injection e312); replace hx312_0 := (HB.out.cell (World.block_lt_of_cell? w _ hx312_0)).trans hx312_0; replace hx312_1 := (HB.out.cell (World.block_lt_of_cell? w _ hx312_1)).trans hx312_1; replace hx312_2 := (HB.out.cell (World.block_lt_of_cell? w _ hx312_2)).trans hx312_2; replace hx312_3 := (HB.out.cell (World.block_lt_of_cell? w _ hx312_3)).trans hx312_3; replace hx312_4 := (HB.out.cell (World.block_lt_of_cell? w _ hx312_4)).trans hx312_4; replace p312 := eq_true p312; replace q312 := eq_true q312))
              repeat (go_quiet (first | (go_at_call 69; (with_reducible refine (metrolabref44_Gauge.calls ((rd_T27 l0 x8_1).f0.f0) ((rd_T27 l0 x8_1).f0.f1) ((rd_T27 l0 x8_1).f1.f0) ((rd_T27 l0 x8_1).f1.f1) ((rd_T27 l0 x8_1).f2) ((rd_T27 l0 x8_1).f3) ((rd_T27 l0 x8_1).f4) t310 _ A9.out).mono ?_); rintro e w12 ⟨rfl, hb⟩; have n0_ := Aside0.mk (below_step (by repeat (first | (with_reducible first | exact HB.out | apply below_alloc | apply pw_below_drewN | apply below_drew1) | exact HB.out)) hb); clear HB; have HB := n0_; clear n0_; (try clear hb); (try clear hb2); (try clear hk); (try clear hi); have p311 : 0 ≤ (x8_1 : Int) := of_decide_eq_true (by first | (with_reducible assumption) | assumption); have q311 : x8_1 < (l1.length : Int) := of_decide_eq_true (by first | (with_reducible assumption) | assumption); obtain ⟨ad311, e311, hx311_0, hx311_1, hx311_2, hx311_3, hx311_4⟩ := at_T141 HR1.out x8_1 p311 q311; cases e311; replace hx311_0 := (HB.out.cell (World.block_lt_of_cell? w _ hx311_0)).trans hx311_0; replace hx311_1 := (HB.out.cell (World.block_lt_of_cell? w _ hx311_1)).trans hx311_1; replace hx311_2 := (HB.out.cell (World.block_lt_of_cell? w _ hx311_2)).trans hx311_2; replace hx311_3 := (HB.out.cell (World.block_lt_of_cell? w _ hx311_3)).trans hx311_3; replace hx311_4 := (HB.out.cell (World.block_lt_of_cell? w _ hx311_4)).trans hx311_4; replace p311 := eq_true p311; replace q311 := eq_true q311; have p312 : 0 ≤ (x8_1 : Int) := of_decide_eq_true (by first | (with_reducible assumption) | assumption); have q312 : x8_1 < (l1.length : Int) := of_decide_eq_true (by first | (with_reducible assumption) | assumption); obtain ⟨ad312, e312, hx312_0, hx312_1, hx312_2, hx312_3, hx312_4⟩ := at_T141 HR1.out x8_1 p312 q312; obtain rfl : ad311 = ad312 := (by injection e312); replace hx312_0 := (HB.out.cell (World.block_lt_of_cell? w _ hx312_0)).trans hx312_0; replace hx312_1 := (HB.out.cell (World.block_lt_of_cell? w _ hx312_1)).trans hx312_1; replace hx312_2 := (HB.out.cell (World.block_lt_of_cell? w _ hx312_2)).trans hx312_2; replace hx312_3 := (HB.out.cell (World.block_lt_of_cell? w _ hx312_3)).trans hx312_3; replace hx312_4 := (HB.out.cell (World.block_lt_of_cell? w _ hx312_4)).trans hx312_4; replace p312 := eq_true p312; replace q312 := eq_true q312)); try go_wp2_with (first | (go_at_call 69; (with_reducible refine (metrolabref44_Gauge.calls ((rd_T27 l0 x8_1).f0.f0) ((rd_T27 l0 x8_1).f0.f1) ((rd_T27 l0 x8_1).f1.f0) ((rd_T27 l0 x8_1).f1.f1) ((rd_T27 l0 x8_1).f2) ((rd_T27 l0 x8_1).f3) ((rd_T27 l0 x8_1).f4) t310 _ A9.out).mono ?_); rintro e w12 ⟨rfl, hb⟩; have n0_ := Aside0.mk (below_step (by repeat (first | (with_reducible first | exact HB.out | apply below_alloc | apply pw_below_drewN | apply below_drew1) | exact HB.out)) hb); clear HB; have HB := n0_; clear n0_; (try clear hb); (try clear hb2); (try clear hk); (try clear hi); have p311 : 0 ≤ (x8_1 : Int) := of_decide_eq_true (by first | (with_reducible assumption) | assumption); have q311 : x8_1 < (l1.length : Int) := of_decide_eq_true (by first | (with_reducible assumption) | assumption); obtain ⟨ad311, e311, hx311_0, hx311_1, hx311_2, hx311_3, hx311_4⟩ := at_T141 HR1.out x8_1 p311 q311; cases e311; replace hx311_0 := (HB.out.cell (World.block_lt_of_cell? w _ hx311_0)).trans hx311_0; replace hx311_1 := (HB.out.cell (World.block_lt_of_cell? w _ hx311_1)).trans hx311_1; replace hx311_2 := (HB.out.cell (World.block_lt_of_cell? w _ hx311_2)).trans hx311_2; replace hx311_3 := (HB.out.cell (World.block_lt_of_cell? w _ hx311_3)).trans hx311_3; replace hx311_4 := (HB.out.cell (World.block_lt_of_cell? w _ hx311_4)).trans hx311_4; replace p311 := eq_true p311; replace q311 := eq_true q311; have p312 : 0 ≤ (x8_1 : Int) := of_decide_eq_true (by first | (with_reducible assumption) | assumption); have q312 : x8_1 < (l1.length : Int) := of_decide_eq_true (by first | (with_reducible assumption) | assumption); obtain ⟨ad312, e312, hx312_0, hx312_1, hx312_2, hx312_3, hx312_4⟩ := at_T141 HR1.out x8_1 p312 q312; obtain rfl : ad311 = ad312 := (by injection e312); replace hx312_0 := (HB.out.cell (World.block_lt_of_cell? w _ hx312_0)).trans hx312_0; replace hx312_1 := (HB.out.cell (World.block_lt_of_cell? w _ hx312_1)).trans hx312_1; replace hx312_2 := (HB.out.cell (World.block_lt_of_cell? w _ hx312_2)).trans hx312_2; replace hx312_3 := (HB.out.cell (World.block_lt_of_cell? w _ hx312_3)).trans hx312_3; replace hx312_4 := (HB.out.cell (World.block_lt_of_cell? w _ hx312_4)).trans hx312_4; replace p312 := eq_true p312; replace q312 := eq_true q312)))
              go_roundg k1
              case measure => have := HK1.out; omega
              case rel => exact ⟨(ji11), (wrap64 (x8_1 + 1)), (by first | rfl | (simp; done) | (simp only [← hji11] <;> (first | rfl | simp)) | (simp [*]; done)), (by first | rfl | (simp; done) | (simp [*]; done)), H', ⟨by have := HK1.out; omega⟩, ⟨by repeat (first | (with_reducible first | exact HB.out | apply below_alloc | apply pw_below_drewN | apply below_drew1) | exact HB.out)⟩⟩
            · rw [if_neg c8] at H
              exact absurd H (by simp)
          · rw [if_neg c7] at H
            exact absurd H (by simp)
        · rw [if_neg c6] at H
          have c6b0 : decide (x8_1 < (l1.length : Int)) = false := decide_eq_false c6
          clear c6
          simp only [Option.some.injEq, Prod.mk.injEq] at H
          obtain ⟨rfl, rfl⟩ := H
          go_wp2
          repeat (go_quiet (fail); try go_wp2)
          go_ret2
          exact ⟨by first | rfl | (simp [errW_none, errW_some] <;> rfl) | (simp [*, errW_none, errW_some] <;> rfl), by repeat (first | (with_reducible first | exact HB.out | apply below_alloc | apply pw_below_drewN | apply below_drew1) | exact HB.out)⟩
  · rw [if_neg c4] at H
    have c4b0 : (t308 == 0) = false := beq_eq_false_iff_ne.mpr c4
    have c4b1 : (t308 != 0) = true := bne_iff_ne.mpr c4
    simp only [Option.some.injEq, Prod.mk.injEq] at H
    obtain ⟨rfl, rfl⟩ := H
    go_enter Tryd.func58, Tryd.ntmps58
    go_wp2_with (first | (go_at_call 56; (with_reducible refine (metrolabref47_Safe.calls k _ _ l0 _ _ l1 t308 _ ?side1 ?side2 ?side3 ?side4 A3.out).mono ?_); (case side1 => repeat (first | exact HR0.out | (with_reducible refine Kd.C_alloc ?_ _) | (with_reducible refine Kd.C_drewN ?_ _) | (with_reducible refine Kd.C_drew ?_))); (case side2 => exact HC0.out); (case side3 => repeat (first | exact HR1.out | (with_reducible refine Kd.C_alloc ?_ _) | (with_reducible refine Kd.C_drewN ?_ _) | (with_reducible refine Kd.C_drew ?_))); (case side4 => exact HC1.out); rintro e w13 ⟨rfl, hb⟩; have n0_ := Aside0.mk (below_step (by repeat (first | (with_reducible first | exact HB.out | apply below_alloc | apply pw_below_drewN | apply below_drew1) | exact HB.out)) hb); clear HB; have HB := n0_; clear n0_; (try clear hb); (try clear hb2); (try clear hk); (try clear hi)))
    repeat (go_quiet (first | (go_at_call 56; (with_reducible refine (metrolabref47_Safe.calls k _ _ l0 _ _ l1 t308 _ ?side1 ?side2 ?side3 ?side4 A3.out).mono ?_); (case side1 => repeat (first | exact HR0.out | (with_reducible refine Kd.C_alloc ?_ _) | (with_reducible refine Kd.C_drewN ?_ _) | (with_reducible refine Kd.C_drew ?_))); (case side2 => exact HC0.out); (case side3 => repeat (first | exact HR1.out | (with_reducible refine Kd.C_alloc ?_ _) | (with_reducible refine Kd.C_drewN ?_ _) | (with_reducible refine Kd.C_drew ?_))); (case side4 => exact HC1.out); rintro e w13 ⟨rfl, hb⟩; have n0_ := Aside0.mk (below_step (by repeat (first | (with_reducible first | exact HB.out | apply below_alloc | apply pw_below_drewN | apply below_drew1) | exact HB.out)) hb); clear HB; have HB := n0_; clear n0_; (try clear hb); (try clear hb2); (try clear hk); (try clear hi))); try go_wp2_with (first | (go_at_call 56; (with_reducible refine (metrolabref47_Safe.calls k _ _ l0 _ _ l1 t308 _ ?side1 ?side2 ?side3 ?side4 A3.out).mono ?_); (case side1 => repeat (first | exact HR0.out | (with_reducible refine Kd.C_alloc ?_ _) | (with_reducible refine Kd.C_drewN ?_ _) | (with_reducible refine Kd.C_drew ?_))); (case side2 => exact HC0.out); (case side3 => repeat (first | exact HR1.out | (with_reducible refine Kd.C_alloc ?_ _) | (with_reducible refine Kd.C_drewN ?_ _) | (with_reducible refine Kd.C_drew ?_))); (case side4 => exact HC1.out); rintro e w13 ⟨rfl, hb⟩; have n0_ := Aside0.mk (below_step (by repeat (first | (with_reducible first | exact HB.out | apply below_alloc | apply pw_below_drewN | apply below_drew1) | exact HB.out)) hb); clear HB; have HB := n0_; clear n0_; (try clear hb); (try clear hb2); (try clear hk); (try clear hi))))
    go_ret2
    exact ⟨by first | rfl | (simp [errW_none, errW_some] <;> rfl) | (simp [*, errW_none, errW_some] <;> rfl), by repeat (first | (with_reducible first | exact HB.out | apply below_alloc | apply pw_below_drewN | apply below_drew1) | exact HB.out)⟩
end Go.Proofs.YtjemaonejkepcaaDoor.G
namespace Go.Proofs.YtjemaonejkepcaaDoor.G
open Go.Proofs.YtjemaonejkepcaaDoor.B
open Go.RowKit Go.Proofs.YtjemaonejkepcaaDoorW.PrintWords Go.Proofs.YtjemaonejkepcaaDoorW.PrintLast Go.Proofs.YtjemaonejkepcaaDoorW.PrintMore
attribute [local go_sem] max2_int min2_int max_two min_two max_three min_three max_four min_four   -- for this text's walks alone
set_option linter.unusedVariables false
set_option linter.unusedSimpArgs false
def metrolabref47_Made.l0 : Nat → List (S141) → Bool → List (S142) → Int → Option ((List (S142)) × Int)
  | 0, _, _, _, _ => none
  | k + 1, x0, x1, x6, x7 => if x7 < (x0.length : Int) then (if 0 ≤ x7 then ((metrolabref47_limits.f k ((rd_T141 x0 x7).f0.f0) ((rd_T141 x0 x7).f0.f1) ((rd_T141 x0 x7).f1) ((rd_T141 x0 x7).f2.f0) ((rd_T141 x0 x7).f2.f1)).bind fun t314 => (if t314 = 0 then (if x1 = true then (if x6.length < 4398046511104 then (metrolabref47_Made.l0 k x0 x1 (x6 ++ [(⟨(⟨(rd_T141 x0 x7).f0.f0, (rd_T141 x0 x7).f0.f1⟩ : S23), (rd_T141 x0 x7).f1, (rd_T141 x0 x7).f2.f1⟩ : S142)]) (wrap64 (x7 + 1))) else (none)) else (if x6.length < 4398046511104 then (metrolabref47_Made.l0 k x0 x1 (x6 ++ [(⟨(⟨(rd_T141 x0 x7).f0.f0, (rd_T141 x0 x7).f0.f1⟩ : S23), (rd_T141 x0 x7).f1, (rd_T141 x0 x7).f2.f0⟩ : S142)]) (wrap64 (x7 + 1))) else (none))) else (some (([] : List (S142)), t314)))) else (none)) else (some (x6, 0))
def metrolabref47_Made.f (k : Nat) (l0 : List (S141)) (a1 : Bool) : Option ((List (S142)) × Int) := if (l0.length : Int) > 16 then (some (([] : List (S142)), 5)) else (metrolabref47_Made.l0 k l0 a1 ([] : List (S142)) 0)
theorem metrolabref47_Made.mono_l : ∀ k, (∀ y0 y1 y2 y3, LeO (metrolabref47_Made.l0 k y0 y1 y2 y3) (metrolabref47_Made.l0 (k + 1) y0 y1 y2 y3))
  | 0 => fun _ _ _ _ r h => by simp [metrolabref47_Made.l0] at h
  | k + 1 => by
    have ih0 := metrolabref47_Made.mono_l k
    · intro y0 y1 y2 y3
      unfold metrolabref47_Made.l0
      repeat' first
      | (with_reducible exact ih0 _ _ _ _)
      | (with_reducible exact metrolabref47_limits.mono _ _ _ _ _ _)
      | (with_reducible exact LeO.refl _)
      | (with_reducible exact LeO.none _)
      | (with_reducible refine LeO.ite ?_ ?_)
      | (with_reducible refine LeO.bind ?_ (fun _ => ?_))
      | exact ih0 _ _ _ _
      | exact metrolabref47_limits.mono _ _ _ _ _ _
      | exact LeO.none _
      | refine LeO.ite ?_ ?_
      | refine LeO.bind ?_ (fun _ => ?_)
theorem metrolabref47_Made.mono : ∀ a0 a1 k, LeO (metrolabref47_Made.f k a0 a1) (metrolabref47_Made.f (k + 1) a0 a1) := by
  intro a0 a1 k
  have ih0 := metrolabref47_Made.mono_l k
  unfold metrolabref47_Made.f
  repeat' first
      | (with_reducible exact ih0 _ _ _ _)
      | (with_reducible exact metrolabref47_limits.mono _ _ _ _ _ _)
      | (with_reducible exact LeO.refl _)
      | (with_reducible exact LeO.none _)
      | (with_reducible refine LeO.ite ?_ ?_)
      | (with_reducible refine LeO.bind ?_ (fun _ => ?_))
      | exact ih0 _ _ _ _
      | exact metrolabref47_limits.mono _ _ _ _ _ _
      | exact LeO.none _
      | refine LeO.ite ?_ ?_
      | refine LeO.bind ?_ (fun _ => ?_)
def metrolabref47_Made.T13 : Bool × List (List Nat × List Nat) := (true, [([], []), ([], []), ([], []), ([1, 2], [1, 2]), ([3], [3]), ([4], [4]), ([], []), ([], []), ([6, 7], [6, 7]), ([8], [8]), ([9], [9]), ([], []), ([5, 10, 11], [5, 10, 11]), ([12], [12]), ([0, 13], [0, 13]), ([14, 14, 0, 1, 2, 3, 4, 5, 6, 7, 8, 9, 10, 11, 12, 13, 14], [0, 14])])
def metrolabref47_Made.B13 : List Nat := [0, 0, 0, 6, 14, 30, 0, 0, 192, 448, 960, 0, 4094, 8190, 16383, 32767]
theorem metrolabref47_Made.tab13 : rtab .any (opsOf Tryd.f59 13) = metrolabref47_Made.T13 := by kernel_rfl
theorem metrolabref47_Made.bits13 : waitsOk metrolabref47_Made.T13.2 metrolabref47_Made.B13 = true := by kernel_rfl
set_option maxHeartbeats 8000000 in
set_option maxRecDepth 100000 in
theorem metrolabref47_Made.calls (k : Nat) (A0 : Option Addr) (c0 : Nat) (l0 : List (S141)) (a1 : Bool) (r1 : List (S142)) (r2 : Int) (w : World) (hr0 : Kd.C k141 w A0 l0.length l0) (hc0 : l0.length ≤ c0) (h : metrolabref47_Made.f k l0 a1 = some (r1, r2)) :
    Calls Tryd.prog 59 #[.slice A0 l0.length c0, .bool a1] w fun e w' => ∃ v0_ : Value, e = .returned (.tuple #[v0_, .int .i64 r2]) ∧ Kd.R k142 142 w' w.heap.size (fun _ => True) v0_ r1 ∧ Below w.heap.size w w' := by
  have hu141 := Tryd.underlying141
  have hu23 := Tryd.underlying23
  have hu142 := Tryd.underlying142
  have HR0 := Aside0.mk hr0
  have HC0 := Aside0.mk hc0
  clear hr0 hc0
  have HB := Aside0.mk (Below.refl w.heap.size w)
  have H : (if (l0.length : Int) > 16 then (some (([] : List (S142)), 5)) else (metrolabref47_Made.l0 k l0 a1 ([] : List (S142)) 0)) = some (r1, r2) := h
  clear h
  by_cases c3 : (l0.length : Int) > 16
  · rw [if_pos c3] at H
    have c3b0 : decide (16 < (l0.length : Int)) = true := decide_eq_true c3
    have c3b1 : decide (16 < l0.length) = true := decide_eq_true (by omega)
    clear c3
    simp only [Option.some.injEq, Prod.mk.injEq] at H
    obtain ⟨rfl, rfl⟩ := H
    go_enter Tryd.func59, Tryd.ntmps59
    go_wp2
    go_ret2
    exact ⟨_, by first | rfl | (simp [errW_none, errW_some] <;> rfl) | (simp [*, errW_none, errW_some] <;> rfl), by first | exact Kd.R_nil _ _ _ _ _ | exact Kd.N_nil _ _ _ _ _ | exact Kd.V_nil _ _ _ _ _ | exact Kd.Q_nil _ _ _ _ _ | exact Kd.S_nil _ _ _ _ _, by repeat (first | (with_reducible first | exact HB.out | apply below_alloc | apply pw_below_drewN | apply below_drew1) | exact HB.out)⟩
  · rw [if_neg c3] at H
    have c3b0 : decide (16 < (l0.length : Int)) = false := decide_eq_false c3
    have c3b1 : decide (16 < l0.length) = false := decide_eq_false (by omega)
    clear c3
    have H' := Aside0.mk H
    clear H
    go_enter Tryd.func59, Tryd.ntmps59
    go_wp2
    go_loopg [6, 7] k (fun kq v6 v7 w' => ∃ (x6_1 : List (S142)) (x7_1 : Int), v7 = .int .i64 x7_1 ∧ Aside0 (metrolabref47_Made.l0 kq l0 a1 x6_1 x7_1 = some (r1, r2)) ∧ Aside0 (kq ≤ k) ∧ Aside0 (Kd.R k142 142 w' w.heap.size (fun _ => True) v6 x6_1) ∧ Aside0 (Below w.heap.size w w'))
    case atStart => exact ⟨(([] : List (S142))), (0), (by first | rfl | (simp; done) | (simp [*]; done)), H', ⟨Nat.le_refl _⟩, ⟨by first | exact Kd.R_nil _ _ _ _ _ | exact Kd.N_nil _ _ _ _ _ | exact Kd.V_nil _ _ _ _ _ | exact Kd.Q_nil _ _ _ _ _ | exact Kd.S_nil _ _ _ _ _⟩, ⟨by repeat (first | (with_reducible first | exact HB.out | apply below_alloc | apply pw_below_drewN | apply below_drew1) | exact HB.out)⟩⟩
    case round =>
      clear H'
      try clear p2
      try clear c3
      try clear c3b0
      try clear c3b1
      obtain ⟨x6_1, x7_1, rfl, HA, HK1, HO_6, HB⟩ := hrel
      cases gk with
      | zero => exact absurd HA.out (by simp [metrolabref47_Made.l0])
      | succ k1 =>
        have H := HA.out
        clear HA
        simp only [metrolabref47_Made.l0] at H
        by_cases c4 : x7_1 < (l0.length : Int)
        · rw [if_pos c4] at H
          have c4b0 : decide (x7_1 < (l0.length : Int)) = true := decide_eq_true c4
          clear c4
          by_cases c5 : 0 ≤ x7_1
          · rw [if_pos c5] at H
            have c5b0 : decide (0 ≤ x7_1) = true := decide_eq_true c5
            clear c5
            replace H := Option.bind_eq_some_iff.mp H
            obtain ⟨t314, A60, H⟩ := H
            replace H : (if t314 = 0 then (if a1 = true then (if x6_1.length < 4398046511104 then (metrolabref47_Made.l0 k1 l0 a1 (x6_1 ++ [(⟨(⟨(rd_T141 l0 x7_1).f0.f0, (rd_T141 l0 x7_1).f0.f1⟩ : S23), (rd_T141 l0 x7_1).f1, (rd_T141 l0 x7_1).f2.f1⟩ : S142)]) (wrap64 (x7_1 + 1))) else (none)) else (if x6_1.length < 4398046511104 then (metrolabref47_Made.l0 k1 l0 a1 (x6_1 ++ [(⟨(⟨(rd_T141 l0 x7_1).f0.f0, (rd_T141 l0 x7_1).f0.f1⟩ : S23), (rd_T141 l0 x7_1).f1, (rd_T141 l0 x7_1).f2.f0⟩ : S142)]) (wrap64 (x7_1 + 1))) else (none))) else (some (([] : List (S142)), t314))) = some (r1, r2) := H
            have A6 := Aside0.mk A60
            clear A60
            by_cases c7 : t314 = 0
            · rw [if_pos c7] at H
              have c7b0 : (t314 == 0) = true := beq_iff_eq.mpr c7
              have c7b1 : (t314 != 0) = false := bne_eq_false_iff_eq.mpr c7
              clear c7
              by_cases c8 : a1 = true
              · subst c8
                have H1 : (if x6_1.length < 4398046511104 then (metrolabref47_Made.l0 k1 l0 true (x6_1 ++ [(⟨(⟨(rd_T141 l0 x7_1).f0.f0, (rd_T141 l0 x7_1).f0.f1⟩ : S23), (rd_T141 l0 x7_1).f1, (rd_T141 l0 x7_1).f2.f1⟩ : S142)]) (wrap64 (x7_1 + 1))) else (none)) = some (r1, r2) := by rw [if_pos rfl] at H; exact H
                clear H
                have H := H1
                clear H1
                by_cases c9 : x6_1.length < 4398046511104
                · rw [if_pos c9] at H
                  have LMc9 := Aside0.mk c9
                  clear c9
                  obtain ⟨y319, hy319⟩ : ∃ y_ : List (S142), y_ = (x6_1 ++ [(⟨(⟨(rd_T141 l0 x7_1).f0.f0, (rd_T141 l0 x7_1).f0.f1⟩ : S23), (rd_T141 l0 x7_1).f1, (rd_T141 l0 x7_1).f2.f1⟩ : S142)]) := ⟨_, rfl⟩
                  replace H : (metrolabref47_Made.l0 k1 l0 true y319 (wrap64 (x7_1 + 1))) = some (r1, r2) := by first | (rw [hy319]; with_reducible exact H) | (have H2_ := (Option.bind_some _ _).symm.trans H; rw [hy319]; with_reducible exact H2_) | (have H2_ := (Option.bind_some _ _).symm.trans H; with_reducible exact H2_) | with_reducible exact H | (rw [hy319]; exact H) | exact H
                  have Ny319 := Aside0.mk hy319
                  clear hy319
                  have H' := Aside0.mk H
                  clear H
                  have p313 : 0 ≤ (x7_1 : Int) := of_decide_eq_true (by first | (with_reducible assumption) | assumption)
                  have q313 : x7_1 < (l0.length : Int) := of_decide_eq_true (by first | (with_reducible assumption) | assumption)
                  obtain ⟨ad313, e313, hx313_0, hx313_1, hx313_2, hx313_3, hx313_4⟩ := at_T141 HR0.out x7_1 p313 q313
                  cases e313
                  replace hx313_0 := (HB.out.cell (World.block_lt_of_cell? w _ hx313_0)).trans hx313_0
                  replace hx313_1 := (HB.out.cell (World.block_lt_of_cell? w _ hx313_1)).trans hx313_1
                  replace hx313_2 := (HB.out.cell (World.block_lt_of_cell? w _ hx313_2)).trans hx313_2
                  replace hx313_3 := (HB.out.cell (World.block_lt_of_cell? w _ hx313_3)).trans hx313_3
                  replace hx313_4 := (HB.out.cell (World.block_lt_of_cell? w _ hx313_4)).trans hx313_4
                  replace p313 := eq_true p313
                  replace q313 := eq_true q313
                  try go_wp2_with (first | ((with_reducible refine gate_callee (f := 101) rfl ?_); refine goesL_ (some 23) rfl rfl Tryd.func101 (by kernel_rfl) rfl #[.agg #[.int .i64 ((rd_T141 l0 x7_1).f0.f0), .int .i64 ((rd_T141 l0 x7_1).f0.f1), .bool ((rd_T141 l0 x7_1).f1), .int .i64 ((rd_T141 l0 x7_1).f2.f0), .int .i64 ((rd_T141 l0 x7_1).f2.f1)]] rfl (by (try simp only [List.map_toArray, List.map_cons, List.map_nil]); first | done | rfl | (simp only [List.length_drop, List.length_take]; rfl)) ?_; (with_reducible refine (metrolabref47_limits.calls k1 ((rd_T141 l0 x7_1).f0.f0) ((rd_T141 l0 x7_1).f0.f1) ((rd_T141 l0 x7_1).f1) ((rd_T141 l0 x7_1).f2.f0) ((rd_T141 l0 x7_1).f2.f1) t314 _ A6.out).mono ?_); rintro e w10 ⟨rfl, hb⟩; refine ⟨_, rfl, ?_⟩; have n0_ := Aside0.mk (Kd.R_below (by (with_reducible repeat (first | apply Kd.R_alloc | apply Kd.R_drewN | apply Kd.R_drew)); exact HO_6.out) hb); have n1_ := Aside0.mk (below_step (by repeat (first | (with_reducible first | exact HB.out | apply below_alloc | apply pw_below_drewN | apply below_drew1) | exact HB.out)) hb); clear HO_6; clear HB; have HO_6 := n0_; have HB := n1_; clear n0_ n1_; (try clear hb); (try clear hb2); (try clear hk); (try clear hi); have p315 : 0 ≤ (x7_1 : Int) := of_decide_eq_true (by first | (with_reducible assumption) | assumption); have q315 : x7_1 < (l0.length : Int) := of_decide_eq_true (by first | (with_reducible assumption) | assumption); obtain ⟨ad315, e315, hx315_0, hx315_1, hx315_2, hx315_3, hx315_4⟩ := at_T141 HR0.out x7_1 p315 q315; obtain rfl : ad313 = ad315 := (by injection e315); replace hx315_0 := (HB.out.cell (World.block_lt_of_cell? w _ hx315_0)).trans hx315_0; replace hx315_1 := (HB.out.cell (World.block_lt_of_cell? w _ hx315_1)).trans hx315_1; replace hx315_2 := (HB.out.cell (World.block_lt_of_cell? w _ hx315_2)).trans hx315_2; replace hx315_3 := (HB.out.cell (World.block_lt_of_cell? w _ hx315_3)).trans hx315_3; replace hx315_4 := (HB.out.cell (World.block_lt_of_cell? w _ hx315_4)).trans hx315_4; replace p315 := eq_true p315; replace q315 := eq_true q315; have p316 : 0 ≤ (x7_1 : Int) := of_decide_eq_true (by first | (with_reducible assumption) | assumption); have q316 : x7_1 < (l0.length : Int) := of_decide_eq_true (by first | (with_reducible assumption) | assumption); obtain ⟨ad316, e316, hx316_0, hx316_1, hx316_2, hx316_3, hx316_4⟩ := at_T141 HR0.out x7_1 p316 q316; obtain rfl : ad313 = ad316 := (by injection e316); replace hx316_0 := (HB.out.cell (World.block_lt_of_cell? w _ hx316_0)).trans hx316_0; replace hx316_1 := (HB.out.cell (World.block_lt_of_cell? w _ hx316_1)).trans hx316_1; replace hx316_2 := (HB.out.cell (World.block_lt_of_cell? w _ hx316_2)).trans hx316_2; replace hx316_3 := (HB.out.cell (World.block_lt_of_cell? w _ hx316_3)).trans hx316_3; replace hx316_4 := (HB.out.cell (World.block_lt_of_cell? w _ hx316_4)).trans hx316_4; replace p316 := eq_true p316; replace q316 := eq_true q316))
                  have n0_ := Aside0.mk (Kd.R_drew HO_6.out)
                  have n1_ := Aside0.mk (below_drew1 HB.out)
                  clear HO_6
                  clear HB
                  have HO_6 := n0_
                  have HB := n1_
                  clear n0_ n1_
                  have p317 : 0 ≤ (x7_1 : Int) := of_decide_eq_true (by first | (with_reducible assumption) | assumption)
                  have q317 : x7_1 < (l0.length : Int) := of_decide_eq_true (by first | (with_reducible assumption) | assumption)
                  obtain ⟨ad317, e317, hx317_0, hx317_1, hx317_2, hx317_3, hx317_4⟩ := at_T141 HR0.out x7_1 p317 q317
                  have hw317_4 := hx317_4
                  have hw317_3 := hx317_3
                  have hw317_2 := hx317_2
                  have hw317_1 := hx317_1
                  have hw317_0 := hx317_0
                  obtain rfl : ad313 = ad317 := (by injection e317)
                  replace hx317_0 := (HB.out.cell (World.block_lt_of_cell? w _ hx317_0)).trans hx317_0
                  replace hx317_1 := (HB.out.cell (World.block_lt_of_cell? w _ hx317_1)).trans hx317_1
                  replace hx317_2 := (HB.out.cell (World.block_lt_of_cell? w _ hx317_2)).trans hx317_2
                  replace hx317_3 := (HB.out.cell (World.block_lt_of_cell? w _ hx317_3)).trans hx317_3
                  replace hx317_4 := (HB.out.cell (World.block_lt_of_cell? w _ hx317_4)).trans hx317_4
                  replace p317 := eq_true p317
                  replace q317 := eq_true q317
                  have p318 : 0 ≤ (x7_1 : Int) := of_decide_eq_true (by first | (with_reducible assumption) | assumption)
                  have q318 : x7_1 < (l0.length : Int) := of_decide_eq_true (by first | (with_reducible assumption) | assumption)
                  obtain ⟨ad318, e318, hx318_0, hx318_1, hx318_2, hx318_3, hx318_4⟩ := at_T141 HR0.out x7_1 p318 q318
                  have hw318_4 := hx318_4
                  have hw318_3 := hx318_3
                  have hw318_2 := hx318_2
                  have hw318_1 := hx318_1
                  have hw318_0 := hx318_0
                  obtain rfl : ad313 = ad318 := (by injection e318)
                  replace hx318_0 := (HB.out.cell (World.block_lt_of_cell? w _ hx318_0)).trans hx318_0
                  replace hx318_1 := (HB.out.cell (World.block_lt_of_cell? w _ hx318_1)).trans hx318_1
                  replace hx318_2 := (HB.out.cell (World.block_lt_of_cell? w _ hx318_2)).trans hx318_2
                  replace hx318_3 := (HB.out.cell (World.block_lt_of_cell? w _ hx318_3)).trans hx318_3
                  replace hx318_4 := (HB.out.cell (World.block_lt_of_cell? w _ hx318_4)).trans hx318_4
                  replace p318 := eq_true p318
                  replace q318 := eq_true q318
                  refine start_ (n := 16) (S := fun w' => w'.cell? (ad313.add ((x7_1).toNat * 5)) = some (.int .i64 ((rd_T141 l0 x7_1).f0.f0)) ∧ w'.cell? ⟨(ad313.add ((x7_1).toNat * 5)).block, (ad313.add ((x7_1).toNat * 5)).off + 1, none⟩ = some (.int .i64 ((rd_T141 l0 x7_1).f0.f1)) ∧ w'.cell? ⟨(ad313.add ((x7_1).toNat * 5)).block, (ad313.add ((x7_1).toNat * 5)).off + 2, none⟩ = some (.bool ((rd_T141 l0 x7_1).f1)) ∧ w'.cell? ⟨(ad313.add ((x7_1).toNat * 5)).block, (ad313.add ((x7_1).toNat * 5)).off + 3, none⟩ = some (.int .i64 ((rd_T141 l0 x7_1).f2.f0)) ∧ w'.cell? ⟨(ad313.add ((x7_1).toNat * 5)).block, (ad313.add ((x7_1).toNat * 5)).off + 4, none⟩ = some (.int .i64 ((rd_T141 l0 x7_1).f2.f1)) ∧ w'.cell? (ad313.add ((x7_1).toNat * 5)) = some (.int .i64 ((rd_T141 l0 x7_1).f0.f0)) ∧ w'.cell? ⟨(ad313.add ((x7_1).toNat * 5)).block, (ad313.add ((x7_1).toNat * 5)).off + 1, none⟩ = some (.int .i64 ((rd_T141 l0 x7_1).f0.f1)) ∧ w'.cell? ⟨(ad313.add ((x7_1).toNat * 5)).block, (ad313.add ((x7_1).toNat * 5)).off + 2, none⟩ = some (.bool ((rd_T141 l0 x7_1).f1)) ∧ w'.cell? ⟨(ad313.add ((x7_1).toNat * 5)).block, (ad313.add ((x7_1).toNat * 5)).off + 3, none⟩ = some (.int .i64 ((rd_T141 l0 x7_1).f2.f0)) ∧ w'.cell? ⟨(ad313.add ((x7_1).toNat * 5)).block, (ad313.add ((x7_1).toNat * 5)).off + 4, none⟩ = some (.int .i64 ((rd_T141 l0 x7_1).f2.f1))) (ds := []) #[false, false, false, false, false, false, false, false, false, false, false, false, false, false, false, false] (by kernel_rfl) rfl rfl ⟨((HB.out.cell (World.block_lt_of_cell? w _ hw317_0)).trans hw317_0), ((HB.out.cell (World.block_lt_of_cell? w _ hw317_1)).trans hw317_1), ((HB.out.cell (World.block_lt_of_cell? w _ hw317_2)).trans hw317_2), ((HB.out.cell (World.block_lt_of_cell? w _ hw317_3)).trans hw317_3), ((HB.out.cell (World.block_lt_of_cell? w _ hw317_4)).trans hw317_4), ((HB.out.cell (World.block_lt_of_cell? w _ hw318_0)).trans hw318_0), ((HB.out.cell (World.block_lt_of_cell? w _ hw318_1)).trans hw318_1), ((HB.out.cell (World.block_lt_of_cell? w _ hw318_2)).trans hw318_2), ((HB.out.cell (World.block_lt_of_cell? w _ hw318_3)).trans hw318_3), ((HB.out.cell (World.block_lt_of_cell? w _ hw318_4)).trans hw318_4)⟩ (fun hHeld => ?_); refine with_tabW metrolabref47_Made.tab13 metrolabref47_Made.bits13 (fun HT_ HW_ => ?_)
                  generalize w10.drew = w11 at HO_6 HB hx317_0 hx317_1 hx317_2 hx317_3 hx317_4 hx318_0 hx318_1 hx318_2 hx318_3 hx318_4 hHeld ⊢
                  refine pure_ (i := 0) (N := some 40) (v := ?_) (a' := ?_) #[true, false, false, false, false, false, false, false, false, false, false, false, false, false, false, false] rfl rfl (any_of HT_.out (by kernel_rfl)) (fun _ _ _ h => h) (Or.inl ⟨by rfl, ?_⟩) ?_ ?_
                  rotate_left
                  · intro w'
                    go_simp
                    with_reducible rfl
                  rotate_left
                  · simp only [Act.put, List.setIfInBounds_toArray, List.set_cons_zero, List.set_cons_succ, i64_w, i32_w]
                    rfl
                  refine pure_ (i := 1) (N := some 41) (v := ?_) (a' := ?_) #[true, true, false, false, false, false, false, false, false, false, false, false, false, false, false, false] rfl rfl (any_of HT_.out (by kernel_rfl)) (fun _ _ _ h => h) (Or.inl ⟨by rfl, ?_⟩) ?_ ?_
                  rotate_left
                  · intro w'
                    go_simp
                    with_reducible rfl
                  rotate_left
                  · simp only [Act.put, List.setIfInBounds_toArray, List.set_cons_zero, List.set_cons_succ, i64_w, i32_w]
                    rfl
                  refine pure_ (i := 2) (N := some 42) (v := ?_) (a' := ?_) #[true, true, true, false, false, false, false, false, false, false, false, false, false, false, false, false] rfl rfl (any_of HT_.out (by kernel_rfl)) (fun _ _ _ h => h) (Or.inl ⟨by rfl, ?_⟩) ?_ ?_
                  rotate_left
                  · intro w'
                    go_simp
                    with_reducible rfl
                  rotate_left
                  · simp only [Act.put, List.setIfInBounds_toArray, List.set_cons_zero, List.set_cons_succ, i64_w, i32_w]
                    rfl
                  refine pure_ (i := 3) (N := some 43) (v := ?_) (a' := ?_) #[true, true, true, true, false, false, false, false, false, false, false, false, false, false, false, false] rfl rfl (any_of HT_.out (by kernel_rfl)) (fun _ _ _ h => h) (Or.inl ⟨by rfl, ?_⟩) ?_ ?_
                  rotate_left
                  · intro w'
                    go_simp
                    with_reducible rfl
                  rotate_left
                  · simp only [Act.put, List.setIfInBounds_toArray, List.set_cons_zero, List.set_cons_succ, i64_w, i32_w]
                    rfl
                  refine pure_ (i := 4) (N := some 44) (v := ?_) (a' := ?_) #[true, true, true, true, true, false, false, false, false, false, false, false, false, false, false, false] rfl rfl (any_of HT_.out (by kernel_rfl)) (fun _ _ _ h => h) (Or.inl ⟨by rfl, ?_⟩) ?_ ?_
                  rotate_left
                  · intro w'
                    go_simp
                    with_reducible rfl
                  rotate_left
                  · simp only [Act.put, List.setIfInBounds_toArray, List.set_cons_zero, List.set_cons_succ, i64_w, i32_w]
                    rfl
                  refine pure_ (i := 6) (N := some 46) (v := ?_) (a' := ?_) #[true, true, true, true, true, false, true, false, false, false, false, false, false, false, false, false] rfl rfl (any_of HT_.out (by kernel_rfl)) (fun _ _ _ h => h) (Or.inl ⟨by rfl, ?_⟩) ?_ ?_
                  rotate_left
                  · intro w'
                    go_simp
                    with_reducible rfl
                  rotate_left
                  · simp only [Act.put, List.setIfInBounds_toArray, List.set_cons_zero, List.set_cons_succ, i64_w, i32_w]
                    rfl
                  refine pure_ (i := 7) (N := some 47) (v := ?_) (a' := ?_) #[true, true, true, true, true, false, true, true, false, false, false, false, false, false, false, false] rfl rfl (any_of HT_.out (by kernel_rfl)) (fun _ _ _ h => h) (Or.inl ⟨by rfl, ?_⟩) ?_ ?_
                  rotate_left
                  · intro w'
                    go_simp
                    with_reducible rfl
                  rotate_left
                  · simp only [Act.put, List.setIfInBounds_toArray, List.set_cons_zero, List.set_cons_succ, i64_w, i32_w]
                    rfl
                  refine pure_ (i := 8) (N := some 48) (v := ?_) (a' := ?_) #[true, true, true, true, true, false, true, true, true, false, false, false, false, false, false, false] rfl rfl (any_of HT_.out (by kernel_rfl)) (fun _ _ _ h => h) (Or.inl ⟨by rfl, ?_⟩) ?_ ?_
                  rotate_left
                  · intro w'
                    go_simp
                    with_reducible rfl
                  rotate_left
                  · simp only [Act.put, List.setIfInBounds_toArray, List.set_cons_zero, List.set_cons_succ, i64_w, i32_w]
                    rfl
                  refine pure_ (i := 9) (N := some 49) (v := ?_) (a' := ?_) #[true, true, true, true, true, false, true, true, true, true, false, false, false, false, false, false] rfl rfl (any_of HT_.out (by kernel_rfl)) (fun _ _ _ h => h) (Or.inl ⟨by rfl, ?_⟩) ?_ ?_
                  rotate_left
                  · intro w'
                    go_simp
                    with_reducible rfl
                  rotate_left
                  · simp only [Act.put, List.setIfInBounds_toArray, List.set_cons_zero, List.set_cons_succ, i64_w, i32_w]
                    rfl
                  refine pure_ (i := 11) (N := some 51) (v := ?_) (a' := ?_) #[true, true, true, true, true, false, true, true, true, true, false, true, false, false, false, false] rfl rfl (any_of HT_.out (by kernel_rfl)) (fun _ _ _ h => h) (Or.inl ⟨by rfl, ?_⟩) ?_ ?_
                  rotate_left
                  · intro w'
                    go_simp
                    with_reducible rfl
                  rotate_left
                  · simp only [Act.put, List.setIfInBounds_toArray, List.set_cons_zero, List.set_cons_succ, i64_w, i32_w]
                    rfl
                  refine take_ (i := 5) (N := some 45) (v := ?_) (a' := ?_) #[true, true, true, true, true, true, true, true, true, true, false, true, false, false, false, false] rfl rfl (take_ofW HT_.out HW_.out (by kernel_rfl)) (fun _ _ _ h => h) (Or.inl ⟨by rfl, ?_⟩) hHeld ?_ ?_
                  rotate_left
                  · rintro w' ⟨s0, s1, s2, s3, s4, s5, s6, s7, s8, s9⟩
                    go_simp
                    with_reducible rfl
                  rotate_left
                  · simp only [Act.put, List.setIfInBounds_toArray, List.set_cons_zero, List.set_cons_succ, i64_w, i32_w]
                    rfl
                  refine take_ (i := 10) (N := some 50) (v := ?_) (a' := ?_) #[true, true, true, true, true, true, true, true, true, true, true, true, false, false, false, false] rfl rfl (take_ofW HT_.out HW_.out (by kernel_rfl)) (fun _ _ _ h => h) (Or.inl ⟨by rfl, ?_⟩) hHeld ?_ ?_
                  rotate_left
                  · rintro w' ⟨s0, s1, s2, s3, s4, s5, s6, s7, s8, s9⟩
                    go_simp
                    with_reducible rfl
                  rotate_left
                  · simp only [Act.put, List.setIfInBounds_toArray, List.set_cons_zero, List.set_cons_succ, i64_w, i32_w]
                    rfl
                  refine pure_ (i := 12) (N := some 52) (v := ?_) (a' := ?_) #[true, true, true, true, true, true, true, true, true, true, true, true, true, false, false, false] rfl rfl (any_of HT_.out (by kernel_rfl)) (fun _ _ _ h => h) (Or.inl ⟨by rfl, ?_⟩) ?_ ?_
                  rotate_left
                  · intro w'
                    go_simp
                    with_reducible rfl
                  rotate_left
                  · simp only [Act.put, List.setIfInBounds_toArray, List.set_cons_zero, List.set_cons_succ, i64_w, i32_w]
                    rfl
                  refine one_ (i := 13) (N := some 53) #[true, true, true, true, true, true, true, true, true, true, true, true, true, true, false, false] rfl rfl (one_of HT_.out (by kernel_rfl)) (by decide) (fun K hK => ?_)
                  refine value_ (w1 := ?_) (v := ?_) (by rfl) rfl ?_ ?_
                  rotate_left 2
                  · go_simp
                    constructor
                    · rfl
                    · rfl
                  refine hK.out _ _ ⟨(World.cell?_alloc_lt _ _ _ (World.block_lt_of_cell? _ _ (((HB.out.cell (World.block_lt_of_cell? w _ hw317_0)).trans hw317_0)))).trans (((HB.out.cell (World.block_lt_of_cell? w _ hw317_0)).trans hw317_0)), (World.cell?_alloc_lt _ _ _ (World.block_lt_of_cell? _ _ (((HB.out.cell (World.block_lt_of_cell? w _ hw317_1)).trans hw317_1)))).trans (((HB.out.cell (World.block_lt_of_cell? w _ hw317_1)).trans hw317_1)), (World.cell?_alloc_lt _ _ _ (World.block_lt_of_cell? _ _ (((HB.out.cell (World.block_lt_of_cell? w _ hw317_2)).trans hw317_2)))).trans (((HB.out.cell (World.block_lt_of_cell? w _ hw317_2)).trans hw317_2)), (World.cell?_alloc_lt _ _ _ (World.block_lt_of_cell? _ _ (((HB.out.cell (World.block_lt_of_cell? w _ hw317_3)).trans hw317_3)))).trans (((HB.out.cell (World.block_lt_of_cell? w _ hw317_3)).trans hw317_3)), (World.cell?_alloc_lt _ _ _ (World.block_lt_of_cell? _ _ (((HB.out.cell (World.block_lt_of_cell? w _ hw317_4)).trans hw317_4)))).trans (((HB.out.cell (World.block_lt_of_cell? w _ hw317_4)).trans hw317_4)), (World.cell?_alloc_lt _ _ _ (World.block_lt_of_cell? _ _ (((HB.out.cell (World.block_lt_of_cell? w _ hw318_0)).trans hw318_0)))).trans (((HB.out.cell (World.block_lt_of_cell? w _ hw318_0)).trans hw318_0)), (World.cell?_alloc_lt _ _ _ (World.block_lt_of_cell? _ _ (((HB.out.cell (World.block_lt_of_cell? w _ hw318_1)).trans hw318_1)))).trans (((HB.out.cell (World.block_lt_of_cell? w _ hw318_1)).trans hw318_1)), (World.cell?_alloc_lt _ _ _ (World.block_lt_of_cell? _ _ (((HB.out.cell (World.block_lt_of_cell? w _ hw318_2)).trans hw318_2)))).trans (((HB.out.cell (World.block_lt_of_cell? w _ hw318_2)).trans hw318_2)), (World.cell?_alloc_lt _ _ _ (World.block_lt_of_cell? _ _ (((HB.out.cell (World.block_lt_of_cell? w _ hw318_3)).trans hw318_3)))).trans (((HB.out.cell (World.block_lt_of_cell? w _ hw318_3)).trans hw318_3)), (World.cell?_alloc_lt _ _ _ (World.block_lt_of_cell? _ _ (((HB.out.cell (World.block_lt_of_cell? w _ hw318_4)).trans hw318_4)))).trans (((HB.out.cell (World.block_lt_of_cell? w _ hw318_4)).trans hw318_4))⟩ (fun hHeld => ?_)
                  clear hK K
                  refine norm_ (a' := ?_) ?_ ?_
                  rotate_left
                  · show Act.put _ (some 53) _ = _
                    simp only [Act.put, List.setIfInBounds_toArray, List.set_cons_zero, List.set_cons_succ, i64_w, i32_w]
                    rfl
                  refine one_ (i := 14) (N := some 54) #[true, true, true, true, true, true, true, true, true, true, true, true, true, true, true, false] rfl rfl (one_of HT_.out (by kernel_rfl)) (by decide) (fun K hK => ?_)
                  refine Kd.R_append_step k142 (w0 := w) w.heap.size (by rfl) (.tmp 40) (.tmp 53) 95 142 (.agg #[(.int .i64 0), (.int .i64 0), (.bool false), (.int .i64 0)]) 32 rfl Tryd.underlying95 info142 rfl (by decide) (by omega) u6 x6_1 (⟨(⟨(rd_T141 l0 x7_1).f0.f0, (rd_T141 l0 x7_1).f0.f1⟩ : S23), (rd_T141 l0 x7_1).f1, (rd_T141 l0 x7_1).f2.f1⟩ : S142) [.int .i64 ((rd_T141 l0 x7_1).f0.f0), .int .i64 ((rd_T141 l0 x7_1).f0.f1), .bool ((rd_T141 l0 x7_1).f1), .int .i64 ((rd_T141 l0 x7_1).f2.f1)] (fun _ => True) (fun _ => False) rfl rfl ?aP (fun _ hk => hk.elim) ?aF ?aO ?aB ?aS ?aL ?_
                  (case aP => exact k142_mkM _ _ _ (⟨(⟨(rd_T141 l0 x7_1).f0.f0, (rd_T141 l0 x7_1).f0.f1⟩ : S23), (rd_T141 l0 x7_1).f1, (rd_T141 l0 x7_1).f2.f1⟩ : S142))
                  (case aB => exact (by repeat (first | (with_reducible first | exact HB.out | apply below_alloc | apply pw_below_drewN | apply below_drew1) | exact HB.out)))
                  (case aF => exact (fun _ _ => trivial))
                  (case aO => exact (by (with_reducible repeat (first | apply Kd.R_alloc | apply Kd.R_drewN | apply Kd.R_drew)); exact HO_6.out))
                  (case aS => exact (below_size (by repeat (first | (with_reducible first | exact HB.out | apply below_alloc | apply pw_below_drewN | apply below_drew1) | exact HB.out))))
                  (case aL => have := LMc9.out; omega)
                  intro v320 w12 ho hb hg hat
                  rw [← Ny319.out] at ho
                  have n0_ := Aside0.mk (hb)
                  have n1_ := Aside0.mk (ho)
                  clear HB
                  clear HO_6
                  have HB := n0_
                  have HO321 := n1_
                  clear n0_ n1_
                  clear ho hb hg hat
                  refine hK.out _ _ ⟨((HB.out.cell (World.block_lt_of_cell? w _ hw317_0)).trans hw317_0), ((HB.out.cell (World.block_lt_of_cell? w _ hw317_1)).trans hw317_1), ((HB.out.cell (World.block_lt_of_cell? w _ hw317_2)).trans hw317_2), ((HB.out.cell (World.block_lt_of_cell? w _ hw317_3)).trans hw317_3), ((HB.out.cell (World.block_lt_of_cell? w _ hw317_4)).trans hw317_4), ((HB.out.cell (World.block_lt_of_cell? w _ hw318_0)).trans hw318_0), ((HB.out.cell (World.block_lt_of_cell? w _ hw318_1)).trans hw318_1), ((HB.out.cell (World.block_lt_of_cell? w _ hw318_2)).trans hw318_2), ((HB.out.cell (World.block_lt_of_cell? w _ hw318_3)).trans hw318_3), ((HB.out.cell (World.block_lt_of_cell? w _ hw318_4)).trans hw318_4)⟩ (fun hHeld => ?_)
                  clear hK K
                  refine norm_ (a' := ?_) ?_ ?_
                  rotate_left
                  · show Act.put _ (some 54) _ = _
                    simp only [Act.put, List.setIfInBounds_toArray, List.set_cons_zero, List.set_cons_succ, i64_w, i32_w]
                    rfl
                  refine pure_ (i := 15) (N := some 6) (v := ?_) (a' := ?_) #[true, true, true, true, true, true, true, true, true, true, true, true, true, true, true, true] rfl rfl (any_of HT_.out (by kernel_rfl)) (fun _ _ _ h => h) (Or.inl ⟨by rfl, ?_⟩) ?_ ?_
                  rotate_left
                  · intro w'
                    go_simp
                    with_reducible rfl
                  rotate_left
                  · simp only [Act.put, List.setIfInBounds_toArray, List.set_cons_zero, List.set_cons_succ, i64_w, i32_w]
                    rfl
                  refine done_ (done_of HT_.out (by kernel_rfl)) ?_
                  try go_wp2
                  go_roundg k1
                  case measure => have := HK1.out; omega
                  case rel => exact ⟨(y319), (wrap64 (x7_1 + 1)), (by first | rfl | (simp; done) | (simp [*]; done)), H', ⟨by have := HK1.out; omega⟩, ⟨by (with_reducible repeat (first | apply Kd.R_alloc | apply Kd.R_drewN | apply Kd.R_drew)); exact HO321.out⟩, ⟨by repeat (first | (with_reducible first | exact HB.out | apply below_alloc | apply pw_below_drewN | apply below_drew1) | exact HB.out)⟩⟩
                · rw [if_neg c9] at H
                  exact absurd H (by simp)
              · replace c8 := Bool.eq_false_iff.mpr c8
                subst c8
                have H1 : (if x6_1.length < 4398046511104 then (metrolabref47_Made.l0 k1 l0 false (x6_1 ++ [(⟨(⟨(rd_T141 l0 x7_1).f0.f0, (rd_T141 l0 x7_1).f0.f1⟩ : S23), (rd_T141 l0 x7_1).f1, (rd_T141 l0 x7_1).f2.f0⟩ : S142)]) (wrap64 (x7_1 + 1))) else (none)) = some (r1, r2) := by rw [if_neg (show ¬ (false = true) by decide)] at H; exact H
                clear H
                have H := H1
                clear H1
                by_cases c13 : x6_1.length < 4398046511104
                · rw [if_pos c13] at H
                  have LMc13 := Aside0.mk c13
                  clear c13
                  obtain ⟨y324, hy324⟩ : ∃ y_ : List (S142), y_ = (x6_1 ++ [(⟨(⟨(rd_T141 l0 x7_1).f0.f0, (rd_T141 l0 x7_1).f0.f1⟩ : S23), (rd_T141 l0 x7_1).f1, (rd_T141 l0 x7_1).f2.f0⟩ : S142)]) := ⟨_, rfl⟩
                  replace H : (metrolabref47_Made.l0 k1 l0 false y324 (wrap64 (x7_1 + 1))) = some (r1, r2) := by first | (rw [hy324]; with_reducible exact H) | (have H2_ := (Option.bind_some _ _).symm.trans H; rw [hy324]; with_reducible exact H2_) | (have H2_ := (Option.bind_some _ _).symm.trans H; with_reducible exact H2_) | with_reducible exact H | (rw [hy324]; exact H) | exact H
                  have Ny324 := Aside0.mk hy324
                  clear hy324
                  have H' := Aside0.mk H
                  clear H
                  have p313 : 0 ≤ (x7_1 : Int) := of_decide_eq_true (by first | (with_reducible assumption) | assumption)
                  have q313 : x7_1 < (l0.length : Int) := of_decide_eq_true (by first | (with_reducible assumption) | assumption)
                  obtain ⟨ad313, e313, hx313_0, hx313_1, hx313_2, hx313_3, hx313_4⟩ := at_T141 HR0.out x7_1 p313 q313
                  cases e313
                  replace hx313_0 := (HB.out.cell (World.block_lt_of_cell? w _ hx313_0)).trans hx313_0
                  replace hx313_1 := (HB.out.cell (World.block_lt_of_cell? w _ hx313_1)).trans hx313_1
                  replace hx313_2 := (HB.out.cell (World.block_lt_of_cell? w _ hx313_2)).trans hx313_2
                  replace hx313_3 := (HB.out.cell (World.block_lt_of_cell? w _ hx313_3)).trans hx313_3
                  replace hx313_4 := (HB.out.cell (World.block_lt_of_cell? w _ hx313_4)).trans hx313_4
                  replace p313 := eq_true p313
                  replace q313 := eq_true q313
                  try go_wp2_with (first | ((with_reducible refine gate_callee (f := 101) rfl ?_); refine goesL_ (some 23) rfl rfl Tryd.func101 (by kernel_rfl) rfl #[.agg #[.int .i64 ((rd_T141 l0 x7_1).f0.f0), .int .i64 ((rd_T141 l0 x7_1).f0.f1), .bool ((rd_T141 l0 x7_1).f1), .int .i64 ((rd_T141 l0 x7_1).f2.f0), .int .i64 ((rd_T141 l0 x7_1).f2.f1)]] rfl (by (try simp only [List.map_toArray, List.map_cons, List.map_nil]); first | done | rfl | (simp only [List.length_drop, List.length_take]; rfl)) ?_; (with_reducible refine (metrolabref47_limits.calls k1 ((rd_T141 l0 x7_1).f0.f0) ((rd_T141 l0 x7_1).f0.f1) ((rd_T141 l0 x7_1).f1) ((rd_T141 l0 x7_1).f2.f0) ((rd_T141 l0 x7_1).f2.f1) t314 _ A6.out).mono ?_); rintro e w14 ⟨rfl, hb⟩; refine ⟨_, rfl, ?_⟩; have n0_ := Aside0.mk (Kd.R_below (by (with_reducible repeat (first | apply Kd.R_alloc | apply Kd.R_drewN | apply Kd.R_drew)); exact HO_6.out) hb); have n1_ := Aside0.mk (below_step (by repeat (first | (with_reducible first | exact HB.out | apply below_alloc | apply pw_below_drewN | apply below_drew1) | exact HB.out)) hb); clear HO_6; clear HB; have HO_6 := n0_; have HB := n1_; clear n0_ n1_; (try clear hb); (try clear hb2); (try clear hk); (try clear hi); have p315 : 0 ≤ (x7_1 : Int) := of_decide_eq_true (by first | (with_reducible assumption) | assumption); have q315 : x7_1 < (l0.length : Int) := of_decide_eq_true (by first | (with_reducible assumption) | assumption); obtain ⟨ad315, e315, hx315_0, hx315_1, hx315_2, hx315_3, hx315_4⟩ := at_T141 HR0.out x7_1 p315 q315; obtain rfl : ad313 = ad315 := (by injection e315); replace hx315_0 := (HB.out.cell (World.block_lt_of_cell? w _ hx315_0)).trans hx315_0; replace hx315_1 := (HB.out.cell (World.block_lt_of_cell? w _ hx315_1)).trans hx315_1; replace hx315_2 := (HB.out.cell (World.block_lt_of_cell? w _ hx315_2)).trans hx315_2; replace hx315_3 := (HB.out.cell (World.block_lt_of_cell? w _ hx315_3)).trans hx315_3; replace hx315_4 := (HB.out.cell (World.block_lt_of_cell? w _ hx315_4)).trans hx315_4; replace p315 := eq_true p315; replace q315 := eq_true q315))
                  have n0_ := Aside0.mk (Kd.R_drew HO_6.out)
                  have n1_ := Aside0.mk (below_drew1 HB.out)
                  clear HO_6
                  clear HB
                  have HO_6 := n0_
                  have HB := n1_
                  clear n0_ n1_
                  have p322 : 0 ≤ (x7_1 : Int) := of_decide_eq_true (by first | (with_reducible assumption) | assumption)
                  have q322 : x7_1 < (l0.length : Int) := of_decide_eq_true (by first | (with_reducible assumption) | assumption)
                  obtain ⟨ad322, e322, hx322_0, hx322_1, hx322_2, hx322_3, hx322_4⟩ := at_T141 HR0.out x7_1 p322 q322
                  have hw322_4 := hx322_4
                  have hw322_3 := hx322_3
                  have hw322_2 := hx322_2
                  have hw322_1 := hx322_1
                  have hw322_0 := hx322_0
                  obtain rfl : ad313 = ad322 := (by injection e322)
                  replace hx322_0 := (HB.out.cell (World.block_lt_of_cell? w _ hx322_0)).trans hx322_0
                  replace hx322_1 := (HB.out.cell (World.block_lt_of_cell? w _ hx322_1)).trans hx322_1
                  replace hx322_2 := (HB.out.cell (World.block_lt_of_cell? w _ hx322_2)).trans hx322_2
                  replace hx322_3 := (HB.out.cell (World.block_lt_of_cell? w _ hx322_3)).trans hx322_3
                  replace hx322_4 := (HB.out.cell (World.block_lt_of_cell? w _ hx322_4)).trans hx322_4
                  replace p322 := eq_true p322
                  replace q322 := eq_true q322
                  have p323 : 0 ≤ (x7_1 : Int) := of_decide_eq_true (by first | (with_reducible assumption) | assumption)
                  have q323 : x7_1 < (l0.length : Int) := of_decide_eq_true (by first | (with_reducible assumption) | assumption)
                  obtain ⟨ad323, e323, hx323_0, hx323_1, hx323_2, hx323_3, hx323_4⟩ := at_T141 HR0.out x7_1 p323 q323
                  have hw323_4 := hx323_4
                  have hw323_3 := hx323_3
                  have hw323_2 := hx323_2
                  have hw323_1 := hx323_1
                  have hw323_0 := hx323_0
                  obtain rfl : ad313 = ad323 := (by injection e323)
                  replace hx323_0 := (HB.out.cell (World.block_lt_of_cell? w _ hx323_0)).trans hx323_0
                  replace hx323_1 := (HB.out.cell (World.block_lt_of_cell? w _ hx323_1)).trans hx323_1
                  replace hx323_2 := (HB.out.cell (World.block_lt_of_cell? w _ hx323_2)).trans hx323_2
                  replace hx323_3 := (HB.out.cell (World.block_lt_of_cell? w _ hx323_3)).trans hx323_3
                  replace hx323_4 := (HB.out.cell (World.block_lt_of_cell? w _ hx323_4)).trans hx323_4
                  replace p323 := eq_true p323
                  replace q323 := eq_true q323
                  refine start_ (n := 16) (S := fun w' => w'.cell? (ad313.add ((x7_1).toNat * 5)) = some (.int .i64 ((rd_T141 l0 x7_1).f0.f0)) ∧ w'.cell? ⟨(ad313.add ((x7_1).toNat * 5)).block, (ad313.add ((x7_1).toNat * 5)).off + 1, none⟩ = some (.int .i64 ((rd_T141 l0 x7_1).f0.f1)) ∧ w'.cell? ⟨(ad313.add ((x7_1).toNat * 5)).block, (ad313.add ((x7_1).toNat * 5)).off + 2, none⟩ = some (.bool ((rd_T141 l0 x7_1).f1)) ∧ w'.cell? ⟨(ad313.add ((x7_1).toNat * 5)).block, (ad313.add ((x7_1).toNat * 5)).off + 3, none⟩ = some (.int .i64 ((rd_T141 l0 x7_1).f2.f0)) ∧ w'.cell? ⟨(ad313.add ((x7_1).toNat * 5)).block, (ad313.add ((x7_1).toNat * 5)).off + 4, none⟩ = some (.int .i64 ((rd_T141 l0 x7_1).f2.f1)) ∧ w'.cell? (ad313.add ((x7_1).toNat * 5)) = some (.int .i64 ((rd_T141 l0 x7_1).f0.f0)) ∧ w'.cell? ⟨(ad313.add ((x7_1).toNat * 5)).block, (ad313.add ((x7_1).toNat * 5)).off + 1, none⟩ = some (.int .i64 ((rd_T141 l0 x7_1).f0.f1)) ∧ w'.cell? ⟨(ad313.add ((x7_1).toNat * 5)).block, (ad313.add ((x7_1).toNat * 5)).off + 2, none⟩ = some (.bool ((rd_T141 l0 x7_1).f1)) ∧ w'.cell? ⟨(ad313.add ((x7_1).toNat * 5)).block, (ad313.add ((x7_1).toNat * 5)).off + 3, none⟩ = some (.int .i64 ((rd_T141 l0 x7_1).f2.f0)) ∧ w'.cell? ⟨(ad313.add ((x7_1).toNat * 5)).block, (ad313.add ((x7_1).toNat * 5)).off + 4, none⟩ = some (.int .i64 ((rd_T141 l0 x7_1).f2.f1))) (ds := []) #[false, false, false, false, false, false, false, false, false, false, false, false, false, false, false, false] (by kernel_rfl) rfl rfl ⟨((HB.out.cell (World.block_lt_of_cell? w _ hw322_0)).trans hw322_0), ((HB.out.cell (World.block_lt_of_cell? w _ hw322_1)).trans hw322_1), ((HB.out.cell (World.block_lt_of_cell? w _ hw322_2)).trans hw322_2), ((HB.out.cell (World.block_lt_of_cell? w _ hw322_3)).trans hw322_3), ((HB.out.cell (World.block_lt_of_cell? w _ hw322_4)).trans hw322_4), ((HB.out.cell (World.block_lt_of_cell? w _ hw323_0)).trans hw323_0), ((HB.out.cell (World.block_lt_of_cell? w _ hw323_1)).trans hw323_1), ((HB.out.cell (World.block_lt_of_cell? w _ hw323_2)).trans hw323_2), ((HB.out.cell (World.block_lt_of_cell? w _ hw323_3)).trans hw323_3), ((HB.out.cell (World.block_lt_of_cell? w _ hw323_4)).trans hw323_4)⟩ (fun hHeld => ?_); refine with_tabW metrolabref47_Made.tab13 metrolabref47_Made.bits13 (fun HT_ HW_ => ?_)
                  generalize w14.drew = w15 at HO_6 HB hx322_0 hx322_1 hx322_2 hx322_3 hx322_4 hx323_0 hx323_1 hx323_2 hx323_3 hx323_4 hHeld ⊢
                  refine pure_ (i := 0) (N := some 40) (v := ?_) (a' := ?_) #[true, false, false, false, false, false, false, false, false, false, false, false, false, false, false, false] rfl rfl (any_of HT_.out (by kernel_rfl)) (fun _ _ _ h => h) (Or.inl ⟨by rfl, ?_⟩) ?_ ?_
                  rotate_left
                  · intro w'
                    go_simp
                    with_reducible rfl
                  rotate_left
                  · simp only [Act.put, List.setIfInBounds_toArray, List.set_cons_zero, List.set_cons_succ, i64_w, i32_w]
                    rfl
                  refine pure_ (i := 1) (N := some 41) (v := ?_) (a' := ?_) #[true, true, false, false, false, false, false, false, false, false, false, false, false, false, false, false] rfl rfl (any_of HT_.out (by kernel_rfl)) (fun _ _ _ h => h) (Or.inl ⟨by rfl, ?_⟩) ?_ ?_
                  rotate_left
                  · intro w'
                    go_simp
                    with_reducible rfl
                  rotate_left
                  · simp only [Act.put, List.setIfInBounds_toArray, List.set_cons_zero, List.set_cons_succ, i64_w, i32_w]
                    rfl
                  refine pure_ (i := 2) (N := some 42) (v := ?_) (a' := ?_) #[true, true, true, false, false, false, false, false, false, false, false, false, false, false, false, false] rfl rfl (any_of HT_.out (by kernel_rfl)) (fun _ _ _ h => h) (Or.inl ⟨by rfl, ?_⟩) ?_ ?_
                  rotate_left
                  · intro w'
                    go_simp
                    with_reducible rfl
                  rotate_left
                  · simp only [Act.put, List.setIfInBounds_toArray, List.set_cons_zero, List.set_cons_succ, i64_w, i32_w]
                    rfl
                  refine pure_ (i := 3) (N := some 43) (v := ?_) (a' := ?_) #[true, true, true, true, false, false, false, false, false, false, false, false, false, false, false, false] rfl rfl (any_of HT_.out (by kernel_rfl)) (fun _ _ _ h => h) (Or.inl ⟨by rfl, ?_⟩) ?_ ?_
                  rotate_left
                  · intro w'
                    go_simp
                    with_reducible rfl
                  rotate_left
                  · simp only [Act.put, List.setIfInBounds_toArray, List.set_cons_zero, List.set_cons_succ, i64_w, i32_w]
                    rfl
                  refine pure_ (i := 4) (N := some 44) (v := ?_) (a' := ?_) #[true, true, true, true, true, false, false, false, false, false, false, false, false, false, false, false] rfl rfl (any_of HT_.out (by kernel_rfl)) (fun _ _ _ h => h) (Or.inl ⟨by rfl, ?_⟩) ?_ ?_
                  rotate_left
                  · intro w'
                    go_simp
                    with_reducible rfl
                  rotate_left
                  · simp only [Act.put, List.setIfInBounds_toArray, List.set_cons_zero, List.set_cons_succ, i64_w, i32_w]
                    rfl
                  refine pure_ (i := 6) (N := some 46) (v := ?_) (a' := ?_) #[true, true, true, true, true, false, true, false, false, false, false, false, false, false, false, false] rfl rfl (any_of HT_.out (by kernel_rfl)) (fun _ _ _ h => h) (Or.inl ⟨by rfl, ?_⟩) ?_ ?_
                  rotate_left
                  · intro w'
                    go_simp
                    with_reducible rfl
                  rotate_left
                  · simp only [Act.put, List.setIfInBounds_toArray, List.set_cons_zero, List.set_cons_succ, i64_w, i32_w]
                    rfl
                  refine pure_ (i := 7) (N := some 47) (v := ?_) (a' := ?_) #[true, true, true, true, true, false, true, true, false, false, false, false, false, false, false, false] rfl rfl (any_of HT_.out (by kernel_rfl)) (fun _ _ _ h => h) (Or.inl ⟨by rfl, ?_⟩) ?_ ?_
                  rotate_left
                  · intro w'
                    go_simp
                    with_reducible rfl
                  rotate_left
                  · simp only [Act.put, List.setIfInBounds_toArray, List.set_cons_zero, List.set_cons_succ, i64_w, i32_w]
                    rfl
                  refine pure_ (i := 8) (N := some 48) (v := ?_) (a' := ?_) #[true, true, true, true, true, false, true, true, true, false, false, false, false, false, false, false] rfl rfl (any_of HT_.out (by kernel_rfl)) (fun _ _ _ h => h) (Or.inl ⟨by rfl, ?_⟩) ?_ ?_
                  rotate_left
                  · intro w'
                    go_simp
                    with_reducible rfl
                  rotate_left
                  · simp only [Act.put, List.setIfInBounds_toArray, List.set_cons_zero, List.set_cons_succ, i64_w, i32_w]
                    rfl
                  refine pure_ (i := 9) (N := some 49) (v := ?_) (a' := ?_) #[true, true, true, true, true, false, true, true, true, true, false, false, false, false, false, false] rfl rfl (any_of HT_.out (by kernel_rfl)) (fun _ _ _ h => h) (Or.inl ⟨by rfl, ?_⟩) ?_ ?_
                  rotate_left
                  · intro w'
                    go_simp
                    with_reducible rfl
                  rotate_left
                  · simp only [Act.put, List.setIfInBounds_toArray, List.set_cons_zero, List.set_cons_succ, i64_w, i32_w]
                    rfl
                  refine pure_ (i := 11) (N := some 51) (v := ?_) (a' := ?_) #[true, true, true, true, true, false, true, true, true, true, false, true, false, false, false, false] rfl rfl (any_of HT_.out (by kernel_rfl)) (fun _ _ _ h => h) (Or.inl ⟨by rfl, ?_⟩) ?_ ?_
                  rotate_left
                  · intro w'
                    go_simp
                    with_reducible rfl
                  rotate_left
                  · simp only [Act.put, List.setIfInBounds_toArray, List.set_cons_zero, List.set_cons_succ, i64_w, i32_w]
                    rfl
                  refine take_ (i := 5) (N := some 45) (v := ?_) (a' := ?_) #[true, true, true, true, true, true, true, true, true, true, false, true, false, false, false, false] rfl rfl (take_ofW HT_.out HW_.out (by kernel_rfl)) (fun _ _ _ h => h) (Or.inl ⟨by rfl, ?_⟩) hHeld ?_ ?_
                  rotate_left
                  · rintro w' ⟨s0, s1, s2, s3, s4, s5, s6, s7, s8, s9⟩
                    go_simp
                    with_reducible rfl
                  rotate_left
                  · simp only [Act.put, List.setIfInBounds_toArray, List.set_cons_zero, List.set_cons_succ, i64_w, i32_w]
                    rfl
                  refine take_ (i := 10) (N := some 50) (v := ?_) (a' := ?_) #[true, true, true, true, true, true, true, true, true, true, true, true, false, false, false, false] rfl rfl (take_ofW HT_.out HW_.out (by kernel_rfl)) (fun _ _ _ h => h) (Or.inl ⟨by rfl, ?_⟩) hHeld ?_ ?_
                  rotate_left
                  · rintro w' ⟨s0, s1, s2, s3, s4, s5, s6, s7, s8, s9⟩
                    go_simp
                    with_reducible rfl
                  rotate_left
                  · simp only [Act.put, List.setIfInBounds_toArray, List.set_cons_zero, List.set_cons_succ, i64_w, i32_w]
                    rfl
                  refine pure_ (i := 12) (N := some 52) (v := ?_) (a' := ?_) #[true, true, true, true, true, true, true, true, true, true, true, true, true, false, false, false] rfl rfl (any_of HT_.out (by kernel_rfl)) (fun _ _ _ h => h) (Or.inl ⟨by rfl, ?_⟩) ?_ ?_
                  rotate_left
                  · intro w'
                    go_simp
                    with_reducible rfl
                  rotate_left
                  · simp only [Act.put, List.setIfInBounds_toArray, List.set_cons_zero, List.set_cons_succ, i64_w, i32_w]
                    rfl
                  refine one_ (i := 13) (N := some 53) #[true, true, true, true, true, true, true, true, true, true, true, true, true, true, false, false] rfl rfl (one_of HT_.out (by kernel_rfl)) (by decide) (fun K hK => ?_)
                  refine value_ (w1 := ?_) (v := ?_) (by rfl) rfl ?_ ?_
                  rotate_left 2
                  · go_simp
                    constructor
                    · rfl
                    · rfl
                  refine hK.out _ _ ⟨(World.cell?_alloc_lt _ _ _ (World.block_lt_of_cell? _ _ (((HB.out.cell (World.block_lt_of_cell? w _ hw322_0)).trans hw322_0)))).trans (((HB.out.cell (World.block_lt_of_cell? w _ hw322_0)).trans hw322_0)), (World.cell?_alloc_lt _ _ _ (World.block_lt_of_cell? _ _ (((HB.out.cell (World.block_lt_of_cell? w _ hw322_1)).trans hw322_1)))).trans (((HB.out.cell (World.block_lt_of_cell? w _ hw322_1)).trans hw322_1)), (World.cell?_alloc_lt _ _ _ (World.block_lt_of_cell? _ _ (((HB.out.cell (World.block_lt_of_cell? w _ hw322_2)).trans hw322_2)))).trans (((HB.out.cell (World.block_lt_of_cell? w _ hw322_2)).trans hw322_2)), (World.cell?_alloc_lt _ _ _ (World.block_lt_of_cell? _ _ (((HB.out.cell (World.block_lt_of_cell? w _ hw322_3)).trans hw322_3)))).trans (((HB.out.cell (World.block_lt_of_cell? w _ hw322_3)).trans hw322_3)), (World.cell?_alloc_lt _ _ _ (World.block_lt_of_cell? _ _ (((HB.out.cell (World.block_lt_of_cell? w _ hw322_4)).trans hw322_4)))).trans (((HB.out.cell (World.block_lt_of_cell? w _ hw322_4)).trans hw322_4)), (World.cell?_alloc_lt _ _ _ (World.block_lt_of_cell? _ _ (((HB.out.cell (World.block_lt_of_cell? w _ hw323_0)).trans hw323_0)))).trans (((HB.out.cell (World.block_lt_of_cell? w _ hw323_0)).trans hw323_0)), (World.cell?_alloc_lt _ _ _ (World.block_lt_of_cell? _ _ (((HB.out.cell (World.block_lt_of_cell? w _ hw323_1)).trans hw323_1)))).trans (((HB.out.cell (World.block_lt_of_cell? w _ hw323_1)).trans hw323_1)), (World.cell?_alloc_lt _ _ _ (World.block_lt_of_cell? _ _ (((HB.out.cell (World.block_lt_of_cell? w _ hw323_2)).trans hw323_2)))).trans (((HB.out.cell (World.block_lt_of_cell? w _ hw323_2)).trans hw323_2)), (World.cell?_alloc_lt _ _ _ (World.block_lt_of_cell? _ _ (((HB.out.cell (World.block_lt_of_cell? w _ hw323_3)).trans hw323_3)))).trans (((HB.out.cell (World.block_lt_of_cell? w _ hw323_3)).trans hw323_3)), (World.cell?_alloc_lt _ _ _ (World.block_lt_of_cell? _ _ (((HB.out.cell (World.block_lt_of_cell? w _ hw323_4)).trans hw323_4)))).trans (((HB.out.cell (World.block_lt_of_cell? w _ hw323_4)).trans hw323_4))⟩ (fun hHeld => ?_)
                  clear hK K
                  refine norm_ (a' := ?_) ?_ ?_
                  rotate_left
                  · show Act.put _ (some 53) _ = _
                    simp only [Act.put, List.setIfInBounds_toArray, List.set_cons_zero, List.set_cons_succ, i64_w, i32_w]
                    rfl
                  refine one_ (i := 14) (N := some 54) #[true, true, true, true, true, true, true, true, true, true, true, true, true, true, true, false] rfl rfl (one_of HT_.out (by kernel_rfl)) (by decide) (fun K hK => ?_)
                  refine Kd.R_append_step k142 (w0 := w) w.heap.size (by rfl) (.tmp 40) (.tmp 53) 95 142 (.agg #[(.int .i64 0), (.int .i64 0), (.bool false), (.int .i64 0)]) 32 rfl Tryd.underlying95 info142 rfl (by decide) (by omega) u6 x6_1 (⟨(⟨(rd_T141 l0 x7_1).f0.f0, (rd_T141 l0 x7_1).f0.f1⟩ : S23), (rd_T141 l0 x7_1).f1, (rd_T141 l0 x7_1).f2.f0⟩ : S142) [.int .i64 ((rd_T141 l0 x7_1).f0.f0), .int .i64 ((rd_T141 l0 x7_1).f0.f1), .bool ((rd_T141 l0 x7_1).f1), .int .i64 ((rd_T141 l0 x7_1).f2.f0)] (fun _ => True) (fun _ => False) rfl rfl ?aP (fun _ hk => hk.elim) ?aF ?aO ?aB ?aS ?aL ?_
                  (case aP => exact k142_mkM _ _ _ (⟨(⟨(rd_T141 l0 x7_1).f0.f0, (rd_T141 l0 x7_1).f0.f1⟩ : S23), (rd_T141 l0 x7_1).f1, (rd_T141 l0 x7_1).f2.f0⟩ : S142))
                  (case aB => exact (by repeat (first | (with_reducible first | exact HB.out | apply below_alloc | apply pw_below_drewN | apply below_drew1) | exact HB.out)))
                  (case aF => exact (fun _ _ => trivial))
                  (case aO => exact (by (with_reducible repeat (first | apply Kd.R_alloc | apply Kd.R_drewN | apply Kd.R_drew)); exact HO_6.out))
                  (case aS => exact (below_size (by repeat (first | (with_reducible first | exact HB.out | apply below_alloc | apply pw_below_drewN | apply below_drew1) | exact HB.out))))
                  (case aL => have := LMc13.out; omega)
                  intro v325 w16 ho hb hg hat
                  rw [← Ny324.out] at ho
                  have n0_ := Aside0.mk (hb)
                  have n1_ := Aside0.mk (ho)
                  clear HB
                  clear HO_6
                  have HB := n0_
                  have HO326 := n1_
                  clear n0_ n1_
                  clear ho hb hg hat
                  refine hK.out _ _ ⟨((HB.out.cell (World.block_lt_of_cell? w _ hw322_0)).trans hw322_0), ((HB.out.cell (World.block_lt_of_cell? w _ hw322_1)).trans hw322_1), ((HB.out.cell (World.block_lt_of_cell? w _ hw322_2)).trans hw322_2), ((HB.out.cell (World.block_lt_of_cell? w _ hw322_3)).trans hw322_3), ((HB.out.cell (World.block_lt_of_cell? w _ hw322_4)).trans hw322_4), ((HB.out.cell (World.block_lt_of_cell? w _ hw323_0)).trans hw323_0), ((HB.out.cell (World.block_lt_of_cell? w _ hw323_1)).trans hw323_1), ((HB.out.cell (World.block_lt_of_cell? w _ hw323_2)).trans hw323_2), ((HB.out.cell (World.block_lt_of_cell? w _ hw323_3)).trans hw323_3), ((HB.out.cell (World.block_lt_of_cell? w _ hw323_4)).trans hw323_4)⟩ (fun hHeld => ?_)
                  clear hK K
                  refine norm_ (a' := ?_) ?_ ?_
                  rotate_left
                  · show Act.put _ (some 54) _ = _
                    simp only [Act.put, List.setIfInBounds_toArray, List.set_cons_zero, List.set_cons_succ, i64_w, i32_w]
                    rfl
                  refine pure_ (i := 15) (N := some 6) (v := ?_) (a' := ?_) #[true, true, true, true, true, true, true, true, true, true, true, true, true, true, true, true] rfl rfl (any_of HT_.out (by kernel_rfl)) (fun _ _ _ h => h) (Or.inl ⟨by rfl, ?_⟩) ?_ ?_
                  rotate_left
                  · intro w'
                    go_simp
                    with_reducible rfl
                  rotate_left
                  · simp only [Act.put, List.setIfInBounds_toArray, List.set_cons_zero, List.set_cons_succ, i64_w, i32_w]
                    rfl
                  refine done_ (done_of HT_.out (by kernel_rfl)) ?_
                  try go_wp2
                  go_roundg k1
                  case measure => have := HK1.out; omega
                  case rel => exact ⟨(y324), (wrap64 (x7_1 + 1)), (by first | rfl | (simp; done) | (simp [*]; done)), H', ⟨by have := HK1.out; omega⟩, ⟨by (with_reducible repeat (first | apply Kd.R_alloc | apply Kd.R_drewN | apply Kd.R_drew)); exact HO326.out⟩, ⟨by repeat (first | (with_reducible first | exact HB.out | apply below_alloc | apply pw_below_drewN | apply below_drew1) | exact HB.out)⟩⟩
                · rw [if_neg c13] at H
                  exact absurd H (by simp)
            · rw [if_neg c7] at H
              have c7b0 : (t314 == 0) = false := beq_eq_false_iff_ne.mpr c7
              have c7b1 : (t314 != 0) = true := bne_iff_ne.mpr c7
              simp only [Option.some.injEq, Prod.mk.injEq] at H
              obtain ⟨rfl, rfl⟩ := H
              have p313 : 0 ≤ (x7_1 : Int) := of_decide_eq_true (by first | (with_reducible assumption) | assumption)
              have q313 : x7_1 < (l0.length : Int) := of_decide_eq_true (by first | (with_reducible assumption) | assumption)
              obtain ⟨ad313, e313, hx313_0, hx313_1, hx313_2, hx313_3, hx313_4⟩ := at_T141 HR0.out x7_1 p313 q313
              cases e313
              replace hx313_0 := (HB.out.cell (World.block_lt_of_cell? w _ hx313_0)).trans hx313_0
              replace hx313_1 := (HB.out.cell (World.block_lt_of_cell? w _ hx313_1)).trans hx313_1
              replace hx313_2 := (HB.out.cell (World.block_lt_of_cell? w _ hx313_2)).trans hx313_2
              replace hx313_3 := (HB.out.cell (World.block_lt_of_cell? w _ hx313_3)).trans hx313_3
              replace hx313_4 := (HB.out.cell (World.block_lt_of_cell? w _ hx313_4)).trans hx313_4
              replace p313 := eq_true p313
              replace q313 := eq_true q313
              go_wp2_with (first | ((with_reducible refine gate_callee (f := 101) rfl ?_); refine goesL_ (some 23) rfl rfl Tryd.func101 (by kernel_rfl) rfl #[.agg #[.int .i64 ((rd_T141 l0 x7_1).f0.f0), .int .i64 ((rd_T141 l0 x7_1).f0.f1), .bool ((rd_T141 l0 x7_1).f1), .int .i64 ((rd_T141 l0 x7_1).f2.f0), .int .i64 ((rd_T141 l0 x7_1).f2.f1)]] rfl (by (try simp only [List.map_toArray, List.map_cons, List.map_nil]); first | done | rfl | (simp only [List.length_drop, List.length_take]; rfl)) ?_; (with_reducible refine (metrolabref47_limits.calls k1 ((rd_T141 l0 x7_1).f0.f0) ((rd_T141 l0 x7_1).f0.f1) ((rd_T141 l0 x7_1).f1) ((rd_T141 l0 x7_1).f2.f0) ((rd_T141 l0 x7_1).f2.f1) t314 _ A6.out).mono ?_); rintro e w17 ⟨rfl, hb⟩; refine ⟨_, rfl, ?_⟩; have n0_ := Aside0.mk (Kd.R_below (by (with_reducible repeat (first | apply Kd.R_alloc | apply Kd.R_drewN | apply Kd.R_drew)); exact HO_6.out) hb); have n1_ := Aside0.mk (below_step (by repeat (first | (with_reducible first | exact HB.out | apply below_alloc | apply pw_below_drewN | apply below_drew1) | exact HB.out)) hb); clear HO_6; clear HB; have HO_6 := n0_; have HB := n1_; clear n0_ n1_; (try clear hb); (try clear hb2); (try clear hk); (try clear hi)))
              go_ret2
              exact ⟨_, by first | rfl | (simp [errW_none, errW_some] <;> rfl) | (simp [*, errW_none, errW_some] <;> rfl), by first | exact Kd.R_nil _ _ _ _ _ | exact Kd.N_nil _ _ _ _ _ | exact Kd.V_nil _ _ _ _ _ | exact Kd.Q_nil _ _ _ _ _ | exact Kd.S_nil _ _ _ _ _, by repeat (first | (with_reducible first | exact HB.out | apply below_alloc | apply pw_below_drewN | apply below_drew1) | exact HB.out)⟩
          · rw [if_neg c5] at H
            exact absurd H (by simp)
        · rw [if_neg c4] at H
          have c4b0 : decide (x7_1 < (l0.length : Int)) = false := decide_eq_false c4
          clear c4
          simp only [Option.some.injEq, Prod.mk.injEq] at H
          obtain ⟨rfl, rfl⟩ := H
          go_wp2
          go_ret2
          exact ⟨_, by first | rfl | (simp [errW_none, errW_some] <;> rfl) | (simp [*, errW_none, errW_some] <;> rfl), by (with_reducible repeat (first | apply Kd.R_alloc | apply Kd.R_drewN | apply Kd.R_drew)); exact HO_6.out, by repeat (first | (with_reducible first | exact HB.out | apply below_alloc | apply pw_below_drewN | apply below_drew1) | exact HB.out)⟩
end Go.Proofs.YtjemaonejkepcaaDoor.G
namespace Go.Proofs.YtjemaonejkepcaaDoor.G
open Go.Proofs.YtjemaonejkepcaaDoor.B
open Go.RowKit Go.Proofs.YtjemaonejkepcaaDoorW.PrintWords Go.Proofs.YtjemaonejkepcaaDoorW.PrintLast Go.Proofs.YtjemaonejkepcaaDoorW.PrintMore
attribute [local go_sem] max2_int min2_int max_two min_two max_three min_three max_four min_four   -- for this text's walks alone
set_option linter.unusedVariables false
set_option linter.unusedSimpArgs false
theorem eqA142 (d : Nat) (w : World) (x0 y0 : Int) (x1 y1 : Int) (x2 y2 : Bool) (x3 y3 : Int) :
    (Op.equalIn (d + 3) 142 (.agg #[.int .i64 x0, .int .i64 x1, .bool x2, .int .i64 x3]) (.agg #[.int .i64 y0, .int .i64 y1, .bool y2, .int .i64 y3])).run Tryd.prog w = .ok ((x0 == y0 && (x1 == y1)) && (x2 == y2 && (x3 == y3))) w := by
  refine eqA_of Tryd.underlying142 (by kernel_rfl) ?_
  refine eqf_cons (by rfl) (by go_simp) (by go_simp) (eqA23 (d + 0) w _ _ _ _) ?_
  refine eqf_cons (by rfl) (by go_simp; rfl) (by go_simp; rfl) (by go_simp) ?_
  exact eqf_last (by rfl) (by go_simp; rfl) (by go_simp; rfl) (by go_simp)
end Go.Proofs.YtjemaonejkepcaaDoor.G
namespace Go.Proofs.YtjemaonejkepcaaDoor.G
open Go.Proofs.YtjemaonejkepcaaDoor.B
open Go.RowKit Go.Proofs.YtjemaonejkepcaaDoorW.PrintWords Go.Proofs.YtjemaonejkepcaaDoorW.PrintLast Go.Proofs.YtjemaonejkepcaaDoorW.PrintMore
attribute [local go_sem] max2_int min2_int max_two min_two max_three min_three max_four min_four   -- for this text's walks alone
set_option linter.unusedVariables false
set_option linter.unusedSimpArgs false
attribute [local go_sem high] eqA142
def metrolabref47_SameTools.l0 : Nat → List (S142) → List (S142) → Int → Option (Bool)
  | 0, _, _, _ => none
  | k + 1, x0, x1, x5 => if x5 < (x0.length : Int) then (if 0 ≤ x5 then (if x5 < (x1.length : Int) then (if ((!(((rd_T142 x0 x5).f0.f0) == ((rd_T142 x1 x5).f0.f0)) || (!(((rd_T142 x0 x5).f0.f1) == ((rd_T142 x1 x5).f0.f1)))) || (!(((rd_T142 x0 x5).f1) == ((rd_T142 x1 x5).f1)) || (!(((rd_T142 x0 x5).f2) == ((rd_T142 x1 x5).f2))))) = true then (some false) else (metrolabref47_SameTools.l0 k x0 x1 (wrap64 (x5 + 1)))) else (none)) else (none)) else (some true)
def metrolabref47_SameTools.f (k : Nat) (l0 : List (S142)) (l1 : List (S142)) : Option (Bool) := if (l0.length : Int) = (l1.length : Int) then (metrolabref47_SameTools.l0 k l0 l1 0) else (some false)
theorem metrolabref47_SameTools.mono_l : ∀ k, (∀ y0 y1 y2, LeO (metrolabref47_SameTools.l0 k y0 y1 y2) (metrolabref47_SameTools.l0 (k + 1) y0 y1 y2))
  | 0 => fun _ _ _ r h => by simp [metrolabref47_SameTools.l0] at h
  | k + 1 => by
    have ih0 := metrolabref47_SameTools.mono_l k
    · intro y0 y1 y2
      unfold metrolabref47_SameTools.l0
      repeat' first
      | (with_reducible exact ih0 _ _ _)
      | (with_reducible exact LeO.refl _)
      | (with_reducible exact LeO.none _)
      | (with_reducible refine LeO.ite ?_ ?_)
      | (with_reducible refine LeO.bind ?_ (fun _ => ?_))
      | exact ih0 _ _ _
      | exact LeO.none _
      | refine LeO.ite ?_ ?_
      | refine LeO.bind ?_ (fun _ => ?_)
theorem metrolabref47_SameTools.mono : ∀ a0 a1 k, LeO (metrolabref47_SameTools.f k a0 a1) (metrolabref47_SameTools.f (k + 1) a0 a1) := by
  intro a0 a1 k
  have ih0 := metrolabref47_SameTools.mono_l k
  unfold metrolabref47_SameTools.f
  repeat' first
      | (with_reducible exact ih0 _ _ _)
      | (with_reducible exact LeO.refl _)
      | (with_reducible exact LeO.none _)
      | (with_reducible refine LeO.ite ?_ ?_)
      | (with_reducible refine LeO.bind ?_ (fun _ => ?_))
      | exact ih0 _ _ _
      | exact LeO.none _
      | refine LeO.ite ?_ ?_
      | refine LeO.bind ?_ (fun _ => ?_)
set_option maxHeartbeats 8000000 in
set_option maxRecDepth 100000 in
theorem metrolabref47_SameTools.calls (k : Nat) (A0 : Option Addr) (c0 : Nat) (l0 : List (S142)) (A1 : Option Addr) (c1 : Nat) (l1 : List (S142)) (r : Bool) (w : World) (hr0 : Kd.C k142 w A0 l0.length l0) (hc0 : l0.length ≤ c0) (hr1 : Kd.C k142 w A1 l1.length l1) (hc1 : l1.length ≤ c1) (h : metrolabref47_SameTools.f k l0 l1 = some r) :
    Calls Tryd.prog 60 #[.slice A0 l0.length c0, .slice A1 l1.length c1] w fun e w' => e = .returned (.bool r) ∧ Drawn0 w w' := by
  have hu142 := Tryd.underlying142
  have HR0 := Aside0.mk hr0
  have HC0 := Aside0.mk hc0
  clear hr0 hc0
  have HR1 := Aside0.mk hr1
  have HC1 := Aside0.mk hc1
  clear hr1 hc1
  have H : (if (l0.length : Int) = (l1.length : Int) then (metrolabref47_SameTools.l0 k l0 l1 0) else (some false)) = some r := h
  clear h
  by_cases c3 : (l0.length : Int) = (l1.length : Int)
  · rw [if_pos c3] at H
    have c3b0 : ((l0.length : Int) == (l1.length : Int)) = true := beq_iff_eq.mpr c3
    have c3b1 : ((l0.length : Int) != (l1.length : Int)) = false := bne_eq_false_iff_eq.mpr c3
    have c3b2 : (l0.length == l1.length) = true := by first | simpa using c3 | (simp at c3 ⊢; omega)
    clear c3
    have H' := Aside0.mk H
    clear H
    go_enter Tryd.func60, Tryd.ntmps60
    go_wp2
    repeat (go_quiet (fail); try go_wp2)
    go_loopg [5] k (fun kq v5 w' => ∃ (x5_1 : Int), v5 = .int .i64 x5_1 ∧ Aside0 (metrolabref47_SameTools.l0 kq l0 l1 x5_1 = some r) ∧ Aside0 (kq ≤ k) ∧ Drawn0 w w')
    case atStart => exact ⟨(0), (by first | rfl | (simp; done) | (simp [*]; done)), H', ⟨Nat.le_refl _⟩, by repeat (first | exact Drawn0.refl _ | apply Drawn0.step)⟩
    case round =>
      clear H'
      try clear c1
      try clear p2
      try clear c3
      try clear c3b0
      try clear c3b1
      try clear c3b2
      obtain ⟨x5_1, rfl, HA, HK1, ⟨m1, rfl⟩⟩ := hrel
      cases gk with
      | zero => exact absurd HA.out (by simp [metrolabref47_SameTools.l0])
      | succ k1 =>
        have H := HA.out
        clear HA
        simp only [metrolabref47_SameTools.l0] at H
        by_cases c4 : x5_1 < (l0.length : Int)
        · rw [if_pos c4] at H
          have c4b0 : decide (x5_1 < (l0.length : Int)) = true := decide_eq_true c4
          clear c4
          by_cases c5 : 0 ≤ x5_1
          · rw [if_pos c5] at H
            have c5b0 : decide (0 ≤ x5_1) = true := decide_eq_true c5
            clear c5
            by_cases c6 : x5_1 < (l1.length : Int)
            · rw [if_pos c6] at H
              have c6b0 : decide (x5_1 < (l1.length : Int)) = true := decide_eq_true c6
              clear c6
              by_cases c7 : ((!(((rd_T142 l0 x5_1).f0.f0) == ((rd_T142 l1 x5_1).f0.f0)) || (!(((rd_T142 l0 x5_1).f0.f1) == ((rd_T142 l1 x5_1).f0.f1)))) || (!(((rd_T142 l0 x5_1).f1) == ((rd_T142 l1 x5_1).f1)) || (!(((rd_T142 l0 x5_1).f2) == ((rd_T142 l1 x5_1).f2))))) = true
              · rw [if_pos c7] at H
                have c7b0 : ((!(((rd_T142 l0 x5_1).f0.f0) == ((rd_T142 l1 x5_1).f0.f0)) || (!(((rd_T142 l0 x5_1).f0.f1) == ((rd_T142 l1 x5_1).f0.f1)))) || (!(((rd_T142 l0 x5_1).f1) == ((rd_T142 l1 x5_1).f1)) || (!(((rd_T142 l0 x5_1).f2) == ((rd_T142 l1 x5_1).f2))))) = true := c7
                clear c7
                obtain rfl := Option.some.inj H
                have p327 : 0 ≤ (x5_1 : Int) := of_decide_eq_true (by first | (with_reducible assumption) | assumption)
                have q327 : x5_1 < (l0.length : Int) := of_decide_eq_true (by first | (with_reducible assumption) | assumption)
                obtain ⟨ad327, e327, hx327_0, hx327_1, hx327_2, hx327_3⟩ := at_T142 HR0.out x5_1 p327 q327
                cases e327
                replace p327 := eq_true p327
                replace q327 := eq_true q327
                have p328 : 0 ≤ (x5_1 : Int) := of_decide_eq_true (by first | (with_reducible assumption) | assumption)
                have q328 : x5_1 < (l1.length : Int) := of_decide_eq_true (by first | (with_reducible assumption) | assumption)
                obtain ⟨ad328, e328, hx328_0, hx328_1, hx328_2, hx328_3⟩ := at_T142 HR1.out x5_1 p328 q328
                cases e328
                replace p328 := eq_true p328
                replace q328 := eq_true q328
                go_wp2
                repeat (go_quiet (fail); try go_wp2)
                go_ret
                exact ⟨by first | rfl | (simp; done) | (simp [*]; done), by repeat (first | exact Drawn0.refl _ | apply Drawn0.step)⟩
              · rw [if_neg c7] at H
                have c7b0 : ((!(((rd_T142 l0 x5_1).f0.f0) == ((rd_T142 l1 x5_1).f0.f0)) || (!(((rd_T142 l0 x5_1).f0.f1) == ((rd_T142 l1 x5_1).f0.f1)))) || (!(((rd_T142 l0 x5_1).f1) == ((rd_T142 l1 x5_1).f1)) || (!(((rd_T142 l0 x5_1).f2) == ((rd_T142 l1 x5_1).f2))))) = false := by simpa using c7
                clear c7
                have H' := Aside0.mk H
                clear H
                have p327 : 0 ≤ (x5_1 : Int) := of_decide_eq_true (by first | (with_reducible assumption) | assumption)
                have q327 : x5_1 < (l0.length : Int) := of_decide_eq_true (by first | (with_reducible assumption) | assumption)
                obtain ⟨ad327, e327, hx327_0, hx327_1, hx327_2, hx327_3⟩ := at_T142 HR0.out x5_1 p327 q327
                cases e327
                replace p327 := eq_true p327
                replace q327 := eq_true q327
                have p328 : 0 ≤ (x5_1 : Int) := of_decide_eq_true (by first | (with_reducible assumption) | assumption)
                have q328 : x5_1 < (l1.length : Int) := of_decide_eq_true (by first | (with_reducible assumption) | assumption)
                obtain ⟨ad328, e328, hx328_0, hx328_1, hx328_2, hx328_3⟩ := at_T142 HR1.out x5_1 p328 q328
                cases e328
                replace p328 := eq_true p328
                replace q328 := eq_true q328
                go_wp2
                repeat (go_quiet (fail); try go_wp2)
                go_roundg k1
                case measure => have := HK1.out; omega
                case rel => exact ⟨(wrap64 (x5_1 + 1)), (by first | rfl | (simp; done) | (simp [*]; done)), H', ⟨by have := HK1.out; omega⟩, by repeat (first | exact Drawn0.refl _ | apply Drawn0.step)⟩
            · rw [if_neg c6] at H
              exact absurd H (by simp)
          · rw [if_neg c5] at H
            exact absurd H (by simp)
        · rw [if_neg c4] at H
          have c4b0 : decide (x5_1 < (l0.length : Int)) = false := decide_eq_false c4
          clear c4
          obtain rfl := Option.some.inj H
          go_wp2
          repeat (go_quiet (fail); try go_wp2)
          go_ret
          exact ⟨by first | rfl | (simp; done) | (simp [*]; done), by repeat (first | exact Drawn0.refl _ | apply Drawn0.step)⟩
  · rw [if_neg c3] at H
    have c3b0 : ((l0.length : Int) == (l1.length : Int)) = false := beq_eq_false_iff_ne.mpr c3
    have c3b1 : ((l0.length : Int) != (l1.length : Int)) = true := bne_iff_ne.mpr c3
    have c3b2 : (l0.length == l1.length) = false := by first | simpa using c3 | (simp at c3 ⊢; omega)
    obtain rfl := Option.some.inj H
    go_enter Tryd.func60, Tryd.ntmps60
    go_wp2
    repeat (go_quiet (fail); try go_wp2)
    go_ret
    exact ⟨by first | rfl | (simp; done) | (simp [*]; done), by repeat (first | exact Drawn0.refl _ | apply Drawn0.step)⟩
end Go.Proofs.YtjemaonejkepcaaDoor.G
namespace Go.Proofs.YtjemaonejkepcaaDoor.G
open Go.Proofs.YtjemaonejkepcaaDoor.B
open Go.RowKit Go.Proofs.YtjemaonejkepcaaDoorW.PrintWords Go.Proofs.YtjemaonejkepcaaDoorW.PrintLast Go.Proofs.YtjemaonejkepcaaDoorW.PrintMore
attribute [local go_sem] max2_int min2_int max_two min_two max_three min_three max_four min_four   -- for this text's walks alone
set_option linter.unusedVariables false
set_option linter.unusedSimpArgs false
def metrolablaw47_tools.l0 : Nat → List (S142) → List (S56) → Int → Int → Option ((List (S142)))
  | 0, _, _, _, _ => none
  | k + 1, x3, x6, x7, x8 => if x8 < x7 then (if 0 ≤ x8 then (if x8 < (x6.length : Int) then (if x3.length < 4398046511104 then (metrolablaw47_tools.l0 k (x3 ++ [(⟨(⟨(rd_T56 x6 x8).f0.f0, (rd_T56 x6 x8).f0.f1⟩ : S23), (rd_T56 x6 x8).f1, (rd_T56 x6 x8).f2⟩ : S142)]) x6 x7 (wrap64 (x8 + 1))) else (none)) else (none)) else (none)) else (some x3)
def metrolablaw47_tools.f (k : Nat) (l0 : List (S56)) : Option ((List (S142))) := metrolablaw47_tools.l0 k ([] : List (S142)) l0 (l0.length : Int) 0
theorem metrolablaw47_tools.mono_l : ∀ k, (∀ y0 y1 y2 y3, LeO (metrolablaw47_tools.l0 k y0 y1 y2 y3) (metrolablaw47_tools.l0 (k + 1) y0 y1 y2 y3))
  | 0 => fun _ _ _ _ r h => by simp [metrolablaw47_tools.l0] at h
  | k + 1 => by
    have ih0 := metrolablaw47_tools.mono_l k
    · intro y0 y1 y2 y3
      unfold metrolablaw47_tools.l0
      repeat' first
      | (with_reducible exact ih0 _ _ _ _)
      | (with_reducible exact LeO.refl _)
      | (with_reducible exact LeO.none _)
      | (with_reducible refine LeO.ite ?_ ?_)
      | (with_reducible refine LeO.bind ?_ (fun _ => ?_))
      | exact ih0 _ _ _ _
      | exact LeO.none _
      | refine LeO.ite ?_ ?_
      | refine LeO.bind ?_ (fun _ => ?_)
theorem metrolablaw47_tools.mono : ∀ a0 k, LeO (metrolablaw47_tools.f k a0) (metrolablaw47_tools.f (k + 1) a0) := by
  intro a0 k
  have ih0 := metrolablaw47_tools.mono_l k
  unfold metrolablaw47_tools.f
  repeat' first
      | (with_reducible exact ih0 _ _ _ _)
      | (with_reducible exact LeO.refl _)
      | (with_reducible exact LeO.none _)
      | (with_reducible refine LeO.ite ?_ ?_)
      | (with_reducible refine LeO.bind ?_ (fun _ => ?_))
      | exact ih0 _ _ _ _
      | exact LeO.none _
      | refine LeO.ite ?_ ?_
      | refine LeO.bind ?_ (fun _ => ?_)
set_option maxHeartbeats 8000000 in
set_option maxRecDepth 100000 in
theorem metrolablaw47_tools.calls (k : Nat) (A0 : Option Addr) (c0 : Nat) (l0 : List (S56)) (r : List (S142)) (w : World) (hr0 : Kd.C k56 w A0 l0.length l0) (hc0 : l0.length ≤ c0) (h : metrolablaw47_tools.f k l0 = some r) :
    Calls Tryd.prog 61 #[.slice A0 l0.length c0] w fun e w' => ∃ v0_ : Value, e = .returned (v0_) ∧ Kd.R k142 142 w' w.heap.size (fun _ => True) v0_ r ∧ Below w.heap.size w w' := by
  have hu56 := Tryd.underlying56
  have HR0 := Aside0.mk hr0
  have HC0 := Aside0.mk hc0
  clear hr0 hc0
  have HB := Aside0.mk (Below.refl w.heap.size w)
  have H : (metrolablaw47_tools.l0 k ([] : List (S142)) l0 (l0.length : Int) 0) = some r := h
  clear h
  have H' := Aside0.mk H
  clear H
  go_enter Tryd.func61, Tryd.ntmps61
  go_wp2
  go_loopg [3, 8] k (fun kq v3 v8 w' => ∃ (x3_1 : List (S142)) (x8_1 : Int), v8 = .int .i64 x8_1 ∧ Aside0 (metrolablaw47_tools.l0 kq x3_1 l0 (l0.length : Int) x8_1 = some r) ∧ Aside0 (kq ≤ k) ∧ Aside0 (Kd.R k142 142 w' w.heap.size (fun _ => True) v3 x3_1) ∧ Aside0 (Below w.heap.size w w'))
  case atStart => exact ⟨(([] : List (S142))), (0), (by first | rfl | (simp; done) | (simp [*]; done)), H', ⟨Nat.le_refl _⟩, ⟨by first | exact Kd.R_nil _ _ _ _ _ | exact Kd.N_nil _ _ _ _ _ | exact Kd.V_nil _ _ _ _ _ | exact Kd.Q_nil _ _ _ _ _ | exact Kd.S_nil _ _ _ _ _⟩, ⟨by repeat (first | (with_reducible first | exact HB.out | apply below_alloc | apply pw_below_drewN | apply below_drew1) | exact HB.out)⟩⟩
  case round =>
    clear H'
    obtain ⟨x3_1, x8_1, rfl, HA, HK1, HO_3, HB⟩ := hrel
    cases gk with
    | zero => exact absurd HA.out (by simp [metrolablaw47_tools.l0])
    | succ k1 =>
      have H := HA.out
      clear HA
      simp only [metrolablaw47_tools.l0] at H
      by_cases c2 : x8_1 < (l0.length : Int)
      · rw [if_pos c2] at H
        have c2b0 : decide (x8_1 < (l0.length : Int)) = true := decide_eq_true c2
        clear c2
        by_cases c3 : 0 ≤ x8_1
        · rw [if_pos c3] at H
          have c3b0 : decide (0 ≤ x8_1) = true := decide_eq_true c3
          clear c3
          by_cases c4 : x8_1 < (l0.length : Int)
          · rw [if_pos c4] at H
            have c4b0 : decide (x8_1 < (l0.length : Int)) = true := decide_eq_true c4
            clear c4
            by_cases c5 : x3_1.length < 4398046511104
            · rw [if_pos c5] at H
              have LMc5 := Aside0.mk c5
              clear c5
              obtain ⟨y331, hy331⟩ : ∃ y_ : List (S142), y_ = (x3_1 ++ [(⟨(⟨(rd_T56 l0 x8_1).f0.f0, (rd_T56 l0 x8_1).f0.f1⟩ : S23), (rd_T56 l0 x8_1).f1, (rd_T56 l0 x8_1).f2⟩ : S142)]) := ⟨_, rfl⟩
              replace H : (metrolablaw47_tools.l0 k1 y331 l0 (l0.length : Int) (wrap64 (x8_1 + 1))) = some r := by first | (rw [hy331]; with_reducible exact H) | (have H2_ := (Option.bind_some _ _).symm.trans H; rw [hy331]; with_reducible exact H2_) | (have H2_ := (Option.bind_some _ _).symm.trans H; with_reducible exact H2_) | with_reducible exact H | (rw [hy331]; exact H) | exact H
              have Ny331 := Aside0.mk hy331
              clear hy331
              have H' := Aside0.mk H
              clear H
              have p329 : 0 ≤ (x8_1 : Int) := of_decide_eq_true (by first | (with_reducible assumption) | assumption)
              have q329 : x8_1 < (l0.length : Int) := of_decide_eq_true (by first | (with_reducible assumption) | assumption)
              obtain ⟨ad329, e329, hx329_0, hx329_1, hx329_2, hx329_3⟩ := at_T56 HR0.out x8_1 p329 q329
              cases e329
              replace hx329_0 := (HB.out.cell (World.block_lt_of_cell? w _ hx329_0)).trans hx329_0
              replace hx329_1 := (HB.out.cell (World.block_lt_of_cell? w _ hx329_1)).trans hx329_1
              replace hx329_2 := (HB.out.cell (World.block_lt_of_cell? w _ hx329_2)).trans hx329_2
              replace hx329_3 := (HB.out.cell (World.block_lt_of_cell? w _ hx329_3)).trans hx329_3
              replace p329 := eq_true p329
              replace q329 := eq_true q329
              go_wp2_with (first | ((with_reducible refine gate_dst (N := 5) rfl ?_); refine box_event ?hg (N := 5) ?hd (cs := #[.int .i64 0, .int .i64 0, .bool false, .int .i64 0]) (t := 56) ?hr ?_; (case hd => rfl); (case hg => rfl); (case hr => first | (go_simp; done) | (go_simp; rfl)); intro gb330 hg w6 hbox hb; have n0_ := Aside0.mk (Kd.R_below (by (with_reducible repeat (first | apply Kd.R_alloc | apply Kd.R_drewN | apply Kd.R_drew)); exact HO_3.out) hb); have n1_ := Aside0.mk (below_step (by repeat (first | (with_reducible first | exact HB.out | apply below_alloc | apply pw_below_drewN | apply below_drew1) | exact HB.out)) hb); have n2_ := Aside0.mk (hbox); have n3_ := Aside0.mk ((by rw [hg]; exact (below_size (by repeat (first | (with_reducible first | exact HB.out | apply below_alloc | apply pw_below_drewN | apply below_drew1) | exact HB.out))) : w.heap.size ≤ gb330)); have n4_ := Aside0.mk ((by rw [hg]; exact (below_size (by repeat (first | (with_reducible first | exact HB.out | apply below_alloc | apply pw_below_drewN | apply below_drew1) | exact HB.out))) : w.heap.size ≤ gb330)); clear HO_3; clear HB; have HO_3 := n0_; have HB := n1_; have BK330 := n2_; have GW330 := n3_; have GE330 := n4_; clear n0_ n1_ n2_ n3_ n4_; clear hb hbox hg; have hcz7_0 : w6.cell? ⟨gb330, 0, none⟩ = some (.int .i64 0) := (blk_cell BK330.out 0).trans rfl; have hcz7_1 : w6.cell? ⟨gb330, 1, none⟩ = some (.int .i64 0) := (blk_cell BK330.out 1).trans rfl; have hcz7_2 : w6.cell? ⟨gb330, 2, none⟩ = some (.bool false) := (blk_cell BK330.out 2).trans rfl; have hcz7_3 : w6.cell? ⟨gb330, 3, none⟩ = some (.int .i64 0) := (blk_cell BK330.out 3).trans rfl; have hfz7_0 := blk_frozen BK330.out 0; have hfz7_1 := blk_frozen BK330.out 1; have hfz7_2 := blk_frozen BK330.out 2; have hfz7_3 := blk_frozen BK330.out 3) | ((with_reducible refine gate_builtin (b := .append) (xs := #[.tmp 12, .tmp 14]) rfl ?_); at_builtin; refine Kd.R_append k142 (w0 := w) w.heap.size rfl (.tmp 12) (.tmp 14) 95 142 (.agg #[(.int .i64 0), (.int .i64 0), (.bool false), (.int .i64 0)]) 32 rfl Tryd.underlying95 info142 rfl (by decide) (by omega) u3 x3_1 (⟨(⟨(rd_T56 l0 x8_1).f0.f0, (rd_T56 l0 x8_1).f0.f1⟩ : S23), (rd_T56 l0 x8_1).f1, (rd_T56 l0 x8_1).f2⟩ : S142) [.int .i64 ((rd_T56 l0 x8_1).f0.f0), .int .i64 ((rd_T56 l0 x8_1).f0.f1), .bool ((rd_T56 l0 x8_1).f1), .int .i64 ((rd_T56 l0 x8_1).f2)] (fun _ => True) (fun _ => False) rfl (by first | (go_simp; done) | (go_simp; rfl)) ?aP (fun _ hk => hk.elim) ?aF ?aO ?aB ?aS ?aL ?_; (case aP => exact k142_mkM _ _ _ (⟨(⟨(rd_T56 l0 x8_1).f0.f0, (rd_T56 l0 x8_1).f0.f1⟩ : S23), (rd_T56 l0 x8_1).f1, (rd_T56 l0 x8_1).f2⟩ : S142)); (case aB => exact (by repeat (first | (with_reducible first | exact HB.out | apply below_alloc | apply pw_below_drewN | apply below_drew1 | refine below_set ?_ GE330.out) | exact HB.out))); (case aF => exact (fun _ _ => trivial)); (case aO => exact (by (with_reducible repeat (first | apply Kd.R_alloc | apply Kd.R_drewN | apply Kd.R_drew)); exact Kd.R_mono (Kd.R_far (p := ⟨gb330, 3, none⟩) (Kd.R_far (p := ⟨gb330, 2, none⟩) (Kd.R_far (p := ⟨gb330, 1, none⟩) (Kd.R_far (p := ⟨gb330, 0, none⟩) (Kd.R_types HO_3.out BK330.out (by decide)) (fun _ hk => hk.2) (.int .i64 ((rd_T56 l0 x8_1).f0.f0))) (fun _ hk => hk.2) (.int .i64 ((rd_T56 l0 x8_1).f0.f1))) (fun _ hk => hk.2) (.bool ((rd_T56 l0 x8_1).f1))) (fun _ hk => hk.2) (.int .i64 ((rd_T56 l0 x8_1).f2))) (fun _ hk => trivial))); (case aS => exact (below_size (by repeat (first | (with_reducible first | exact HB.out | apply below_alloc | apply pw_below_drewN | apply below_drew1 | refine below_set ?_ GE330.out) | exact HB.out)))); (case aL => have := LMc5.out; omega); intro v332 w8 ho hb hg hat; rw [← Ny331.out] at ho; have n0_ := Aside0.mk (blk_grown (g := gb330) (o := .cells #[.int .i64 ((rd_T56 l0 x8_1).f0.f0), .int .i64 ((rd_T56 l0 x8_1).f0.f1), .bool ((rd_T56 l0 x8_1).f1), .int .i64 ((rd_T56 l0 x8_1).f2)] 56 (0, 0)) (by (with_reducible repeat (first | refine blk_drewN ?_ _ | refine blk_drew ?_ | refine blk_alloc ?_ _)); refine blk_put (cs := #[.int .i64 ((rd_T56 l0 x8_1).f0.f0), .int .i64 ((rd_T56 l0 x8_1).f0.f1), .bool ((rd_T56 l0 x8_1).f1), .int .i64 0]) ?_ 3 _ rfl; (with_reducible repeat (first | refine blk_drewN ?_ _ | refine blk_drew ?_ | refine blk_alloc ?_ _)); refine blk_put (cs := #[.int .i64 ((rd_T56 l0 x8_1).f0.f0), .int .i64 ((rd_T56 l0 x8_1).f0.f1), .bool false, .int .i64 0]) ?_ 2 _ rfl; (with_reducible repeat (first | refine blk_drewN ?_ _ | refine blk_drew ?_ | refine blk_alloc ?_ _)); refine blk_put (cs := #[.int .i64 ((rd_T56 l0 x8_1).f0.f0), .int .i64 0, .bool false, .int .i64 0]) ?_ 1 _ rfl; (with_reducible repeat (first | refine blk_drewN ?_ _ | refine blk_drew ?_ | refine blk_alloc ?_ _)); refine blk_put (cs := #[.int .i64 0, .int .i64 0, .bool false, .int .i64 0]) ?_ 0 _ rfl; (with_reducible repeat (first | refine blk_drewN ?_ _ | refine blk_drew ?_ | refine blk_alloc ?_ _)); exact BK330.out) hg (Kd.R_ne HO_3.out BK330.out (by decide))); have n1_ := Aside0.mk (hb); have n2_ := Aside0.mk (ho); clear BK330; clear HB; clear HO_3; have BK330 := n0_; have HB := n1_; have HO333 := n2_; clear n0_ n1_ n2_; clear ho hb hg hat))
              go_roundg k1
              case measure => have := HK1.out; omega
              case rel => exact ⟨(y331), (wrap64 (x8_1 + 1)), (by first | rfl | (simp; done) | (simp [*]; done)), H', ⟨by have := HK1.out; omega⟩, ⟨by (with_reducible repeat (first | apply Kd.R_alloc | apply Kd.R_drewN | apply Kd.R_drew)); exact HO333.out⟩, ⟨by repeat (first | (with_reducible first | exact HB.out | apply below_alloc | apply pw_below_drewN | apply below_drew1 | refine below_set ?_ GE330.out) | exact HB.out)⟩⟩
            · rw [if_neg c5] at H
              exact absurd H (by simp)
          · rw [if_neg c4] at H
            exact absurd H (by simp)
        · rw [if_neg c3] at H
          exact absurd H (by simp)
      · rw [if_neg c2] at H
        have c2b0 : decide (x8_1 < (l0.length : Int)) = false := decide_eq_false c2
        clear c2
        obtain rfl := Option.some.inj H
        go_wp2
        go_ret
        exact ⟨_, by first | rfl | (simp [errW_none, errW_some] <;> rfl) | (simp [*, errW_none, errW_some] <;> rfl), by (with_reducible repeat (first | apply Kd.R_alloc | apply Kd.R_drewN | apply Kd.R_drew)); exact HO_3.out, by repeat (first | (with_reducible first | exact HB.out | apply below_alloc | apply pw_below_drewN | apply below_drew1) | exact HB.out)⟩
end Go.Proofs.YtjemaonejkepcaaDoor.G
namespace Go.Proofs.YtjemaonejkepcaaDoor.G
open Go.Proofs.YtjemaonejkepcaaDoor.B
open Go.RowKit Go.Proofs.YtjemaonejkepcaaDoorW.PrintWords Go.Proofs.YtjemaonejkepcaaDoorW.PrintLast Go.Proofs.YtjemaonejkepcaaDoorW.PrintMore
attribute [local go_sem] max2_int min2_int max_two min_two max_three min_three max_four min_four   -- for this text's walks alone
set_option linter.unusedVariables false
set_option linter.unusedSimpArgs false
def metrolablaw47_GaugeLoses.j0 : Nat → List (S27) → List (S104) → Bool → Bool → Option (Bool)
  | 0, _, _, _, _ => none
  | k + 1, x0, x1, x2, x22 => if x22 = true then ((metrolablaw47_awake.f k).bind fun t335 => (some t335)) else ((gauge_Loss.f k x0 x1).bind fun bt336 => ((metrolablaw47_elements.f k x1).bind fun t338 => ((metrolabref47_Loss.f k x0 t338).bind fun bt341 => ((gauge_Made.f k x1 x2).bind fun bt343 => ((metrolablaw47_elements.f k x1).bind fun t347 => ((metrolabref47_Made.f k t347 x2).bind fun bt350 => (if bt336.1 = bt341.1 then (if bt336.2 = bt341.2 then ((metrolablaw47_tools.f k bt343.1).bind fun t354 => ((metrolabref47_SameTools.f k t354 bt350.1).bind fun t357 => (if t357 = true then (if bt343.2 = bt350.2 then ((metrolablaw47_awake.f k).bind fun t358 => (some t358)) else (some false)) else (some false)))) else (some false)) else (some false))))))))
def metrolablaw47_GaugeLoses.f (k : Nat) (l0 : List (S27)) (l1 : List (S104)) (a2 : Bool) : Option (Bool) := (metrolablaw47_few.f l0).bind fun t334 => (if t334 = true then (metrolablaw47_GaugeLoses.j0 k l0 l1 a2 (decide ((l1.length : Int) > 40))) else (metrolablaw47_GaugeLoses.j0 k l0 l1 a2 true))
theorem metrolablaw47_GaugeLoses.mono_l : ∀ k, (∀ y0 y1 y2 y3, LeO (metrolablaw47_GaugeLoses.j0 k y0 y1 y2 y3) (metrolablaw47_GaugeLoses.j0 (k + 1) y0 y1 y2 y3))
  | 0 => fun _ _ _ _ r h => by simp [metrolablaw47_GaugeLoses.j0] at h
  | k + 1 => by
    have ih0 := metrolablaw47_GaugeLoses.mono_l k
    · intro y0 y1 y2 y3
      unfold metrolablaw47_GaugeLoses.j0
      repeat' first
      | (with_reducible exact ih0 _ _ _ _)
      | (with_reducible exact gauge_Loss.mono _ _ _)
      | (with_reducible exact gauge_Made.mono _ _ _)
      | (with_reducible exact metrolablaw47_awake.mono _)
      | (with_reducible exact metrolablaw47_elements.mono _ _)
      | (with_reducible exact metrolablaw47_tools.mono _ _)
      | (with_reducible exact metrolabref47_Loss.mono _ _ _)
      | (with_reducible exact metrolabref47_Made.mono _ _ _)
      | (with_reducible exact metrolabref47_SameTools.mono _ _ _)
      | (with_reducible exact LeO.refl _)
      | (with_reducible exact LeO.none _)
      | (with_reducible refine LeO.ite ?_ ?_)
      | (with_reducible refine LeO.bind ?_ (fun _ => ?_))
      | exact ih0 _ _ _ _
      | exact gauge_Loss.mono _ _ _
      | exact gauge_Made.mono _ _ _
      | exact metrolablaw47_awake.mono _
      | exact metrolablaw47_elements.mono _ _
      | exact metrolablaw47_tools.mono _ _
      | exact metrolabref47_Loss.mono _ _ _
      | exact metrolabref47_Made.mono _ _ _
      | exact metrolabref47_SameTools.mono _ _ _
      | exact LeO.none _
      | refine LeO.ite ?_ ?_
      | refine LeO.bind ?_ (fun _ => ?_)
theorem metrolablaw47_GaugeLoses.mono : ∀ a0 a1 a2 k, LeO (metrolablaw47_GaugeLoses.f k a0 a1 a2) (metrolablaw47_GaugeLoses.f (k + 1) a0 a1 a2) := by
  intro a0 a1 a2 k
  have ih0 := metrolablaw47_GaugeLoses.mono_l k
  unfold metrolablaw47_GaugeLoses.f
  repeat' first
      | (with_reducible exact ih0 _ _ _ _)
      | (with_reducible exact gauge_Loss.mono _ _ _)
      | (with_reducible exact gauge_Made.mono _ _ _)
      | (with_reducible exact metrolablaw47_awake.mono _)
      | (with_reducible exact metrolablaw47_elements.mono _ _)
      | (with_reducible exact metrolablaw47_tools.mono _ _)
      | (with_reducible exact metrolabref47_Loss.mono _ _ _)
      | (with_reducible exact metrolabref47_Made.mono _ _ _)
      | (with_reducible exact metrolabref47_SameTools.mono _ _ _)
      | (with_reducible exact LeO.refl _)
      | (with_reducible exact LeO.none _)
      | (with_reducible refine LeO.ite ?_ ?_)
      | (with_reducible refine LeO.bind ?_ (fun _ => ?_))
      | exact ih0 _ _ _ _
      | exact gauge_Loss.mono _ _ _
      | exact gauge_Made.mono _ _ _
      | exact metrolablaw47_awake.mono _
      | exact metrolablaw47_elements.mono _ _
      | exact metrolablaw47_tools.mono _ _
      | exact metrolabref47_Loss.mono _ _ _
      | exact metrolabref47_Made.mono _ _ _
      | exact metrolabref47_SameTools.mono _ _ _
      | exact LeO.none _
      | refine LeO.ite ?_ ?_
      | refine LeO.bind ?_ (fun _ => ?_)
set_option maxHeartbeats 8000000 in
set_option maxRecDepth 100000 in
theorem metrolablaw47_GaugeLoses.calls (k : Nat) (A0 : Option Addr) (c0 : Nat) (l0 : List (S27)) (A1 : Option Addr) (c1 : Nat) (l1 : List (S104)) (a2 : Bool) (r : Bool) (w : World) (hr0 : Kd.C k27 w A0 l0.length l0) (hc0 : l0.length ≤ c0) (hr1 : Kd.C k104 w A1 l1.length l1) (hc1 : l1.length ≤ c1) (h : metrolablaw47_GaugeLoses.f k l0 l1 a2 = some r) (hS : SignsAt w) :
    Calls Tryd.prog 14 #[.slice A0 l0.length c0, .slice A1 l1.length c1, .bool a2] w fun e w' => e = .returned (.bool r) ∧ Below w.heap.size w w' := by
  have HS := Aside0.mk hS
  clear hS
  have HR0 := Aside0.mk hr0
  have HC0 := Aside0.mk hc0
  clear hr0 hc0
  have HR1 := Aside0.mk hr1
  have HC1 := Aside0.mk hc1
  clear hr1 hc1
  have HB := Aside0.mk (Below.refl w.heap.size w)
  have H : ((metrolablaw47_few.f l0).bind fun t334 => (if t334 = true then (metrolablaw47_GaugeLoses.j0 k l0 l1 a2 (decide ((l1.length : Int) > 40))) else (metrolablaw47_GaugeLoses.j0 k l0 l1 a2 true))) = some r := h
  clear h
  have HC4 := Aside0.mk H
  clear H
  go_enter Tryd.func14, Tryd.ntmps14
  go_upto_region 1 with (fail)
  go_cut [22] (fun v22 wc => ∃ (kq : Nat) (x22_3 : Bool), v22 = .bool x22_3 ∧ Aside0 (metrolablaw47_GaugeLoses.j0 kq l0 l1 a2 x22_3 = some r) ∧ Aside0 (kq ≤ k) ∧ Aside0 (Below w.heap.size w wc))
  case first =>
    have H := HC4.out
    clear HC4
    replace H := Option.bind_eq_some_iff.mp H
    obtain ⟨t334, A50, H⟩ := H
    replace H : (if t334 = true then (metrolablaw47_GaugeLoses.j0 k l0 l1 a2 (decide ((l1.length : Int) > 40))) else (metrolablaw47_GaugeLoses.j0 k l0 l1 a2 true)) = some r := H
    have A5 := Aside0.mk A50
    clear A50
    by_cases c6 : t334 = true
    · subst c6
      have H1 : (metrolablaw47_GaugeLoses.j0 k l0 l1 a2 (decide ((l1.length : Int) > 40))) = some r := by rw [if_pos rfl] at H; exact H
      clear H
      have H := H1
      clear H1
      have H' := Aside0.mk H
      clear H
      go_wp2_with (first | ((with_reducible refine gate_callee (f := 29) rfl ?_); refine goesL_ (some 16) rfl rfl Tryd.func29 (by kernel_rfl) rfl #[.slice A0 l0.length c0] rfl (by (try simp only [List.map_toArray, List.map_cons, List.map_nil]); first | done | rfl | (simp only [List.length_drop, List.length_take]; rfl)) ?_; (with_reducible refine (metrolablaw47_few.calls _ _ l0 true _ ?side1 ?side2 A5.out).mono ?_); (case side1 => repeat (first | exact (Kd.C_below HR0.out HB.out) | (with_reducible refine Kd.C_alloc ?_ _) | (with_reducible refine Kd.C_drewN ?_ _) | (with_reducible refine Kd.C_drew ?_))); (case side2 => exact HC0.out); rintro e w' ⟨rfl, ⟨nd, rfl⟩⟩; refine ⟨_, rfl, ?_⟩))
      go_meet
      case rel => exact ⟨_, (decide ((l1.length : Int) > 40)), (by first | rfl | (simp; done) | (simp [*]; done)), H', ⟨by first | omega | exact Nat.le_refl _⟩, ⟨by repeat (first | (with_reducible first | exact HB.out | apply below_alloc | apply pw_below_drewN | apply below_drew1) | exact HB.out)⟩⟩
    · replace c6 := Bool.eq_false_iff.mpr c6
      subst c6
      have H1 : (metrolablaw47_GaugeLoses.j0 k l0 l1 a2 true) = some r := by rw [if_neg (show ¬ (false = true) by decide)] at H; exact H
      clear H
      have H := H1
      clear H1
      have H' := Aside0.mk H
      clear H
      go_wp2_with (first | ((with_reducible refine gate_callee (f := 29) rfl ?_); refine goesL_ (some 16) rfl rfl Tryd.func29 (by kernel_rfl) rfl #[.slice A0 l0.length c0] rfl (by (try simp only [List.map_toArray, List.map_cons, List.map_nil]); first | done | rfl | (simp only [List.length_drop, List.length_take]; rfl)) ?_; (with_reducible refine (metrolablaw47_few.calls _ _ l0 false _ ?side1 ?side2 A5.out).mono ?_); (case side1 => repeat (first | exact (Kd.C_below HR0.out HB.out) | (with_reducible refine Kd.C_alloc ?_ _) | (with_reducible refine Kd.C_drewN ?_ _) | (with_reducible refine Kd.C_drew ?_))); (case side2 => exact HC0.out); rintro e w' ⟨rfl, ⟨nd, rfl⟩⟩; refine ⟨_, rfl, ?_⟩))
      go_meet
      case rel => exact ⟨_, (true), (by first | rfl | (simp; done) | (simp [*]; done)), H', ⟨by first | omega | exact Nat.le_refl _⟩, ⟨by repeat (first | (with_reducible first | exact HB.out | apply below_alloc | apply pw_below_drewN | apply below_drew1) | exact HB.out)⟩⟩
  case rest =>
    clear HC4
    try clear c1
    try clear c2
    try clear p2
    try clear c6
    obtain ⟨kq, x22_3, rfl, HA, HJ3, HB⟩ := hcut
    cases kq with
    | zero => exact absurd HA.out (by simp [metrolablaw47_GaugeLoses.j0])
    | succ kj3 =>
      have H := HA.out
      clear HA
      simp only [metrolablaw47_GaugeLoses.j0] at H
      by_cases c7 : x22_3 = true
      · subst c7
        have H1 : ((metrolablaw47_awake.f kj3).bind fun t335 => (some t335)) = some r := by rw [if_pos rfl] at H; exact H
        clear H
        have H := H1
        clear H1
        replace H := Option.bind_eq_some_iff.mp H
        obtain ⟨t335, A80, H⟩ := H
        replace H : (some t335) = some r := H
        have A8 := Aside0.mk A80
        clear A80
        obtain rfl := Option.some.inj H
        go_wp2_with (first | ((with_reducible refine gate_callee (f := 30) rfl ?_); refine goesL_ (some 23) rfl rfl Tryd.func30 (by kernel_rfl) rfl #[] rfl (by (try simp only [List.map_toArray, List.map_cons, List.map_nil]); first | done | rfl | (simp only [List.length_drop, List.length_take]; rfl)) ?_; (with_reducible refine (metrolablaw47_awake.calls kj3  t335 _ A8.out (by exact sig_below HS.out (by repeat (first | (with_reducible first | exact HB.out | apply below_alloc | apply pw_below_drewN | apply below_drew1 | fail) | exact HB.out)))).mono ?_); rintro e w9 ⟨rfl, hb⟩; refine ⟨_, rfl, ?_⟩; have n0_ := Aside0.mk (below_step (by repeat (first | (with_reducible first | exact HB.out | apply below_alloc | apply pw_below_drewN | apply below_drew1) | exact HB.out)) hb); clear HB; have HB := n0_; clear n0_; (try clear hb); (try clear hb2); (try clear hk); (try clear hi)))
        go_ret
        exact ⟨by first | rfl | (simp [errW_none, errW_some] <;> rfl) | (simp [*, errW_none, errW_some] <;> rfl), by repeat (first | (with_reducible first | exact HB.out | apply below_alloc | apply pw_below_drewN | apply below_drew1) | exact HB.out)⟩
      · replace c7 := Bool.eq_false_iff.mpr c7
        subst c7
        have H1 : ((gauge_Loss.f kj3 l0 l1).bind fun bt336 => ((metrolablaw47_elements.f kj3 l1).bind fun t338 => ((metrolabref47_Loss.f kj3 l0 t338).bind fun bt341 => ((gauge_Made.f kj3 l1 a2).bind fun bt343 => ((metrolablaw47_elements.f kj3 l1).bind fun t347 => ((metrolabref47_Made.f kj3 t347 a2).bind fun bt350 => (if bt336.1 = bt341.1 then (if bt336.2 = bt341.2 then ((metrolablaw47_tools.f kj3 bt343.1).bind fun t354 => ((metrolabref47_SameTools.f kj3 t354 bt350.1).bind fun t357 => (if t357 = true then (if bt343.2 = bt350.2 then ((metrolablaw47_awake.f kj3).bind fun t358 => (some t358)) else (some false)) else (some false)))) else (some false)) else (some false)))))))) = some r := by rw [if_neg (show ¬ (false = true) by decide)] at H; exact H
        clear H
        have H := H1
        clear H1
        replace H := Option.bind_eq_some_iff.mp H
        obtain ⟨⟨t336, t337⟩, A100, H⟩ := H
        replace H : ((metrolablaw47_elements.f kj3 l1).bind fun t338 => ((metrolabref47_Loss.f kj3 l0 t338).bind fun bt341 => ((gauge_Made.f kj3 l1 a2).bind fun bt343 => ((metrolablaw47_elements.f kj3 l1).bind fun t347 => ((metrolabref47_Made.f kj3 t347 a2).bind fun bt350 => (if t336 = bt341.1 then (if t337 = bt341.2 then ((metrolablaw47_tools.f kj3 bt343.1).bind fun t354 => ((metrolabref47_SameTools.f kj3 t354 bt350.1).bind fun t357 => (if t357 = true then (if bt343.2 = bt350.2 then ((metrolablaw47_awake.f kj3).bind fun t358 => (some t358)) else (some false)) else (some false)))) else (some false)) else (some false))))))) = some r := H
        have A10 := Aside0.mk A100
        clear A100
        replace H := Option.bind_eq_some_iff.mp H
        obtain ⟨t338, A110, H⟩ := H
        replace H : ((metrolabref47_Loss.f kj3 l0 t338).bind fun bt341 => ((gauge_Made.f kj3 l1 a2).bind fun bt343 => ((metrolablaw47_elements.f kj3 l1).bind fun t347 => ((metrolabref47_Made.f kj3 t347 a2).bind fun bt350 => (if t336 = bt341.1 then (if t337 = bt341.2 then ((metrolablaw47_tools.f kj3 bt343.1).bind fun t354 => ((metrolabref47_SameTools.f kj3 t354 bt350.1).bind fun t357 => (if t357 = true then (if bt343.2 = bt350.2 then ((metrolablaw47_awake.f kj3).bind fun t358 => (some t358)) else (some false)) else (some false)))) else (some false)) else (some false)))))) = some r := H
        have A11 := Aside0.mk A110
        clear A110
        replace H := Option.bind_eq_some_iff.mp H
        obtain ⟨⟨t341, t342⟩, A120, H⟩ := H
        replace H : ((gauge_Made.f kj3 l1 a2).bind fun bt343 => ((metrolablaw47_elements.f kj3 l1).bind fun t347 => ((metrolabref47_Made.f kj3 t347 a2).bind fun bt350 => (if t336 = t341 then (if t337 = t342 then ((metrolablaw47_tools.f kj3 bt343.1).bind fun t354 => ((metrolabref47_SameTools.f kj3 t354 bt350.1).bind fun t357 => (if t357 = true then (if bt343.2 = bt350.2 then ((metrolablaw47_awake.f kj3).bind fun t358 => (some t358)) else (some false)) else (some false)))) else (some false)) else (some false))))) = some r := H
        have A12 := Aside0.mk A120
        clear A120
        replace H := Option.bind_eq_some_iff.mp H
        obtain ⟨⟨t343, t344⟩, A130, H⟩ := H
        replace H : ((metrolablaw47_elements.f kj3 l1).bind fun t347 => ((metrolabref47_Made.f kj3 t347 a2).bind fun bt350 => (if t336 = t341 then (if t337 = t342 then ((metrolablaw47_tools.f kj3 t343).bind fun t354 => ((metrolabref47_SameTools.f kj3 t354 bt350.1).bind fun t357 => (if t357 = true then (if t344 = bt350.2 then ((metrolablaw47_awake.f kj3).bind fun t358 => (some t358)) else (some false)) else (some false)))) else (some false)) else (some false)))) = some r := H
        have A13 := Aside0.mk A130
        clear A130
        replace H := Option.bind_eq_some_iff.mp H
        obtain ⟨t347, A140, H⟩ := H
        replace H : ((metrolabref47_Made.f kj3 t347 a2).bind fun bt350 => (if t336 = t341 then (if t337 = t342 then ((metrolablaw47_tools.f kj3 t343).bind fun t354 => ((metrolabref47_SameTools.f kj3 t354 bt350.1).bind fun t357 => (if t357 = true then (if t344 = bt350.2 then ((metrolablaw47_awake.f kj3).bind fun t358 => (some t358)) else (some false)) else (some false)))) else (some false)) else (some false))) = some r := H
        have A14 := Aside0.mk A140
        clear A140
        replace H := Option.bind_eq_some_iff.mp H
        obtain ⟨⟨t350, t351⟩, A150, H⟩ := H
        replace H : (if t336 = t341 then (if t337 = t342 then ((metrolablaw47_tools.f kj3 t343).bind fun t354 => ((metrolabref47_SameTools.f kj3 t354 t350).bind fun t357 => (if t357 = true then (if t344 = t351 then ((metrolablaw47_awake.f kj3).bind fun t358 => (some t358)) else (some false)) else (some false)))) else (some false)) else (some false)) = some r := H
        have A15 := Aside0.mk A150
        clear A150
        by_cases c16 : t336 = t341
        · rw [if_pos c16] at H
          have c16b0 : (t336 == t341) = true := beq_iff_eq.mpr c16
          have c16b1 : (t336 != t341) = false := bne_eq_false_iff_eq.mpr c16
          clear c16
          by_cases c17 : t337 = t342
          · rw [if_pos c17] at H
            have c17b0 : (t337 == t342) = true := beq_iff_eq.mpr c17
            have c17b1 : (t337 != t342) = false := bne_eq_false_iff_eq.mpr c17
            clear c17
            replace H := Option.bind_eq_some_iff.mp H
            obtain ⟨t354, A180, H⟩ := H
            replace H : ((metrolabref47_SameTools.f kj3 t354 t350).bind fun t357 => (if t357 = true then (if t344 = t351 then ((metrolablaw47_awake.f kj3).bind fun t358 => (some t358)) else (some false)) else (some false))) = some r := H
            have A18 := Aside0.mk A180
            clear A180
            replace H := Option.bind_eq_some_iff.mp H
            obtain ⟨t357, A190, H⟩ := H
            replace H : (if t357 = true then (if t344 = t351 then ((metrolablaw47_awake.f kj3).bind fun t358 => (some t358)) else (some false)) else (some false)) = some r := H
            have A19 := Aside0.mk A190
            clear A190
            by_cases c20 : t357 = true
            · subst c20
              have H1 : (if t344 = t351 then ((metrolablaw47_awake.f kj3).bind fun t358 => (some t358)) else (some false)) = some r := by rw [if_pos rfl] at H; exact H
              clear H
              have H := H1
              clear H1
              by_cases c21 : t344 = t351
              · rw [if_pos c21] at H
                have c21b0 : (t344 == t351) = true := beq_iff_eq.mpr c21
                have c21b1 : (t344 != t351) = false := bne_eq_false_iff_eq.mpr c21
                clear c21
                replace H := Option.bind_eq_some_iff.mp H
                obtain ⟨t358, A220, H⟩ := H
                replace H : (some t358) = some r := H
                have A22 := Aside0.mk A220
                clear A220
                obtain rfl := Option.some.inj H
                go_wp2_with (first | ((with_reducible refine gate_callee (f := 32) rfl ?_); refine goesL_ (some 27) rfl rfl Tryd.func32 (by kernel_rfl) rfl #[.slice A0 l0.length c0, .slice A1 l1.length c1] rfl (by (try simp only [List.map_toArray, List.map_cons, List.map_nil]); first | done | rfl | (simp only [List.length_drop, List.length_take]; rfl)) ?_; (with_reducible refine (gauge_Loss.calls kj3 _ _ l0 _ _ l1 t336 t337 _ ?side1 ?side2 ?side3 ?side4 A10.out (by exact sig_below HS.out (by repeat (first | (with_reducible first | exact HB.out | apply below_alloc | apply pw_below_drewN | apply below_drew1 | fail) | exact HB.out)))).mono ?_); (case side1 => repeat (first | exact (Kd.C_below HR0.out HB.out) | (with_reducible refine Kd.C_alloc ?_ _) | (with_reducible refine Kd.C_drewN ?_ _) | (with_reducible refine Kd.C_drew ?_))); (case side2 => exact HC0.out); (case side3 => repeat (first | exact (Kd.C_below HR1.out HB.out) | (with_reducible refine Kd.C_alloc ?_ _) | (with_reducible refine Kd.C_drewN ?_ _) | (with_reducible refine Kd.C_drew ?_))); (case side4 => exact HC1.out); rintro e w23 ⟨rfl, hb⟩; refine ⟨_, rfl, ?_⟩; have n0_ := Aside0.mk (below_step (by repeat (first | (with_reducible first | exact HB.out | apply below_alloc | apply pw_below_drewN | apply below_drew1) | exact HB.out)) hb); clear HB; have HB := n0_; clear n0_; (try clear hb); (try clear hb2); (try clear hk); (try clear hi)) | ((with_reducible refine gate_callee (f := 57) rfl ?_); refine goesL_ (some 33) rfl rfl Tryd.func57 (by kernel_rfl) rfl #[.slice A1 l1.length c1] rfl (by (try simp only [List.map_toArray, List.map_cons, List.map_nil]); first | done | rfl | (simp only [List.length_drop, List.length_take]; rfl)) ?_; (with_reducible refine (metrolablaw47_elements.calls kj3 _ _ l1 t338 _ ?side1 ?side2 A11.out).mono ?_); (case side1 => repeat (first | exact (Kd.C_below HR1.out HB.out) | (with_reducible refine Kd.C_alloc ?_ _) | (with_reducible refine Kd.C_drewN ?_ _) | (with_reducible refine Kd.C_drew ?_))); (case side2 => exact HC1.out); rintro e w24 ⟨v339, rfl, ho0, hb⟩; refine ⟨_, rfl, ?_⟩; have n0_ := Aside0.mk (Kd.R_lower ho0 (below_size (by repeat (first | (with_reducible first | exact HB.out | apply below_alloc | apply pw_below_drewN | apply below_drew1) | exact HB.out)))); have n1_ := Aside0.mk (below_step (by repeat (first | (with_reducible first | exact HB.out | apply below_alloc | apply pw_below_drewN | apply below_drew1) | exact HB.out)) hb); clear HB; have HO340 := n0_; have HB := n1_; clear n0_ n1_; (try clear hb); (try clear hb2); (try clear hk); (try clear hi); (try clear ho0); obtain ⟨Ao25, co25, eo25⟩ := Kd.R_slice HO340.out; subst eo25) | ((with_reducible refine gate_callee (f := 58) rfl ?_); refine goesL_ (some 34) rfl rfl Tryd.func58 (by kernel_rfl) rfl #[.slice A0 l0.length c0, .slice Ao25 t338.length co25] rfl (by (try simp only [List.map_toArray, List.map_cons, List.map_nil]); first | done | rfl | (simp only [List.length_drop, List.length_take]; rfl)) ?_; (with_reducible refine (metrolabref47_Loss.calls kj3 _ _ l0 _ _ t338 t341 t342 _ ?side1 ?side2 ?side3 ?side4 A12.out).mono ?_); (case side1 => repeat (first | exact (Kd.C_below HR0.out HB.out) | (with_reducible refine Kd.C_alloc ?_ _) | (with_reducible refine Kd.C_drewN ?_ _) | (with_reducible refine Kd.C_drew ?_))); (case side2 => exact HC0.out); (case side3 => repeat (first | exact (Kd.R_reads' HO340.out).2.2 | (with_reducible refine Kd.C_alloc ?_ _) | (with_reducible refine Kd.C_drewN ?_ _) | (with_reducible refine Kd.C_drew ?_))); (case side4 => exact (Kd.R_reads' HO340.out).2.1); rintro e w26 ⟨rfl, hb⟩; refine ⟨_, rfl, ?_⟩; have n0_ := Aside0.mk (Kd.R_below (by (with_reducible repeat (first | apply Kd.R_alloc | apply Kd.R_drewN | apply Kd.R_drew)); exact HO340.out) hb); have n1_ := Aside0.mk (below_step (by repeat (first | (with_reducible first | exact HB.out | apply below_alloc | apply pw_below_drewN | apply below_drew1) | exact HB.out)) hb); clear HO340; clear HB; have HO340 := n0_; have HB := n1_; clear n0_ n1_; (try clear hb); (try clear hb2); (try clear hk); (try clear hi)) | ((with_reducible refine gate_callee (f := 34) rfl ?_); refine goesL_ (some 40) rfl rfl Tryd.func34 (by kernel_rfl) rfl #[.slice A1 l1.length c1, .bool a2] rfl (by (try simp only [List.map_toArray, List.map_cons, List.map_nil]); first | done | rfl | (simp only [List.length_drop, List.length_take]; rfl)) ?_; (with_reducible refine (gauge_Made.calls kj3 _ _ l1 a2 t343 t344 _ ?side1 ?side2 A13.out (by exact sig_below HS.out (by repeat (first | (with_reducible first | exact HB.out | apply below_alloc | apply pw_below_drewN | apply below_drew1 | fail) | exact HB.out)))).mono ?_); (case side1 => repeat (first | exact (Kd.C_below HR1.out HB.out) | (with_reducible refine Kd.C_alloc ?_ _) | (with_reducible refine Kd.C_drewN ?_ _) | (with_reducible refine Kd.C_drew ?_))); (case side2 => exact HC1.out); rintro e w27 ⟨v345, rfl, ho0, hb⟩; refine ⟨_, rfl, ?_⟩; have n0_ := Aside0.mk (Kd.R_below (by (with_reducible repeat (first | apply Kd.R_alloc | apply Kd.R_drewN | apply Kd.R_drew)); exact HO340.out) hb); have n1_ := Aside0.mk (Kd.R_lower ho0 (below_size (by repeat (first | (with_reducible first | exact HB.out | apply below_alloc | apply pw_below_drewN | apply below_drew1) | exact HB.out)))); have n2_ := Aside0.mk (below_step (by repeat (first | (with_reducible first | exact HB.out | apply below_alloc | apply pw_below_drewN | apply below_drew1) | exact HB.out)) hb); clear HO340; clear HB; have HO340 := n0_; have HO346 := n1_; have HB := n2_; clear n0_ n1_ n2_; (try clear hb); (try clear hb2); (try clear hk); (try clear hi); (try clear ho0)) | ((with_reducible refine gate_callee (f := 57) rfl ?_); refine goesL_ (some 45) rfl rfl Tryd.func57 (by kernel_rfl) rfl #[.slice A1 l1.length c1] rfl (by (try simp only [List.map_toArray, List.map_cons, List.map_nil]); first | done | rfl | (simp only [List.length_drop, List.length_take]; rfl)) ?_; (with_reducible refine (metrolablaw47_elements.calls kj3 _ _ l1 t347 _ ?side1 ?side2 A14.out).mono ?_); (case side1 => repeat (first | exact (Kd.C_below HR1.out HB.out) | (with_reducible refine Kd.C_alloc ?_ _) | (with_reducible refine Kd.C_drewN ?_ _) | (with_reducible refine Kd.C_drew ?_))); (case side2 => exact HC1.out); rintro e w28 ⟨v348, rfl, ho0, hb⟩; refine ⟨_, rfl, ?_⟩; have n0_ := Aside0.mk (Kd.R_elder' (by (with_reducible repeat (first | apply Kd.R_alloc | apply Kd.R_drewN | apply Kd.R_drew)); exact HO340.out) (Kd.R_base ho0) hb); have n1_ := Aside0.mk (Kd.R_below (by (with_reducible repeat (first | apply Kd.R_alloc | apply Kd.R_drewN | apply Kd.R_drew)); exact HO346.out) hb); have n2_ := Aside0.mk (Kd.R_lower (Kd.R_new' ho0 (Kd.R_lt (by (with_reducible repeat (first | apply Kd.R_alloc | apply Kd.R_drewN | apply Kd.R_drew)); exact HO340.out))) (below_size (by repeat (first | (with_reducible first | exact HB.out | apply below_alloc | apply pw_below_drewN | apply below_drew1) | exact HB.out)))); have n3_ := Aside0.mk (below_step (by repeat (first | (with_reducible first | exact HB.out | apply below_alloc | apply pw_below_drewN | apply below_drew1) | exact HB.out)) hb); clear HO340; clear HO346; clear HB; have HO340 := n0_; have HO346 := n1_; have HO349 := n2_; have HB := n3_; clear n0_ n1_ n2_ n3_; (try clear hb); (try clear hb2); (try clear hk); (try clear hi); (try clear ho0); obtain ⟨Ao29, co29, eo29⟩ := Kd.R_slice HO349.out; subst eo29) | ((with_reducible refine gate_callee (f := 59) rfl ?_); refine goesL_ (some 47) rfl rfl Tryd.func59 (by kernel_rfl) rfl #[.slice Ao29 t347.length co29, .bool a2] rfl (by (try simp only [List.map_toArray, List.map_cons, List.map_nil]); first | done | rfl | (simp only [List.length_drop, List.length_take]; rfl)) ?_; (with_reducible refine (metrolabref47_Made.calls kj3 _ _ t347 a2 t350 t351 _ ?side1 ?side2 A15.out).mono ?_); (case side1 => repeat (first | exact (Kd.R_reads' HO349.out).2.2 | (with_reducible refine Kd.C_alloc ?_ _) | (with_reducible refine Kd.C_drewN ?_ _) | (with_reducible refine Kd.C_drew ?_))); (case side2 => exact (Kd.R_reads' HO349.out).2.1); rintro e w30 ⟨v352, rfl, ho0, hb⟩; refine ⟨_, rfl, ?_⟩; have n0_ := Aside0.mk (Kd.R_below (by (with_reducible repeat (first | apply Kd.R_alloc | apply Kd.R_drewN | apply Kd.R_drew)); exact HO340.out) hb); have n1_ := Aside0.mk (Kd.R_below (by (with_reducible repeat (first | apply Kd.R_alloc | apply Kd.R_drewN | apply Kd.R_drew)); exact HO346.out) hb); have n2_ := Aside0.mk (Kd.R_below (by (with_reducible repeat (first | apply Kd.R_alloc | apply Kd.R_drewN | apply Kd.R_drew)); exact HO349.out) hb); have n3_ := Aside0.mk (Kd.R_lower ho0 (below_size (by repeat (first | (with_reducible first | exact HB.out | apply below_alloc | apply pw_below_drewN | apply below_drew1) | exact HB.out)))); have n4_ := Aside0.mk (below_step (by repeat (first | (with_reducible first | exact HB.out | apply below_alloc | apply pw_below_drewN | apply below_drew1) | exact HB.out)) hb); clear HO340; clear HO346; clear HO349; clear HB; have HO340 := n0_; have HO346 := n1_; have HO349 := n2_; have HO353 := n3_; have HB := n4_; clear n0_ n1_ n2_ n3_ n4_; (try clear hb); (try clear hb2); (try clear hk); (try clear hi); (try clear ho0); obtain ⟨Ao31, co31, eo31⟩ := Kd.R_slice HO346.out; subst eo31) | (go_at_call 61; (with_reducible refine (metrolablaw47_tools.calls kj3 _ _ t343 t354 _ ?side1 ?side2 A18.out).mono ?_); (case side1 => repeat (first | exact (Kd.R_reads' HO346.out).2.2 | (with_reducible refine Kd.C_alloc ?_ _) | (with_reducible refine Kd.C_drewN ?_ _) | (with_reducible refine Kd.C_drew ?_))); (case side2 => exact (Kd.R_reads' HO346.out).2.1); rintro e w32 ⟨v355, rfl, ho0, hb⟩; have n0_ := Aside0.mk (Kd.R_below (by (with_reducible repeat (first | apply Kd.R_alloc | apply Kd.R_drewN | apply Kd.R_drew)); exact HO340.out) hb); have n1_ := Aside0.mk (Kd.R_below (by (with_reducible repeat (first | apply Kd.R_alloc | apply Kd.R_drewN | apply Kd.R_drew)); exact HO346.out) hb); have n2_ := Aside0.mk (Kd.R_below (by (with_reducible repeat (first | apply Kd.R_alloc | apply Kd.R_drewN | apply Kd.R_drew)); exact HO349.out) hb); have n3_ := Aside0.mk (Kd.R_elder' (by (with_reducible repeat (first | apply Kd.R_alloc | apply Kd.R_drewN | apply Kd.R_drew)); exact HO353.out) (Kd.R_base ho0) hb); have n4_ := Aside0.mk (Kd.R_lower (Kd.R_new' ho0 (Kd.R_lt (by (with_reducible repeat (first | apply Kd.R_alloc | apply Kd.R_drewN | apply Kd.R_drew)); exact HO353.out))) (below_size (by repeat (first | (with_reducible first | exact HB.out | apply below_alloc | apply pw_below_drewN | apply below_drew1) | exact HB.out)))); have n5_ := Aside0.mk (below_step (by repeat (first | (with_reducible first | exact HB.out | apply below_alloc | apply pw_below_drewN | apply below_drew1) | exact HB.out)) hb); clear HO340; clear HO346; clear HO349; clear HO353; clear HB; have HO340 := n0_; have HO346 := n1_; have HO349 := n2_; have HO353 := n3_; have HO356 := n4_; have HB := n5_; clear n0_ n1_ n2_ n3_ n4_ n5_; (try clear hb); (try clear hb2); (try clear hk); (try clear hi); (try clear ho0); obtain ⟨Ao33, co33, eo33⟩ := Kd.R_slice HO356.out; subst eo33; obtain ⟨Ao34, co34, eo34⟩ := Kd.R_slice HO353.out; subst eo34) | (go_at_call 60; (with_reducible refine (metrolabref47_SameTools.calls kj3 _ _ t354 _ _ t350 true _ ?side1 ?side2 ?side3 ?side4 A19.out).mono ?_); (case side1 => repeat (first | exact (Kd.R_reads' HO356.out).2.2 | (with_reducible refine Kd.C_alloc ?_ _) | (with_reducible refine Kd.C_drewN ?_ _) | (with_reducible refine Kd.C_drew ?_))); (case side2 => exact (Kd.R_reads' HO356.out).2.1); (case side3 => repeat (first | exact (Kd.R_reads' HO353.out).2.2 | (with_reducible refine Kd.C_alloc ?_ _) | (with_reducible refine Kd.C_drewN ?_ _) | (with_reducible refine Kd.C_drew ?_))); (case side4 => exact (Kd.R_reads' HO353.out).2.1); rintro e w' ⟨rfl, ⟨nd, rfl⟩⟩) | (go_at_call 30; (with_reducible refine (metrolablaw47_awake.calls kj3  t358 _ A22.out (by exact sig_below HS.out (by repeat (first | (with_reducible first | exact HB.out | apply below_alloc | apply pw_below_drewN | apply below_drew1 | fail) | exact HB.out)))).mono ?_); rintro e w35 ⟨rfl, hb⟩; have n0_ := Aside0.mk (Kd.R_below (by (with_reducible repeat (first | apply Kd.R_alloc | apply Kd.R_drewN | apply Kd.R_drew)); exact HO340.out) hb); have n1_ := Aside0.mk (Kd.R_below (by (with_reducible repeat (first | apply Kd.R_alloc | apply Kd.R_drewN | apply Kd.R_drew)); exact HO346.out) hb); have n2_ := Aside0.mk (Kd.R_below (by (with_reducible repeat (first | apply Kd.R_alloc | apply Kd.R_drewN | apply Kd.R_drew)); exact HO349.out) hb); have n3_ := Aside0.mk (Kd.R_below (by (with_reducible repeat (first | apply Kd.R_alloc | apply Kd.R_drewN | apply Kd.R_drew)); exact HO353.out) hb); have n4_ := Aside0.mk (Kd.R_below (by (with_reducible repeat (first | apply Kd.R_alloc | apply Kd.R_drewN | apply Kd.R_drew)); exact HO356.out) hb); have n5_ := Aside0.mk (below_step (by repeat (first | (with_reducible first | exact HB.out | apply below_alloc | apply pw_below_drewN | apply below_drew1) | exact HB.out)) hb); clear HO340; clear HO346; clear HO349; clear HO353; clear HO356; clear HB; have HO340 := n0_; have HO346 := n1_; have HO349 := n2_; have HO353 := n3_; have HO356 := n4_; have HB := n5_; clear n0_ n1_ n2_ n3_ n4_ n5_; (try clear hb); (try clear hb2); (try clear hk); (try clear hi)))
                go_ret
                exact ⟨by first | rfl | (simp [errW_none, errW_some] <;> rfl) | (simp [*, errW_none, errW_some] <;> rfl), by repeat (first | (with_reducible first | exact HB.out | apply below_alloc | apply pw_below_drewN | apply below_drew1) | exact HB.out)⟩
              · rw [if_neg c21] at H
                have c21b0 : (t344 == t351) = false := beq_eq_false_iff_ne.mpr c21
                have c21b1 : (t344 != t351) = true := bne_iff_ne.mpr c21
                obtain rfl := Option.some.inj H
                go_wp2_with (first | ((with_reducible refine gate_callee (f := 32) rfl ?_); refine goesL_ (some 27) rfl rfl Tryd.func32 (by kernel_rfl) rfl #[.slice A0 l0.length c0, .slice A1 l1.length c1] rfl (by (try simp only [List.map_toArray, List.map_cons, List.map_nil]); first | done | rfl | (simp only [List.length_drop, List.length_take]; rfl)) ?_; (with_reducible refine (gauge_Loss.calls kj3 _ _ l0 _ _ l1 t336 t337 _ ?side1 ?side2 ?side3 ?side4 A10.out (by exact sig_below HS.out (by repeat (first | (with_reducible first | exact HB.out | apply below_alloc | apply pw_below_drewN | apply below_drew1 | fail) | exact HB.out)))).mono ?_); (case side1 => repeat (first | exact (Kd.C_below HR0.out HB.out) | (with_reducible refine Kd.C_alloc ?_ _) | (with_reducible refine Kd.C_drewN ?_ _) | (with_reducible refine Kd.C_drew ?_))); (case side2 => exact HC0.out); (case side3 => repeat (first | exact (Kd.C_below HR1.out HB.out) | (with_reducible refine Kd.C_alloc ?_ _) | (with_reducible refine Kd.C_drewN ?_ _) | (with_reducible refine Kd.C_drew ?_))); (case side4 => exact HC1.out); rintro e w36 ⟨rfl, hb⟩; refine ⟨_, rfl, ?_⟩; have n0_ := Aside0.mk (below_step (by repeat (first | (with_reducible first | exact HB.out | apply below_alloc | apply pw_below_drewN | apply below_drew1) | exact HB.out)) hb); clear HB; have HB := n0_; clear n0_; (try clear hb); (try clear hb2); (try clear hk); (try clear hi)) | ((with_reducible refine gate_callee (f := 57) rfl ?_); refine goesL_ (some 33) rfl rfl Tryd.func57 (by kernel_rfl) rfl #[.slice A1 l1.length c1] rfl (by (try simp only [List.map_toArray, List.map_cons, List.map_nil]); first | done | rfl | (simp only [List.length_drop, List.length_take]; rfl)) ?_; (with_reducible refine (metrolablaw47_elements.calls kj3 _ _ l1 t338 _ ?side1 ?side2 A11.out).mono ?_); (case side1 => repeat (first | exact (Kd.C_below HR1.out HB.out) | (with_reducible refine Kd.C_alloc ?_ _) | (with_reducible refine Kd.C_drewN ?_ _) | (with_reducible refine Kd.C_drew ?_))); (case side2 => exact HC1.out); rintro e w37 ⟨v339, rfl, ho0, hb⟩; refine ⟨_, rfl, ?_⟩; have n0_ := Aside0.mk (Kd.R_lower ho0 (below_size (by repeat (first | (with_reducible first | exact HB.out | apply below_alloc | apply pw_below_drewN | apply below_drew1) | exact HB.out)))); have n1_ := Aside0.mk (below_step (by repeat (first | (with_reducible first | exact HB.out | apply below_alloc | apply pw_below_drewN | apply below_drew1) | exact HB.out)) hb); clear HB; have HO340 := n0_; have HB := n1_; clear n0_ n1_; (try clear hb); (try clear hb2); (try clear hk); (try clear hi); (try clear ho0); obtain ⟨Ao38, co38, eo38⟩ := Kd.R_slice HO340.out; subst eo38) | ((with_reducible refine gate_callee (f := 58) rfl ?_); refine goesL_ (some 34) rfl rfl Tryd.func58 (by kernel_rfl) rfl #[.slice A0 l0.length c0, .slice Ao38 t338.length co38] rfl (by (try simp only [List.map_toArray, List.map_cons, List.map_nil]); first | done | rfl | (simp only [List.length_drop, List.length_take]; rfl)) ?_; (with_reducible refine (metrolabref47_Loss.calls kj3 _ _ l0 _ _ t338 t341 t342 _ ?side1 ?side2 ?side3 ?side4 A12.out).mono ?_); (case side1 => repeat (first | exact (Kd.C_below HR0.out HB.out) | (with_reducible refine Kd.C_alloc ?_ _) | (with_reducible refine Kd.C_drewN ?_ _) | (with_reducible refine Kd.C_drew ?_))); (case side2 => exact HC0.out); (case side3 => repeat (first | exact (Kd.R_reads' HO340.out).2.2 | (with_reducible refine Kd.C_alloc ?_ _) | (with_reducible refine Kd.C_drewN ?_ _) | (with_reducible refine Kd.C_drew ?_))); (case side4 => exact (Kd.R_reads' HO340.out).2.1); rintro e w39 ⟨rfl, hb⟩; refine ⟨_, rfl, ?_⟩; have n0_ := Aside0.mk (Kd.R_below (by (with_reducible repeat (first | apply Kd.R_alloc | apply Kd.R_drewN | apply Kd.R_drew)); exact HO340.out) hb); have n1_ := Aside0.mk (below_step (by repeat (first | (with_reducible first | exact HB.out | apply below_alloc | apply pw_below_drewN | apply below_drew1) | exact HB.out)) hb); clear HO340; clear HB; have HO340 := n0_; have HB := n1_; clear n0_ n1_; (try clear hb); (try clear hb2); (try clear hk); (try clear hi)) | ((with_reducible refine gate_callee (f := 34) rfl ?_); refine goesL_ (some 40) rfl rfl Tryd.func34 (by kernel_rfl) rfl #[.slice A1 l1.length c1, .bool a2] rfl (by (try simp only [List.map_toArray, List.map_cons, List.map_nil]); first | done | rfl | (simp only [List.length_drop, List.length_take]; rfl)) ?_; (with_reducible refine (gauge_Made.calls kj3 _ _ l1 a2 t343 t344 _ ?side1 ?side2 A13.out (by exact sig_below HS.out (by repeat (first | (with_reducible first | exact HB.out | apply below_alloc | apply pw_below_drewN | apply below_drew1 | fail) | exact HB.out)))).mono ?_); (case side1 => repeat (first | exact (Kd.C_below HR1.out HB.out) | (with_reducible refine Kd.C_alloc ?_ _) | (with_reducible refine Kd.C_drewN ?_ _) | (with_reducible refine Kd.C_drew ?_))); (case side2 => exact HC1.out); rintro e w40 ⟨v345, rfl, ho0, hb⟩; refine ⟨_, rfl, ?_⟩; have n0_ := Aside0.mk (Kd.R_below (by (with_reducible repeat (first | apply Kd.R_alloc | apply Kd.R_drewN | apply Kd.R_drew)); exact HO340.out) hb); have n1_ := Aside0.mk (Kd.R_lower ho0 (below_size (by repeat (first | (with_reducible first | exact HB.out | apply below_alloc | apply pw_below_drewN | apply below_drew1) | exact HB.out)))); have n2_ := Aside0.mk (below_step (by repeat (first | (with_reducible first | exact HB.out | apply below_alloc | apply pw_below_drewN | apply below_drew1) | exact HB.out)) hb); clear HO340; clear HB; have HO340 := n0_; have HO346 := n1_; have HB := n2_; clear n0_ n1_ n2_; (try clear hb); (try clear hb2); (try clear hk); (try clear hi); (try clear ho0)) | ((with_reducible refine gate_callee (f := 57) rfl ?_); refine goesL_ (some 45) rfl rfl Tryd.func57 (by kernel_rfl) rfl #[.slice A1 l1.length c1] rfl (by (try simp only [List.map_toArray, List.map_cons, List.map_nil]); first | done | rfl | (simp only [List.length_drop, List.length_take]; rfl)) ?_; (with_reducible refine (metrolablaw47_elements.calls kj3 _ _ l1 t347 _ ?side1 ?side2 A14.out).mono ?_); (case side1 => repeat (first | exact (Kd.C_below HR1.out HB.out) | (with_reducible refine Kd.C_alloc ?_ _) | (with_reducible refine Kd.C_drewN ?_ _) | (with_reducible refine Kd.C_drew ?_))); (case side2 => exact HC1.out); rintro e w41 ⟨v348, rfl, ho0, hb⟩; refine ⟨_, rfl, ?_⟩; have n0_ := Aside0.mk (Kd.R_elder' (by (with_reducible repeat (first | apply Kd.R_alloc | apply Kd.R_drewN | apply Kd.R_drew)); exact HO340.out) (Kd.R_base ho0) hb); have n1_ := Aside0.mk (Kd.R_below (by (with_reducible repeat (first | apply Kd.R_alloc | apply Kd.R_drewN | apply Kd.R_drew)); exact HO346.out) hb); have n2_ := Aside0.mk (Kd.R_lower (Kd.R_new' ho0 (Kd.R_lt (by (with_reducible repeat (first | apply Kd.R_alloc | apply Kd.R_drewN | apply Kd.R_drew)); exact HO340.out))) (below_size (by repeat (first | (with_reducible first | exact HB.out | apply below_alloc | apply pw_below_drewN | apply below_drew1) | exact HB.out)))); have n3_ := Aside0.mk (below_step (by repeat (first | (with_reducible first | exact HB.out | apply below_alloc | apply pw_below_drewN | apply below_drew1) | exact HB.out)) hb); clear HO340; clear HO346; clear HB; have HO340 := n0_; have HO346 := n1_; have HO349 := n2_; have HB := n3_; clear n0_ n1_ n2_ n3_; (try clear hb); (try clear hb2); (try clear hk); (try clear hi); (try clear ho0); obtain ⟨Ao42, co42, eo42⟩ := Kd.R_slice HO349.out; subst eo42) | ((with_reducible refine gate_callee (f := 59) rfl ?_); refine goesL_ (some 47) rfl rfl Tryd.func59 (by kernel_rfl) rfl #[.slice Ao42 t347.length co42, .bool a2] rfl (by (try simp only [List.map_toArray, List.map_cons, List.map_nil]); first | done | rfl | (simp only [List.length_drop, List.length_take]; rfl)) ?_; (with_reducible refine (metrolabref47_Made.calls kj3 _ _ t347 a2 t350 t351 _ ?side1 ?side2 A15.out).mono ?_); (case side1 => repeat (first | exact (Kd.R_reads' HO349.out).2.2 | (with_reducible refine Kd.C_alloc ?_ _) | (with_reducible refine Kd.C_drewN ?_ _) | (with_reducible refine Kd.C_drew ?_))); (case side2 => exact (Kd.R_reads' HO349.out).2.1); rintro e w43 ⟨v352, rfl, ho0, hb⟩; refine ⟨_, rfl, ?_⟩; have n0_ := Aside0.mk (Kd.R_below (by (with_reducible repeat (first | apply Kd.R_alloc | apply Kd.R_drewN | apply Kd.R_drew)); exact HO340.out) hb); have n1_ := Aside0.mk (Kd.R_below (by (with_reducible repeat (first | apply Kd.R_alloc | apply Kd.R_drewN | apply Kd.R_drew)); exact HO346.out) hb); have n2_ := Aside0.mk (Kd.R_below (by (with_reducible repeat (first | apply Kd.R_alloc | apply Kd.R_drewN | apply Kd.R_drew)); exact HO349.out) hb); have n3_ := Aside0.mk (Kd.R_lower ho0 (below_size (by repeat (first | (with_reducible first | exact HB.out | apply below_alloc | apply pw_below_drewN | apply below_drew1) | exact HB.out)))); have n4_ := Aside0.mk (below_step (by repeat (first | (with_reducible first | exact HB.out | apply below_alloc | apply pw_below_drewN | apply below_drew1) | exact HB.out)) hb); clear HO340; clear HO346; clear HO349; clear HB; have HO340 := n0_; have HO346 := n1_; have HO349 := n2_; have HO353 := n3_; have HB := n4_; clear n0_ n1_ n2_ n3_ n4_; (try clear hb); (try clear hb2); (try clear hk); (try clear hi); (try clear ho0); obtain ⟨Ao44, co44, eo44⟩ := Kd.R_slice HO346.out; subst eo44) | (go_at_call 61; (with_reducible refine (metrolablaw47_tools.calls kj3 _ _ t343 t354 _ ?side1 ?side2 A18.out).mono ?_); (case side1 => repeat (first | exact (Kd.R_reads' HO346.out).2.2 | (with_reducible refine Kd.C_alloc ?_ _) | (with_reducible refine Kd.C_drewN ?_ _) | (with_reducible refine Kd.C_drew ?_))); (case side2 => exact (Kd.R_reads' HO346.out).2.1); rintro e w45 ⟨v355, rfl, ho0, hb⟩; have n0_ := Aside0.mk (Kd.R_below (by (with_reducible repeat (first | apply Kd.R_alloc | apply Kd.R_drewN | apply Kd.R_drew)); exact HO340.out) hb); have n1_ := Aside0.mk (Kd.R_below (by (with_reducible repeat (first | apply Kd.R_alloc | apply Kd.R_drewN | apply Kd.R_drew)); exact HO346.out) hb); have n2_ := Aside0.mk (Kd.R_below (by (with_reducible repeat (first | apply Kd.R_alloc | apply Kd.R_drewN | apply Kd.R_drew)); exact HO349.out) hb); have n3_ := Aside0.mk (Kd.R_elder' (by (with_reducible repeat (first | apply Kd.R_alloc | apply Kd.R_drewN | apply Kd.R_drew)); exact HO353.out) (Kd.R_base ho0) hb); have n4_ := Aside0.mk (Kd.R_lower (Kd.R_new' ho0 (Kd.R_lt (by (with_reducible repeat (first | apply Kd.R_alloc | apply Kd.R_drewN | apply Kd.R_drew)); exact HO353.out))) (below_size (by repeat (first | (with_reducible first | exact HB.out | apply below_alloc | apply pw_below_drewN | apply below_drew1) | exact HB.out)))); have n5_ := Aside0.mk (below_step (by repeat (first | (with_reducible first | exact HB.out | apply below_alloc | apply pw_below_drewN | apply below_drew1) | exact HB.out)) hb); clear HO340; clear HO346; clear HO349; clear HO353; clear HB; have HO340 := n0_; have HO346 := n1_; have HO349 := n2_; have HO353 := n3_; have HO356 := n4_; have HB := n5_; clear n0_ n1_ n2_ n3_ n4_ n5_; (try clear hb); (try clear hb2); (try clear hk); (try clear hi); (try clear ho0); obtain ⟨Ao46, co46, eo46⟩ := Kd.R_slice HO356.out; subst eo46; obtain ⟨Ao47, co47, eo47⟩ := Kd.R_slice HO353.out; subst eo47) | (go_at_call 60; (with_reducible refine (metrolabref47_SameTools.calls kj3 _ _ t354 _ _ t350 true _ ?side1 ?side2 ?side3 ?side4 A19.out).mono ?_); (case side1 => repeat (first | exact (Kd.R_reads' HO356.out).2.2 | (with_reducible refine Kd.C_alloc ?_ _) | (with_reducible refine Kd.C_drewN ?_ _) | (with_reducible refine Kd.C_drew ?_))); (case side2 => exact (Kd.R_reads' HO356.out).2.1); (case side3 => repeat (first | exact (Kd.R_reads' HO353.out).2.2 | (with_reducible refine Kd.C_alloc ?_ _) | (with_reducible refine Kd.C_drewN ?_ _) | (with_reducible refine Kd.C_drew ?_))); (case side4 => exact (Kd.R_reads' HO353.out).2.1); rintro e w' ⟨rfl, ⟨nd, rfl⟩⟩))
                go_ret
                exact ⟨by first | rfl | (simp [errW_none, errW_some] <;> rfl) | (simp [*, errW_none, errW_some] <;> rfl), by repeat (first | (with_reducible first | exact HB.out | apply below_alloc | apply pw_below_drewN | apply below_drew1) | exact HB.out)⟩
            · replace c20 := Bool.eq_false_iff.mpr c20
              subst c20
              have H1 : (some false) = some r := by rw [if_neg (show ¬ (false = true) by decide)] at H; exact H
              clear H
              have H := H1
              clear H1
              obtain rfl := Option.some.inj H
              go_wp2_with (first | ((with_reducible refine gate_callee (f := 32) rfl ?_); refine goesL_ (some 27) rfl rfl Tryd.func32 (by kernel_rfl) rfl #[.slice A0 l0.length c0, .slice A1 l1.length c1] rfl (by (try simp only [List.map_toArray, List.map_cons, List.map_nil]); first | done | rfl | (simp only [List.length_drop, List.length_take]; rfl)) ?_; (with_reducible refine (gauge_Loss.calls kj3 _ _ l0 _ _ l1 t336 t337 _ ?side1 ?side2 ?side3 ?side4 A10.out (by exact sig_below HS.out (by repeat (first | (with_reducible first | exact HB.out | apply below_alloc | apply pw_below_drewN | apply below_drew1 | fail) | exact HB.out)))).mono ?_); (case side1 => repeat (first | exact (Kd.C_below HR0.out HB.out) | (with_reducible refine Kd.C_alloc ?_ _) | (with_reducible refine Kd.C_drewN ?_ _) | (with_reducible refine Kd.C_drew ?_))); (case side2 => exact HC0.out); (case side3 => repeat (first | exact (Kd.C_below HR1.out HB.out) | (with_reducible refine Kd.C_alloc ?_ _) | (with_reducible refine Kd.C_drewN ?_ _) | (with_reducible refine Kd.C_drew ?_))); (case side4 => exact HC1.out); rintro e w48 ⟨rfl, hb⟩; refine ⟨_, rfl, ?_⟩; have n0_ := Aside0.mk (below_step (by repeat (first | (with_reducible first | exact HB.out | apply below_alloc | apply pw_below_drewN | apply below_drew1) | exact HB.out)) hb); clear HB; have HB := n0_; clear n0_; (try clear hb); (try clear hb2); (try clear hk); (try clear hi)) | ((with_reducible refine gate_callee (f := 57) rfl ?_); refine goesL_ (some 33) rfl rfl Tryd.func57 (by kernel_rfl) rfl #[.slice A1 l1.length c1] rfl (by (try simp only [List.map_toArray, List.map_cons, List.map_nil]); first | done | rfl | (simp only [List.length_drop, List.length_take]; rfl)) ?_; (with_reducible refine (metrolablaw47_elements.calls kj3 _ _ l1 t338 _ ?side1 ?side2 A11.out).mono ?_); (case side1 => repeat (first | exact (Kd.C_below HR1.out HB.out) | (with_reducible refine Kd.C_alloc ?_ _) | (with_reducible refine Kd.C_drewN ?_ _) | (with_reducible refine Kd.C_drew ?_))); (case side2 => exact HC1.out); rintro e w49 ⟨v339, rfl, ho0, hb⟩; refine ⟨_, rfl, ?_⟩; have n0_ := Aside0.mk (Kd.R_lower ho0 (below_size (by repeat (first | (with_reducible first | exact HB.out | apply below_alloc | apply pw_below_drewN | apply below_drew1) | exact HB.out)))); have n1_ := Aside0.mk (below_step (by repeat (first | (with_reducible first | exact HB.out | apply below_alloc | apply pw_below_drewN | apply below_drew1) | exact HB.out)) hb); clear HB; have HO340 := n0_; have HB := n1_; clear n0_ n1_; (try clear hb); (try clear hb2); (try clear hk); (try clear hi); (try clear ho0); obtain ⟨Ao50, co50, eo50⟩ := Kd.R_slice HO340.out; subst eo50) | ((with_reducible refine gate_callee (f := 58) rfl ?_); refine goesL_ (some 34) rfl rfl Tryd.func58 (by kernel_rfl) rfl #[.slice A0 l0.length c0, .slice Ao50 t338.length co50] rfl (by (try simp only [List.map_toArray, List.map_cons, List.map_nil]); first | done | rfl | (simp only [List.length_drop, List.length_take]; rfl)) ?_; (with_reducible refine (metrolabref47_Loss.calls kj3 _ _ l0 _ _ t338 t341 t342 _ ?side1 ?side2 ?side3 ?side4 A12.out).mono ?_); (case side1 => repeat (first | exact (Kd.C_below HR0.out HB.out) | (with_reducible refine Kd.C_alloc ?_ _) | (with_reducible refine Kd.C_drewN ?_ _) | (with_reducible refine Kd.C_drew ?_))); (case side2 => exact HC0.out); (case side3 => repeat (first | exact (Kd.R_reads' HO340.out).2.2 | (with_reducible refine Kd.C_alloc ?_ _) | (with_reducible refine Kd.C_drewN ?_ _) | (with_reducible refine Kd.C_drew ?_))); (case side4 => exact (Kd.R_reads' HO340.out).2.1); rintro e w51 ⟨rfl, hb⟩; refine ⟨_, rfl, ?_⟩; have n0_ := Aside0.mk (Kd.R_below (by (with_reducible repeat (first | apply Kd.R_alloc | apply Kd.R_drewN | apply Kd.R_drew)); exact HO340.out) hb); have n1_ := Aside0.mk (below_step (by repeat (first | (with_reducible first | exact HB.out | apply below_alloc | apply pw_below_drewN | apply below_drew1) | exact HB.out)) hb); clear HO340; clear HB; have HO340 := n0_; have HB := n1_; clear n0_ n1_; (try clear hb); (try clear hb2); (try clear hk); (try clear hi)) | ((with_reducible refine gate_callee (f := 34) rfl ?_); refine goesL_ (some 40) rfl rfl Tryd.func34 (by kernel_rfl) rfl #[.slice A1 l1.length c1, .bool a2] rfl (by (try simp only [List.map_toArray, List.map_cons, List.map_nil]); first | done | rfl | (simp only [List.length_drop, List.length_take]; rfl)) ?_; (with_reducible refine (gauge_Made.calls kj3 _ _ l1 a2 t343 t344 _ ?side1 ?side2 A13.out (by exact sig_below HS.out (by repeat (first | (with_reducible first | exact HB.out | apply below_alloc | apply pw_below_drewN | apply below_drew1 | fail) | exact HB.out)))).mono ?_); (case side1 => repeat (first | exact (Kd.C_below HR1.out HB.out) | (with_reducible refine Kd.C_alloc ?_ _) | (with_reducible refine Kd.C_drewN ?_ _) | (with_reducible refine Kd.C_drew ?_))); (case side2 => exact HC1.out); rintro e w52 ⟨v345, rfl, ho0, hb⟩; refine ⟨_, rfl, ?_⟩; have n0_ := Aside0.mk (Kd.R_below (by (with_reducible repeat (first | apply Kd.R_alloc | apply Kd.R_drewN | apply Kd.R_drew)); exact HO340.out) hb); have n1_ := Aside0.mk (Kd.R_lower ho0 (below_size (by repeat (first | (with_reducible first | exact HB.out | apply below_alloc | apply pw_below_drewN | apply below_drew1) | exact HB.out)))); have n2_ := Aside0.mk (below_step (by repeat (first | (with_reducible first | exact HB.out | apply below_alloc | apply pw_below_drewN | apply below_drew1) | exact HB.out)) hb); clear HO340; clear HB; have HO340 := n0_; have HO346 := n1_; have HB := n2_; clear n0_ n1_ n2_; (try clear hb); (try clear hb2); (try clear hk); (try clear hi); (try clear ho0)) | ((with_reducible refine gate_callee (f := 57) rfl ?_); refine goesL_ (some 45) rfl rfl Tryd.func57 (by kernel_rfl) rfl #[.slice A1 l1.length c1] rfl (by (try simp only [List.map_toArray, List.map_cons, List.map_nil]); first | done | rfl | (simp only [List.length_drop, List.length_take]; rfl)) ?_; (with_reducible refine (metrolablaw47_elements.calls kj3 _ _ l1 t347 _ ?side1 ?side2 A14.out).mono ?_); (case side1 => repeat (first | exact (Kd.C_below HR1.out HB.out) | (with_reducible refine Kd.C_alloc ?_ _) | (with_reducible refine Kd.C_drewN ?_ _) | (with_reducible refine Kd.C_drew ?_))); (case side2 => exact HC1.out); rintro e w53 ⟨v348, rfl, ho0, hb⟩; refine ⟨_, rfl, ?_⟩; have n0_ := Aside0.mk (Kd.R_elder' (by (with_reducible repeat (first | apply Kd.R_alloc | apply Kd.R_drewN | apply Kd.R_drew)); exact HO340.out) (Kd.R_base ho0) hb); have n1_ := Aside0.mk (Kd.R_below (by (with_reducible repeat (first | apply Kd.R_alloc | apply Kd.R_drewN | apply Kd.R_drew)); exact HO346.out) hb); have n2_ := Aside0.mk (Kd.R_lower (Kd.R_new' ho0 (Kd.R_lt (by (with_reducible repeat (first | apply Kd.R_alloc | apply Kd.R_drewN | apply Kd.R_drew)); exact HO340.out))) (below_size (by repeat (first | (with_reducible first | exact HB.out | apply below_alloc | apply pw_below_drewN | apply below_drew1) | exact HB.out)))); have n3_ := Aside0.mk (below_step (by repeat (first | (with_reducible first | exact HB.out | apply below_alloc | apply pw_below_drewN | apply below_drew1) | exact HB.out)) hb); clear HO340; clear HO346; clear HB; have HO340 := n0_; have HO346 := n1_; have HO349 := n2_; have HB := n3_; clear n0_ n1_ n2_ n3_; (try clear hb); (try clear hb2); (try clear hk); (try clear hi); (try clear ho0); obtain ⟨Ao54, co54, eo54⟩ := Kd.R_slice HO349.out; subst eo54) | ((with_reducible refine gate_callee (f := 59) rfl ?_); refine goesL_ (some 47) rfl rfl Tryd.func59 (by kernel_rfl) rfl #[.slice Ao54 t347.length co54, .bool a2] rfl (by (try simp only [List.map_toArray, List.map_cons, List.map_nil]); first | done | rfl | (simp only [List.length_drop, List.length_take]; rfl)) ?_; (with_reducible refine (metrolabref47_Made.calls kj3 _ _ t347 a2 t350 t351 _ ?side1 ?side2 A15.out).mono ?_); (case side1 => repeat (first | exact (Kd.R_reads' HO349.out).2.2 | (with_reducible refine Kd.C_alloc ?_ _) | (with_reducible refine Kd.C_drewN ?_ _) | (with_reducible refine Kd.C_drew ?_))); (case side2 => exact (Kd.R_reads' HO349.out).2.1); rintro e w55 ⟨v352, rfl, ho0, hb⟩; refine ⟨_, rfl, ?_⟩; have n0_ := Aside0.mk (Kd.R_below (by (with_reducible repeat (first | apply Kd.R_alloc | apply Kd.R_drewN | apply Kd.R_drew)); exact HO340.out) hb); have n1_ := Aside0.mk (Kd.R_below (by (with_reducible repeat (first | apply Kd.R_alloc | apply Kd.R_drewN | apply Kd.R_drew)); exact HO346.out) hb); have n2_ := Aside0.mk (Kd.R_below (by (with_reducible repeat (first | apply Kd.R_alloc | apply Kd.R_drewN | apply Kd.R_drew)); exact HO349.out) hb); have n3_ := Aside0.mk (Kd.R_lower ho0 (below_size (by repeat (first | (with_reducible first | exact HB.out | apply below_alloc | apply pw_below_drewN | apply below_drew1) | exact HB.out)))); have n4_ := Aside0.mk (below_step (by repeat (first | (with_reducible first | exact HB.out | apply below_alloc | apply pw_below_drewN | apply below_drew1) | exact HB.out)) hb); clear HO340; clear HO346; clear HO349; clear HB; have HO340 := n0_; have HO346 := n1_; have HO349 := n2_; have HO353 := n3_; have HB := n4_; clear n0_ n1_ n2_ n3_ n4_; (try clear hb); (try clear hb2); (try clear hk); (try clear hi); (try clear ho0); obtain ⟨Ao56, co56, eo56⟩ := Kd.R_slice HO346.out; subst eo56) | (go_at_call 61; (with_reducible refine (metrolablaw47_tools.calls kj3 _ _ t343 t354 _ ?side1 ?side2 A18.out).mono ?_); (case side1 => repeat (first | exact (Kd.R_reads' HO346.out).2.2 | (with_reducible refine Kd.C_alloc ?_ _) | (with_reducible refine Kd.C_drewN ?_ _) | (with_reducible refine Kd.C_drew ?_))); (case side2 => exact (Kd.R_reads' HO346.out).2.1); rintro e w57 ⟨v355, rfl, ho0, hb⟩; have n0_ := Aside0.mk (Kd.R_below (by (with_reducible repeat (first | apply Kd.R_alloc | apply Kd.R_drewN | apply Kd.R_drew)); exact HO340.out) hb); have n1_ := Aside0.mk (Kd.R_below (by (with_reducible repeat (first | apply Kd.R_alloc | apply Kd.R_drewN | apply Kd.R_drew)); exact HO346.out) hb); have n2_ := Aside0.mk (Kd.R_below (by (with_reducible repeat (first | apply Kd.R_alloc | apply Kd.R_drewN | apply Kd.R_drew)); exact HO349.out) hb); have n3_ := Aside0.mk (Kd.R_elder' (by (with_reducible repeat (first | apply Kd.R_alloc | apply Kd.R_drewN | apply Kd.R_drew)); exact HO353.out) (Kd.R_base ho0) hb); have n4_ := Aside0.mk (Kd.R_lower (Kd.R_new' ho0 (Kd.R_lt (by (with_reducible repeat (first | apply Kd.R_alloc | apply Kd.R_drewN | apply Kd.R_drew)); exact HO353.out))) (below_size (by repeat (first | (with_reducible first | exact HB.out | apply below_alloc | apply pw_below_drewN | apply below_drew1) | exact HB.out)))); have n5_ := Aside0.mk (below_step (by repeat (first | (with_reducible first | exact HB.out | apply below_alloc | apply pw_below_drewN | apply below_drew1) | exact HB.out)) hb); clear HO340; clear HO346; clear HO349; clear HO353; clear HB; have HO340 := n0_; have HO346 := n1_; have HO349 := n2_; have HO353 := n3_; have HO356 := n4_; have HB := n5_; clear n0_ n1_ n2_ n3_ n4_ n5_; (try clear hb); (try clear hb2); (try clear hk); (try clear hi); (try clear ho0); obtain ⟨Ao58, co58, eo58⟩ := Kd.R_slice HO356.out; subst eo58; obtain ⟨Ao59, co59, eo59⟩ := Kd.R_slice HO353.out; subst eo59) | (go_at_call 60; (with_reducible refine (metrolabref47_SameTools.calls kj3 _ _ t354 _ _ t350 false _ ?side1 ?side2 ?side3 ?side4 A19.out).mono ?_); (case side1 => repeat (first | exact (Kd.R_reads' HO356.out).2.2 | (with_reducible refine Kd.C_alloc ?_ _) | (with_reducible refine Kd.C_drewN ?_ _) | (with_reducible refine Kd.C_drew ?_))); (case side2 => exact (Kd.R_reads' HO356.out).2.1); (case side3 => repeat (first | exact (Kd.R_reads' HO353.out).2.2 | (with_reducible refine Kd.C_alloc ?_ _) | (with_reducible refine Kd.C_drewN ?_ _) | (with_reducible refine Kd.C_drew ?_))); (case side4 => exact (Kd.R_reads' HO353.out).2.1); rintro e w' ⟨rfl, ⟨nd, rfl⟩⟩))
              go_ret
              exact ⟨by first | rfl | (simp [errW_none, errW_some] <;> rfl) | (simp [*, errW_none, errW_some] <;> rfl), by repeat (first | (with_reducible first | exact HB.out | apply below_alloc | apply pw_below_drewN | apply below_drew1) | exact HB.out)⟩
          · rw [if_neg c17] at H
            have c17b0 : (t337 == t342) = false := beq_eq_false_iff_ne.mpr c17
            have c17b1 : (t337 != t342) = true := bne_iff_ne.mpr c17
            obtain rfl := Option.some.inj H
            go_wp2_with (first | ((with_reducible refine gate_callee (f := 32) rfl ?_); refine goesL_ (some 27) rfl rfl Tryd.func32 (by kernel_rfl) rfl #[.slice A0 l0.length c0, .slice A1 l1.length c1] rfl (by (try simp only [List.map_toArray, List.map_cons, List.map_nil]); first | done | rfl | (simp only [List.length_drop, List.length_take]; rfl)) ?_; (with_reducible refine (gauge_Loss.calls kj3 _ _ l0 _ _ l1 t336 t337 _ ?side1 ?side2 ?side3 ?side4 A10.out (by exact sig_below HS.out (by repeat (first | (with_reducible first | exact HB.out | apply below_alloc | apply pw_below_drewN | apply below_drew1 | fail) | exact HB.out)))).mono ?_); (case side1 => repeat (first | exact (Kd.C_below HR0.out HB.out) | (with_reducible refine Kd.C_alloc ?_ _) | (with_reducible refine Kd.C_drewN ?_ _) | (with_reducible refine Kd.C_drew ?_))); (case side2 => exact HC0.out); (case side3 => repeat (first | exact (Kd.C_below HR1.out HB.out) | (with_reducible refine Kd.C_alloc ?_ _) | (with_reducible refine Kd.C_drewN ?_ _) | (with_reducible refine Kd.C_drew ?_))); (case side4 => exact HC1.out); rintro e w60 ⟨rfl, hb⟩; refine ⟨_, rfl, ?_⟩; have n0_ := Aside0.mk (below_step (by repeat (first | (with_reducible first | exact HB.out | apply below_alloc | apply pw_below_drewN | apply below_drew1) | exact HB.out)) hb); clear HB; have HB := n0_; clear n0_; (try clear hb); (try clear hb2); (try clear hk); (try clear hi)) | ((with_reducible refine gate_callee (f := 57) rfl ?_); refine goesL_ (some 33) rfl rfl Tryd.func57 (by kernel_rfl) rfl #[.slice A1 l1.length c1] rfl (by (try simp only [List.map_toArray, List.map_cons, List.map_nil]); first | done | rfl | (simp only [List.length_drop, List.length_take]; rfl)) ?_; (with_reducible refine (metrolablaw47_elements.calls kj3 _ _ l1 t338 _ ?side1 ?side2 A11.out).mono ?_); (case side1 => repeat (first | exact (Kd.C_below HR1.out HB.out) | (with_reducible refine Kd.C_alloc ?_ _) | (with_reducible refine Kd.C_drewN ?_ _) | (with_reducible refine Kd.C_drew ?_))); (case side2 => exact HC1.out); rintro e w61 ⟨v339, rfl, ho0, hb⟩; refine ⟨_, rfl, ?_⟩; have n0_ := Aside0.mk (Kd.R_lower ho0 (below_size (by repeat (first | (with_reducible first | exact HB.out | apply below_alloc | apply pw_below_drewN | apply below_drew1) | exact HB.out)))); have n1_ := Aside0.mk (below_step (by repeat (first | (with_reducible first | exact HB.out | apply below_alloc | apply pw_below_drewN | apply below_drew1) | exact HB.out)) hb); clear HB; have HO340 := n0_; have HB := n1_; clear n0_ n1_; (try clear hb); (try clear hb2); (try clear hk); (try clear hi); (try clear ho0); obtain ⟨Ao62, co62, eo62⟩ := Kd.R_slice HO340.out; subst eo62) | ((with_reducible refine gate_callee (f := 58) rfl ?_); refine goesL_ (some 34) rfl rfl Tryd.func58 (by kernel_rfl) rfl #[.slice A0 l0.length c0, .slice Ao62 t338.length co62] rfl (by (try simp only [List.map_toArray, List.map_cons, List.map_nil]); first | done | rfl | (simp only [List.length_drop, List.length_take]; rfl)) ?_; (with_reducible refine (metrolabref47_Loss.calls kj3 _ _ l0 _ _ t338 t341 t342 _ ?side1 ?side2 ?side3 ?side4 A12.out).mono ?_); (case side1 => repeat (first | exact (Kd.C_below HR0.out HB.out) | (with_reducible refine Kd.C_alloc ?_ _) | (with_reducible refine Kd.C_drewN ?_ _) | (with_reducible refine Kd.C_drew ?_))); (case side2 => exact HC0.out); (case side3 => repeat (first | exact (Kd.R_reads' HO340.out).2.2 | (with_reducible refine Kd.C_alloc ?_ _) | (with_reducible refine Kd.C_drewN ?_ _) | (with_reducible refine Kd.C_drew ?_))); (case side4 => exact (Kd.R_reads' HO340.out).2.1); rintro e w63 ⟨rfl, hb⟩; refine ⟨_, rfl, ?_⟩; have n0_ := Aside0.mk (Kd.R_below (by (with_reducible repeat (first | apply Kd.R_alloc | apply Kd.R_drewN | apply Kd.R_drew)); exact HO340.out) hb); have n1_ := Aside0.mk (below_step (by repeat (first | (with_reducible first | exact HB.out | apply below_alloc | apply pw_below_drewN | apply below_drew1) | exact HB.out)) hb); clear HO340; clear HB; have HO340 := n0_; have HB := n1_; clear n0_ n1_; (try clear hb); (try clear hb2); (try clear hk); (try clear hi)) | ((with_reducible refine gate_callee (f := 34) rfl ?_); refine goesL_ (some 40) rfl rfl Tryd.func34 (by kernel_rfl) rfl #[.slice A1 l1.length c1, .bool a2] rfl (by (try simp only [List.map_toArray, List.map_cons, List.map_nil]); first | done | rfl | (simp only [List.length_drop, List.length_take]; rfl)) ?_; (with_reducible refine (gauge_Made.calls kj3 _ _ l1 a2 t343 t344 _ ?side1 ?side2 A13.out (by exact sig_below HS.out (by repeat (first | (with_reducible first | exact HB.out | apply below_alloc | apply pw_below_drewN | apply below_drew1 | fail) | exact HB.out)))).mono ?_); (case side1 => repeat (first | exact (Kd.C_below HR1.out HB.out) | (with_reducible refine Kd.C_alloc ?_ _) | (with_reducible refine Kd.C_drewN ?_ _) | (with_reducible refine Kd.C_drew ?_))); (case side2 => exact HC1.out); rintro e w64 ⟨v345, rfl, ho0, hb⟩; refine ⟨_, rfl, ?_⟩; have n0_ := Aside0.mk (Kd.R_below (by (with_reducible repeat (first | apply Kd.R_alloc | apply Kd.R_drewN | apply Kd.R_drew)); exact HO340.out) hb); have n1_ := Aside0.mk (Kd.R_lower ho0 (below_size (by repeat (first | (with_reducible first | exact HB.out | apply below_alloc | apply pw_below_drewN | apply below_drew1) | exact HB.out)))); have n2_ := Aside0.mk (below_step (by repeat (first | (with_reducible first | exact HB.out | apply below_alloc | apply pw_below_drewN | apply below_drew1) | exact HB.out)) hb); clear HO340; clear HB; have HO340 := n0_; have HO346 := n1_; have HB := n2_; clear n0_ n1_ n2_; (try clear hb); (try clear hb2); (try clear hk); (try clear hi); (try clear ho0)) | ((with_reducible refine gate_callee (f := 57) rfl ?_); refine goesL_ (some 45) rfl rfl Tryd.func57 (by kernel_rfl) rfl #[.slice A1 l1.length c1] rfl (by (try simp only [List.map_toArray, List.map_cons, List.map_nil]); first | done | rfl | (simp only [List.length_drop, List.length_take]; rfl)) ?_; (with_reducible refine (metrolablaw47_elements.calls kj3 _ _ l1 t347 _ ?side1 ?side2 A14.out).mono ?_); (case side1 => repeat (first | exact (Kd.C_below HR1.out HB.out) | (with_reducible refine Kd.C_alloc ?_ _) | (with_reducible refine Kd.C_drewN ?_ _) | (with_reducible refine Kd.C_drew ?_))); (case side2 => exact HC1.out); rintro e w65 ⟨v348, rfl, ho0, hb⟩; refine ⟨_, rfl, ?_⟩; have n0_ := Aside0.mk (Kd.R_elder' (by (with_reducible repeat (first | apply Kd.R_alloc | apply Kd.R_drewN | apply Kd.R_drew)); exact HO340.out) (Kd.R_base ho0) hb); have n1_ := Aside0.mk (Kd.R_below (by (with_reducible repeat (first | apply Kd.R_alloc | apply Kd.R_drewN | apply Kd.R_drew)); exact HO346.out) hb); have n2_ := Aside0.mk (Kd.R_lower (Kd.R_new' ho0 (Kd.R_lt (by (with_reducible repeat (first | apply Kd.R_alloc | apply Kd.R_drewN | apply Kd.R_drew)); exact HO340.out))) (below_size (by repeat (first | (with_reducible first | exact HB.out | apply below_alloc | apply pw_below_drewN | apply below_drew1) | exact HB.out)))); have n3_ := Aside0.mk (below_step (by repeat (first | (with_reducible first | exact HB.out | apply below_alloc | apply pw_below_drewN | apply below_drew1) | exact HB.out)) hb); clear HO340; clear HO346; clear HB; have HO340 := n0_; have HO346 := n1_; have HO349 := n2_; have HB := n3_; clear n0_ n1_ n2_ n3_; (try clear hb); (try clear hb2); (try clear hk); (try clear hi); (try clear ho0); obtain ⟨Ao66, co66, eo66⟩ := Kd.R_slice HO349.out; subst eo66) | ((with_reducible refine gate_callee (f := 59) rfl ?_); refine goesL_ (some 47) rfl rfl Tryd.func59 (by kernel_rfl) rfl #[.slice Ao66 t347.length co66, .bool a2] rfl (by (try simp only [List.map_toArray, List.map_cons, List.map_nil]); first | done | rfl | (simp only [List.length_drop, List.length_take]; rfl)) ?_; (with_reducible refine (metrolabref47_Made.calls kj3 _ _ t347 a2 t350 t351 _ ?side1 ?side2 A15.out).mono ?_); (case side1 => repeat (first | exact (Kd.R_reads' HO349.out).2.2 | (with_reducible refine Kd.C_alloc ?_ _) | (with_reducible refine Kd.C_drewN ?_ _) | (with_reducible refine Kd.C_drew ?_))); (case side2 => exact (Kd.R_reads' HO349.out).2.1); rintro e w67 ⟨v352, rfl, ho0, hb⟩; refine ⟨_, rfl, ?_⟩; have n0_ := Aside0.mk (Kd.R_below (by (with_reducible repeat (first | apply Kd.R_alloc | apply Kd.R_drewN | apply Kd.R_drew)); exact HO340.out) hb); have n1_ := Aside0.mk (Kd.R_below (by (with_reducible repeat (first | apply Kd.R_alloc | apply Kd.R_drewN | apply Kd.R_drew)); exact HO346.out) hb); have n2_ := Aside0.mk (Kd.R_below (by (with_reducible repeat (first | apply Kd.R_alloc | apply Kd.R_drewN | apply Kd.R_drew)); exact HO349.out) hb); have n3_ := Aside0.mk (Kd.R_lower ho0 (below_size (by repeat (first | (with_reducible first | exact HB.out | apply below_alloc | apply pw_below_drewN | apply below_drew1) | exact HB.out)))); have n4_ := Aside0.mk (below_step (by repeat (first | (with_reducible first | exact HB.out | apply below_alloc | apply pw_below_drewN | apply below_drew1) | exact HB.out)) hb); clear HO340; clear HO346; clear HO349; clear HB; have HO340 := n0_; have HO346 := n1_; have HO349 := n2_; have HO353 := n3_; have HB := n4_; clear n0_ n1_ n2_ n3_ n4_; (try clear hb); (try clear hb2); (try clear hk); (try clear hi); (try clear ho0)))
            go_ret
            exact ⟨by first | rfl | (simp [errW_none, errW_some] <;> rfl) | (simp [*, errW_none, errW_some] <;> rfl), by repeat (first | (with_reducible first | exact HB.out | apply below_alloc | apply pw_below_drewN | apply below_drew1) | exact HB.out)⟩
        · rw [if_neg c16] at H
          have c16b0 : (t336 == t341) = false := beq_eq_false_iff_ne.mpr c16
          have c16b1 : (t336 != t341) = true := bne_iff_ne.mpr c16
          obtain rfl := Option.some.inj H
          go_wp2_with (first | ((with_reducible refine gate_callee (f := 32) rfl ?_); refine goesL_ (some 27) rfl rfl Tryd.func32 (by kernel_rfl) rfl #[.slice A0 l0.length c0, .slice A1 l1.length c1] rfl (by (try simp only [List.map_toArray, List.map_cons, List.map_nil]); first | done | rfl | (simp only [List.length_drop, List.length_take]; rfl)) ?_; (with_reducible refine (gauge_Loss.calls kj3 _ _ l0 _ _ l1 t336 t337 _ ?side1 ?side2 ?side3 ?side4 A10.out (by exact sig_below HS.out (by repeat (first | (with_reducible first | exact HB.out | apply below_alloc | apply pw_below_drewN | apply below_drew1 | fail) | exact HB.out)))).mono ?_); (case side1 => repeat (first | exact (Kd.C_below HR0.out HB.out) | (with_reducible refine Kd.C_alloc ?_ _) | (with_reducible refine Kd.C_drewN ?_ _) | (with_reducible refine Kd.C_drew ?_))); (case side2 => exact HC0.out); (case side3 => repeat (first | exact (Kd.C_below HR1.out HB.out) | (with_reducible refine Kd.C_alloc ?_ _) | (with_reducible refine Kd.C_drewN ?_ _) | (with_reducible refine Kd.C_drew ?_))); (case side4 => exact HC1.out); rintro e w68 ⟨rfl, hb⟩; refine ⟨_, rfl, ?_⟩; have n0_ := Aside0.mk (below_step (by repeat (first | (with_reducible first | exact HB.out | apply below_alloc | apply pw_below_drewN | apply below_drew1) | exact HB.out)) hb); clear HB; have HB := n0_; clear n0_; (try clear hb); (try clear hb2); (try clear hk); (try clear hi)) | ((with_reducible refine gate_callee (f := 57) rfl ?_); refine goesL_ (some 33) rfl rfl Tryd.func57 (by kernel_rfl) rfl #[.slice A1 l1.length c1] rfl (by (try simp only [List.map_toArray, List.map_cons, List.map_nil]); first | done | rfl | (simp only [List.length_drop, List.length_take]; rfl)) ?_; (with_reducible refine (metrolablaw47_elements.calls kj3 _ _ l1 t338 _ ?side1 ?side2 A11.out).mono ?_); (case side1 => repeat (first | exact (Kd.C_below HR1.out HB.out) | (with_reducible refine Kd.C_alloc ?_ _) | (with_reducible refine Kd.C_drewN ?_ _) | (with_reducible refine Kd.C_drew ?_))); (case side2 => exact HC1.out); rintro e w69 ⟨v339, rfl, ho0, hb⟩; refine ⟨_, rfl, ?_⟩; have n0_ := Aside0.mk (Kd.R_lower ho0 (below_size (by repeat (first | (with_reducible first | exact HB.out | apply below_alloc | apply pw_below_drewN | apply below_drew1) | exact HB.out)))); have n1_ := Aside0.mk (below_step (by repeat (first | (with_reducible first | exact HB.out | apply below_alloc | apply pw_below_drewN | apply below_drew1) | exact HB.out)) hb); clear HB; have HO340 := n0_; have HB := n1_; clear n0_ n1_; (try clear hb); (try clear hb2); (try clear hk); (try clear hi); (try clear ho0); obtain ⟨Ao70, co70, eo70⟩ := Kd.R_slice HO340.out; subst eo70) | ((with_reducible refine gate_callee (f := 58) rfl ?_); refine goesL_ (some 34) rfl rfl Tryd.func58 (by kernel_rfl) rfl #[.slice A0 l0.length c0, .slice Ao70 t338.length co70] rfl (by (try simp only [List.map_toArray, List.map_cons, List.map_nil]); first | done | rfl | (simp only [List.length_drop, List.length_take]; rfl)) ?_; (with_reducible refine (metrolabref47_Loss.calls kj3 _ _ l0 _ _ t338 t341 t342 _ ?side1 ?side2 ?side3 ?side4 A12.out).mono ?_); (case side1 => repeat (first | exact (Kd.C_below HR0.out HB.out) | (with_reducible refine Kd.C_alloc ?_ _) | (with_reducible refine Kd.C_drewN ?_ _) | (with_reducible refine Kd.C_drew ?_))); (case side2 => exact HC0.out); (case side3 => repeat (first | exact (Kd.R_reads' HO340.out).2.2 | (with_reducible refine Kd.C_alloc ?_ _) | (with_reducible refine Kd.C_drewN ?_ _) | (with_reducible refine Kd.C_drew ?_))); (case side4 => exact (Kd.R_reads' HO340.out).2.1); rintro e w71 ⟨rfl, hb⟩; refine ⟨_, rfl, ?_⟩; have n0_ := Aside0.mk (Kd.R_below (by (with_reducible repeat (first | apply Kd.R_alloc | apply Kd.R_drewN | apply Kd.R_drew)); exact HO340.out) hb); have n1_ := Aside0.mk (below_step (by repeat (first | (with_reducible first | exact HB.out | apply below_alloc | apply pw_below_drewN | apply below_drew1) | exact HB.out)) hb); clear HO340; clear HB; have HO340 := n0_; have HB := n1_; clear n0_ n1_; (try clear hb); (try clear hb2); (try clear hk); (try clear hi)) | ((with_reducible refine gate_callee (f := 34) rfl ?_); refine goesL_ (some 40) rfl rfl Tryd.func34 (by kernel_rfl) rfl #[.slice A1 l1.length c1, .bool a2] rfl (by (try simp only [List.map_toArray, List.map_cons, List.map_nil]); first | done | rfl | (simp only [List.length_drop, List.length_take]; rfl)) ?_; (with_reducible refine (gauge_Made.calls kj3 _ _ l1 a2 t343 t344 _ ?side1 ?side2 A13.out (by exact sig_below HS.out (by repeat (first | (with_reducible first | exact HB.out | apply below_alloc | apply pw_below_drewN | apply below_drew1 | fail) | exact HB.out)))).mono ?_); (case side1 => repeat (first | exact (Kd.C_below HR1.out HB.out) | (with_reducible refine Kd.C_alloc ?_ _) | (with_reducible refine Kd.C_drewN ?_ _) | (with_reducible refine Kd.C_drew ?_))); (case side2 => exact HC1.out); rintro e w72 ⟨v345, rfl, ho0, hb⟩; refine ⟨_, rfl, ?_⟩; have n0_ := Aside0.mk (Kd.R_below (by (with_reducible repeat (first | apply Kd.R_alloc | apply Kd.R_drewN | apply Kd.R_drew)); exact HO340.out) hb); have n1_ := Aside0.mk (Kd.R_lower ho0 (below_size (by repeat (first | (with_reducible first | exact HB.out | apply below_alloc | apply pw_below_drewN | apply below_drew1) | exact HB.out)))); have n2_ := Aside0.mk (below_step (by repeat (first | (with_reducible first | exact HB.out | apply below_alloc | apply pw_below_drewN | apply below_drew1) | exact HB.out)) hb); clear HO340; clear HB; have HO340 := n0_; have HO346 := n1_; have HB := n2_; clear n0_ n1_ n2_; (try clear hb); (try clear hb2); (try clear hk); (try clear hi); (try clear ho0)) | ((with_reducible refine gate_callee (f := 57) rfl ?_); refine goesL_ (some 45) rfl rfl Tryd.func57 (by kernel_rfl) rfl #[.slice A1 l1.length c1] rfl (by (try simp only [List.map_toArray, List.map_cons, List.map_nil]); first | done | rfl | (simp only [List.length_drop, List.length_take]; rfl)) ?_; (with_reducible refine (metrolablaw47_elements.calls kj3 _ _ l1 t347 _ ?side1 ?side2 A14.out).mono ?_); (case side1 => repeat (first | exact (Kd.C_below HR1.out HB.out) | (with_reducible refine Kd.C_alloc ?_ _) | (with_reducible refine Kd.C_drewN ?_ _) | (with_reducible refine Kd.C_drew ?_))); (case side2 => exact HC1.out); rintro e w73 ⟨v348, rfl, ho0, hb⟩; refine ⟨_, rfl, ?_⟩; have n0_ := Aside0.mk (Kd.R_elder' (by (with_reducible repeat (first | apply Kd.R_alloc | apply Kd.R_drewN | apply Kd.R_drew)); exact HO340.out) (Kd.R_base ho0) hb); have n1_ := Aside0.mk (Kd.R_below (by (with_reducible repeat (first | apply Kd.R_alloc | apply Kd.R_drewN | apply Kd.R_drew)); exact HO346.out) hb); have n2_ := Aside0.mk (Kd.R_lower (Kd.R_new' ho0 (Kd.R_lt (by (with_reducible repeat (first | apply Kd.R_alloc | apply Kd.R_drewN | apply Kd.R_drew)); exact HO340.out))) (below_size (by repeat (first | (with_reducible first | exact HB.out | apply below_alloc | apply pw_below_drewN | apply below_drew1) | exact HB.out)))); have n3_ := Aside0.mk (below_step (by repeat (first | (with_reducible first | exact HB.out | apply below_alloc | apply pw_below_drewN | apply below_drew1) | exact HB.out)) hb); clear HO340; clear HO346; clear HB; have HO340 := n0_; have HO346 := n1_; have HO349 := n2_; have HB := n3_; clear n0_ n1_ n2_ n3_; (try clear hb); (try clear hb2); (try clear hk); (try clear hi); (try clear ho0); obtain ⟨Ao74, co74, eo74⟩ := Kd.R_slice HO349.out; subst eo74) | ((with_reducible refine gate_callee (f := 59) rfl ?_); refine goesL_ (some 47) rfl rfl Tryd.func59 (by kernel_rfl) rfl #[.slice Ao74 t347.length co74, .bool a2] rfl (by (try simp only [List.map_toArray, List.map_cons, List.map_nil]); first | done | rfl | (simp only [List.length_drop, List.length_take]; rfl)) ?_; (with_reducible refine (metrolabref47_Made.calls kj3 _ _ t347 a2 t350 t351 _ ?side1 ?side2 A15.out).mono ?_); (case side1 => repeat (first | exact (Kd.R_reads' HO349.out).2.2 | (with_reducible refine Kd.C_alloc ?_ _) | (with_reducible refine Kd.C_drewN ?_ _) | (with_reducible refine Kd.C_drew ?_))); (case side2 => exact (Kd.R_reads' HO349.out).2.1); rintro e w75 ⟨v352, rfl, ho0, hb⟩; refine ⟨_, rfl, ?_⟩; have n0_ := Aside0.mk (Kd.R_below (by (with_reducible repeat (first | apply Kd.R_alloc | apply Kd.R_drewN | apply Kd.R_drew)); exact HO340.out) hb); have n1_ := Aside0.mk (Kd.R_below (by (with_reducible repeat (first | apply Kd.R_alloc | apply Kd.R_drewN | apply Kd.R_drew)); exact HO346.out) hb); have n2_ := Aside0.mk (Kd.R_below (by (with_reducible repeat (first | apply Kd.R_alloc | apply Kd.R_drewN | apply Kd.R_drew)); exact HO349.out) hb); have n3_ := Aside0.mk (Kd.R_lower ho0 (below_size (by repeat (first | (with_reducible first | exact HB.out | apply below_alloc | apply pw_below_drewN | apply below_drew1) | exact HB.out)))); have n4_ := Aside0.mk (below_step (by repeat (first | (with_reducible first | exact HB.out | apply below_alloc | apply pw_below_drewN | apply below_drew1) | exact HB.out)) hb); clear HO340; clear HO346; clear HO349; clear HB; have HO340 := n0_; have HO346 := n1_; have HO349 := n2_; have HO353 := n3_; have HB := n4_; clear n0_ n1_ n2_ n3_ n4_; (try clear hb); (try clear hb2); (try clear hk); (try clear hi); (try clear ho0)))
          go_ret
          exact ⟨by first | rfl | (simp [errW_none, errW_some] <;> rfl) | (simp [*, errW_none, errW_some] <;> rfl), by repeat (first | (with_reducible first | exact HB.out | apply below_alloc | apply pw_below_drewN | apply below_drew1) | exact HB.out)⟩
end Go.Proofs.YtjemaonejkepcaaDoor.G
namespace Go.Proofs.YtjemaonejkepcaaDoor.G
set_option linter.unusedVariables false
set_option linter.unusedSimpArgs false
open Go.Proofs.YtjemaonejkepcaaDoor.B
open Go.RowKit Go.Proofs.YtjemaonejkepcaaDoorW.PrintWords Go.Proofs.YtjemaonejkepcaaDoorW.PrintMore
/-- A tool, made; a tool as one of the reference. -/
def mkt (high : Bool) (x : S104) : S56 := ⟨⟨x.f0.f0, x.f0.f1⟩, x.f1, if high = true then x.f2.f1 else x.f2.f0⟩
def tl (x : S56) : S142 := ⟨⟨x.f0.f0, x.f0.f1⟩, x.f1, x.f2⟩
/-- The first error of the elements' limits. -/
def ge : List S104 → Int
  | [] => 0
  | x :: r => if lim x.f2.f0 x.f2.f1 = 0 then ge r else lim x.f2.f0 x.f2.f1
theorem ge_ok {x : S104} {r : List S104} (h : lim x.f2.f0 x.f2.f1 = 0) : ge (x :: r) = ge r := by
  show (if lim x.f2.f0 x.f2.f1 = 0 then ge r else lim x.f2.f0 x.f2.f1) = _; rw [if_pos h]
theorem ge_bad {x : S104} {r : List S104} (h : ¬ lim x.f2.f0 x.f2.f1 = 0) : ge (x :: r) = lim x.f2.f0 x.f2.f1 := by
  show (if lim x.f2.f0 x.f2.f1 = 0 then ge r else lim x.f2.f0 x.f2.f1) = _; rw [if_neg h]
def mz (g : List S104) : Int := if 16 < g.length then 5 else ge g
theorem made_1 (high : Bool) (i : Int) (x : S104) : ∃ a b c e, @gauge_Made_1.f (Dat86.mk high) i x.f0.f0 x.f0.f1 x.f1 x.f2.f0 x.f2.f1 = some (a, b, c, e, lim x.f2.f0 x.f2.f1) ∧ (lim x.f2.f0 x.f2.f1 = 0 → (⟨⟨a, b⟩, c, e⟩ : S56) = mkt high x) := by
  unfold gauge_Made_1.f mkt
  rw [glimits 2 (by omega)]
  simp only [Option.bind_some]
  by_cases h : lim x.f2.f0 x.f2.f1 = 0
  · rw [if_pos h, h]
    cases high with
    | true => rw [if_pos rfl]; exact ⟨_, _, _, _, rfl, fun _ => rfl⟩
    | false => rw [if_neg Bool.false_ne_true]; exact ⟨_, _, _, _, rfl, fun _ => rfl⟩
  · rw [if_neg h]; exact ⟨_, _, _, _, rfl, fun h2 => absurd h2 h⟩
theorem made_l0 (high : Bool) (g : List S104) (hn : g.length ≤ 1000) (d : Nat) : ∀ (k : Nat) (acc : List S56) (i : Int), 0 ≤ i → (g.length : Int) - i = d → acc.length + d ≤ 1000 → d < k →
    @gauge_Tool_85.l0 (Dat86.mk high) k acc g (g.length : Int) i = some (if ge (g.drop i.toNat) = 0 then (acc ++ (g.drop i.toNat).map (mkt high), 0) else ([], ge (g.drop i.toNat))) := by
  induction d with
  | zero =>
    intro k acc i h0 hd ha hk
    obtain ⟨k, rfl⟩ : ∃ m, k = m + 1 := ⟨k - 1, by omega⟩
    rw [drop_end g (by omega)]
    simp only [gauge_Tool_85.l0]
    rw [if_neg (by omega)]; simp [ge]
  | succ d ih =>
    intro k acc i h0 hd ha hk
    obtain ⟨k, rfl⟩ : ∃ m, k = m + 1 := ⟨k - 1, by omega⟩
    have h1 : i < (g.length : Int) := by omega
    rw [drop_rd g z104 h0 h1]
    simp only [gauge_Tool_85.l0]
    rw [if_pos h1, if_pos h0, if_pos h1]
    obtain ⟨a, b, c, e, hv, hp⟩ := made_1 high i (rd_T104 g i)
    rw [hv]
    simp only [Option.bind_some]
    by_cases ht : lim (rd_T104 g i).f2.f0 (rd_T104 g i).f2.f1 = 0
    · rw [if_pos ht, if_pos (by omega), up64 h0 (by omega), ih k _ (i + 1) (by omega) (by omega) (by simp; omega) (by omega), hp ht, ge_ok (x := g.getD i.toNat z104) ht]
      by_cases hf : ge (g.drop (i + 1).toNat) = 0
      · rw [if_pos hf, if_pos hf]; simp [rd_T104]
      · rw [if_neg hf, if_neg hf]
    · rw [if_neg ht, ge_bad (x := g.getD i.toNat z104) ht, if_neg (show ¬ lim (g.getD i.toNat z104).f2.f0 (g.getD i.toNat z104).f2.f1 = 0 from ht)]; rfl
theorem gmade (k : Nat) (hk : 40 ≤ k) (g : List S104) (high : Bool) : gauge_Made.f k g high = some (if mz g = 0 then g.map (mkt high) else [], mz g) := by
  unfold gauge_Made.f mz gauge_few.f
  by_cases h1 : 16 < g.length
  · rw [if_pos (show (g.length : Int) > 16 by omega), if_pos h1]; rfl
  · rw [if_neg (show ¬ (g.length : Int) > 16 by omega), if_neg h1]
    simp only [Option.bind_some, if_true, gauge_Tool_85.f]
    rw [made_l0 high g (by omega) g.length k [] 0 (by omega) (by omega) (by simp; omega) (by omega)]
    simp only [Int.toNat_zero, List.drop_zero, List.nil_append]
    by_cases hf : ge g = 0
    · rw [if_pos hf, if_pos hf, hf]
    · rw [if_neg hf, if_neg hf]
theorem rmade_l0 (high : Bool) (g : List S104) (hn : g.length ≤ 1000) (d : Nat) : ∀ (k : Nat) (acc : List S142) (i : Int), 0 ≤ i → (g.length : Int) - i = d → acc.length + d ≤ 1000 → d + 4 ≤ k →
    metrolabref47_Made.l0 k (g.map el) high acc i = some (if ge (g.drop i.toNat) = 0 then (acc ++ (g.drop i.toNat).map (fun x => tl (mkt high x)), 0) else ([], ge (g.drop i.toNat))) := by
  induction d with
  | zero =>
    intro k acc i h0 hd ha hk
    obtain ⟨k, rfl⟩ : ∃ m, k = m + 1 := ⟨k - 1, by omega⟩
    rw [drop_end g (by omega)]
    simp only [metrolabref47_Made.l0]
    rw [if_neg (by simp; omega)]; simp [ge]
  | succ d ih =>
    intro k acc i h0 hd ha hk
    obtain ⟨k, rfl⟩ : ∃ m, k = m + 1 := ⟨k - 1, by omega⟩
    have h1 : i < (g.length : Int) := by omega
    have hg1 : i < ((g.map el).length : Int) := by simpa using h1
    rw [drop_rd g z104 h0 h1, show g.getD i.toNat z104 = rd_T104 g i from rfl]
    simp only [metrolabref47_Made.l0]
    rw [if_pos hg1, if_pos h0, el_at g (by omega), rlimits k (by omega)]
    simp only [Option.bind_some]
    have hih := fun a ha => ih k a (i + 1) (by omega) (by omega) ha (by omega)
    generalize rd_T104 g i = x at *
    rw [show (el x).f0.f0 = x.f0.f0 from rfl, show (el x).f0.f1 = x.f0.f1 from rfl, show (el x).f1 = x.f1 from rfl, show (el x).f2.f0 = x.f2.f0 from rfl, show (el x).f2.f1 = x.f2.f1 from rfl]
    by_cases ht : lim x.f2.f0 x.f2.f1 = 0
    · rw [if_pos ht, ge_ok ht, up64 h0 (by omega)]
      have hlen : acc.length < 4398046511104 := by omega
      cases high with
      | true =>
        rw [if_pos rfl, if_pos hlen, hih _ (by simp; omega)]
        by_cases hf : ge (g.drop (i + 1).toNat) = 0
        · rw [if_pos hf, if_pos hf]; simp [tl, mkt]
        · rw [if_neg hf, if_neg hf]
      | false =>
        rw [if_neg Bool.false_ne_true, if_pos hlen, hih _ (by simp; omega)]
        by_cases hf : ge (g.drop (i + 1).toNat) = 0
        · rw [if_pos hf, if_pos hf]; simp [tl, mkt]
        · rw [if_neg hf, if_neg hf]
    · rw [if_neg ht, ge_bad ht, if_neg ht]
theorem rmade (k : Nat) (hk : 40 ≤ k) (g : List S104) (high : Bool) : metrolabref47_Made.f k (g.map el) high = some ((if mz g = 0 then g.map (mkt high) else []).map tl, mz g) := by
  unfold metrolabref47_Made.f mz
  by_cases h1 : 16 < g.length
  · rw [if_pos (by simp; omega), if_pos h1]; rfl
  · rw [if_neg (by simp; omega), if_neg h1, rmade_l0 high g (by omega) g.length k [] 0 (by omega) (by omega) (by simp; omega) (by omega)]
    simp only [Int.toNat_zero, List.drop_zero, List.nil_append]
    by_cases hf : ge g = 0
    · rw [if_pos hf, if_pos hf, hf]; simp
    · rw [if_neg hf, if_neg hf]; rfl
theorem tools_l0 (l : List S56) (hn : l.length ≤ 1000) (d : Nat) : ∀ (k : Nat) (acc : List S142) (i : Int), 0 ≤ i → (l.length : Int) - i = d → acc.length + d ≤ 1000 → d < k →
    metrolablaw47_tools.l0 k acc l (l.length : Int) i = some (acc ++ (l.drop i.toNat).map tl) := by
  induction d with
  | zero =>
    intro k acc i h0 hd ha hk
    obtain ⟨k, rfl⟩ : ∃ m, k = m + 1 := ⟨k - 1, by omega⟩
    rw [drop_end l (by omega)]
    simp only [metrolablaw47_tools.l0]
    rw [if_neg (by omega)]; simp
  | succ d ih =>
    intro k acc i h0 hd ha hk
    obtain ⟨k, rfl⟩ : ∃ m, k = m + 1 := ⟨k - 1, by omega⟩
    have h1 : i < (l.length : Int) := by omega
    rw [drop_rd l z56 h0 h1]
    simp only [metrolablaw47_tools.l0]
    rw [if_pos h1, if_pos h0, if_pos h1, if_pos (by omega), up64 h0 (by omega), ih k _ (i + 1) (by omega) (by omega) (by simp; omega) (by omega)]
    simp [rd_T56, tl]
theorem tools_ok (k : Nat) (l : List S56) (hn : l.length ≤ 1000) (hk : l.length < k) : metrolablaw47_tools.f k l = some (l.map tl) := by
  unfold metrolablaw47_tools.f
  rw [tools_l0 l hn l.length k [] 0 (by omega) (by omega) (by simp; omega) hk]; simp
theorem samet_l0 (l : List S142) (hn : l.length ≤ 1000) (d : Nat) : ∀ (k : Nat) (i : Int), 0 ≤ i → (l.length : Int) - i = d → d < k → metrolabref47_SameTools.l0 k l l i = some true := by
  induction d with
  | zero =>
    intro k i h0 hd hk
    obtain ⟨k, rfl⟩ : ∃ m, k = m + 1 := ⟨k - 1, by omega⟩
    simp only [metrolabref47_SameTools.l0]
    rw [if_neg (by omega)]
  | succ d ih =>
    intro k i h0 hd hk
    obtain ⟨k, rfl⟩ : ∃ m, k = m + 1 := ⟨k - 1, by omega⟩
    have h1 : i < (l.length : Int) := by omega
    simp only [metrolabref47_SameTools.l0]
    rw [if_pos h1, if_pos h0, if_pos h1, up64 h0 (by omega), ih k (i + 1) (by omega) (by omega) (by omega)]
    simp
theorem samet_ok (k : Nat) (l : List S142) (hn : l.length ≤ 1000) (hk : l.length < k) : metrolabref47_SameTools.f k l l = some true := by
  unfold metrolabref47_SameTools.f
  rw [if_pos rfl, samet_l0 l hn l.length k 0 (by omega) (by omega) hk]
/-- The greatest loss. -/
def mxl : Int → List S25 → Int
  | m, [] => m
  | m, x :: r => mxl (mx m x.f1) r
theorem loss_l0 (q : List S25) (hn : q.length ≤ 1000) (d : Nat) : ∀ (k : Nat) (m i : Int), 0 ≤ i → (q.length : Int) - i = d → d < k → gauge_Loss.l0 k m q (q.length : Int) i = some (mxl m (q.drop i.toNat), 0) := by
  induction d with
  | zero =>
    intro k m i h0 hd hk
    obtain ⟨k, rfl⟩ : ∃ m, k = m + 1 := ⟨k - 1, by omega⟩
    rw [drop_end q (by omega)]
    simp only [gauge_Loss.l0]
    rw [if_neg (by omega)]; rfl
  | succ d ih =>
    intro k m i h0 hd hk
    obtain ⟨k, rfl⟩ : ∃ m, k = m + 1 := ⟨k - 1, by omega⟩
    have h1 : i < (q.length : Int) := by omega
    rw [drop_rd q z25 h0 h1]
    simp only [gauge_Loss.l0]
    rw [if_pos h1, if_pos h0, if_pos h1, up64 h0 (by omega), ih k _ (i + 1) (by omega) (by omega) (by omega)]; rfl
theorem loss_step {t : S27} {x : S104} (ht : te t = 0) (hp : pe t x = 0) (hn : ¬ (pl t x).f0 < 0) {m : Int} (hm : 0 ≤ m) : mx (mx m (wrap64 (x.f2.f1 - tv t))) (wrap64 (tv t - x.f2.f0)) = mx m (pl t x).f1 ∧ 0 ≤ mx m (pl t x).f1 := by
  obtain ⟨hb, _, _, hh⟩ := pe_ok hp
  have hv := tv_range ht
  rw [w64 (n := x.f2.f1 - tv t) (by omega), w64 (n := tv t - x.f2.f0) (by omega)]
  unfold pl at *
  cases h : x.f1 with
  | true =>
    rw [h, if_pos rfl] at hn
    rw [if_pos rfl]
    simp only at hn ⊢
    unfold mx
    repeat' split
    all_goals omega
  | false =>
    rw [h, if_neg Bool.false_ne_true] at hn
    rw [if_neg Bool.false_ne_true]
    simp only at hn ⊢
    unfold mx
    repeat' split
    all_goals omega
theorem rloss_l0 (l : List S27) (g : List S104) (hn : l.length ≤ 1000) (he : g.length = l.length) (hl : ∀ t ∈ l, te t = 0) (d : Nat) : ∀ (k : Nat) (m i : Int), 0 ≤ m → 0 ≤ i → (g.length : Int) - i = d → d < k → fp (l.drop i.toNat) (g.drop i.toNat) = 0 → neg (List.zipWith pl (l.drop i.toNat) (g.drop i.toNat)) = false →
    metrolabref47_Loss.l0 k l (g.map el) m i = some (mxl m (List.zipWith pl (l.drop i.toNat) (g.drop i.toNat)), 0) := by
  induction d with
  | zero =>
    intro k m i hm0 h0 hd hk hf hz
    obtain ⟨k, rfl⟩ : ∃ m, k = m + 1 := ⟨k - 1, by omega⟩
    rw [drop_end l (by omega), drop_end g (by omega)]
    simp only [metrolabref47_Loss.l0]
    rw [if_neg (by simp; omega)]; rfl
  | succ d ih =>
    intro k m i hm0 h0 hd hk hf hz
    obtain ⟨k, rfl⟩ : ∃ m, k = m + 1 := ⟨k - 1, by omega⟩
    have h1 : i < (g.length : Int) := by omega
    have h2 : i < (l.length : Int) := by omega
    have hdr : l.drop i.toNat = rd_T27 l i :: l.drop (i + 1).toNat := drop_rd l z27 h0 h2
    have hdg : g.drop i.toNat = rd_T104 g i :: g.drop (i + 1).toNat := drop_rd g z104 h0 h1
    have hm : te (rd_T27 l i) = 0 := hl _ (List.mem_of_mem_drop (by rw [hdr]; exact List.mem_cons_self))
    rw [hdr, hdg] at hf hz ⊢
    have hp : pe (rd_T27 l i) (rd_T104 g i) = 0 := by
      by_cases hp : pe (rd_T27 l i) (rd_T104 g i) = 0
      · exact hp
      · rw [fp_bad hp] at hf; exact hf
    rw [fp_ok hp] at hf
    have hz2 : (decide ((pl (rd_T27 l i) (rd_T104 g i)).f0 < 0) || neg (List.zipWith pl (l.drop (i + 1).toNat) (g.drop (i + 1).toNat))) = false := hz
    rw [Bool.or_eq_false_iff] at hz2
    have hs := loss_step hm hp (of_decide_eq_false hz2.1) hm0
    have hih := ih k _ (i + 1) hs.2 (by omega) (by omega) (by omega) hf hz2.2
    have hg1 : i < ((g.map el).length : Int) := by simpa using h1
    simp only [metrolabref47_Loss.l0]
    rw [if_pos hg1, if_pos h0, if_pos h2, el_at g (by omega), gauge_ok (te_ok hm).1]
    simp only [Option.bind_some]
    rw [show vir (rd_T27 l i).f1.f0 (rd_T27 l i).f1.f1 (rd_T27 l i).f2 (rd_T27 l i).f3 (rd_T27 l i).f4 = tv (rd_T27 l i) from rfl, show (el (rd_T104 g i)).f2.f0 = (rd_T104 g i).f2.f0 from rfl, show (el (rd_T104 g i)).f2.f1 = (rd_T104 g i).f2.f1 from rfl, hs.1, up64 h0 (by omega), hih]
    rfl
/-- The loss. -/
def lm (l : List S27) (g : List S104) : Int := if lz l g = 0 then mxl 0 (List.zipWith pl l g) else 0
theorem gloss (k : Nat) (hk : 40 ≤ k) (l : List S27) (g : List S104) : gauge_Loss.f k l g = some (lm l g, lz l g) := by
  unfold gauge_Loss.f lm
  rw [glosses k hk]
  simp only [Option.bind_some]
  by_cases h : lz l g = 0
  · rw [if_pos h, if_pos h, if_pos h]
    have hb : (List.zipWith pl l g).length ≤ 16 := by
      have : ce l = 0 := by
        unfold lz at h
        by_cases hc : ce l = 0
        · exact hc
        · rw [if_neg hc] at h; exact h
      have := (ce_ok this).2.1
      simp; omega
    rw [loss_l0 _ (by omega) (List.zipWith pl l g).length k 0 0 (by omega) (by omega) (by omega), h]; rfl
  · rw [if_neg h, if_neg h]
theorem rloss (k : Nat) (hk : 2500 ≤ k) (l : List S27) (g : List S104) : metrolabref47_Loss.f k l (g.map el) = some (lm l g, lz l g) := by
  unfold metrolabref47_Loss.f lm
  rw [rsafe k hk]
  simp only [Option.bind_some]
  by_cases h : lz l g = 0
  · rw [if_pos h, if_pos h]
    have h2 := h
    unfold lz at h2
    by_cases hc : ce l = 0
    · rw [if_pos hc] at h2
      obtain ⟨hn1, hn2, hl⟩ := ce_ok hc
      by_cases he : g.length = l.length
      · rw [if_pos he] at h2
        by_cases hf : fp l g = 0
        · rw [if_pos hf] at h2
          by_cases hz : neg (List.zipWith pl l g) = true
          · rw [if_pos hz] at h2; omega
          · rw [rloss_l0 l g (by omega) he hl g.length k 0 0 (by omega) (by omega) (by omega) (by omega) hf (by simpa using hz), h]; rfl
        · rw [if_neg hf] at h2; exact absurd h2 hf
      · rw [if_neg he] at h2; omega
    · rw [if_neg hc] at h2; exact absurd h2 hc
  · rw [if_neg h, if_neg h]
theorem loses_pure (l : List S27) (g : List S104) (high : Bool) : ∃ k, metrolablaw47_GaugeLoses.f k l g high = some true := by
  refine ⟨4000, ?_⟩
  unfold metrolablaw47_GaugeLoses.f
  simp only [metrolablaw47_few.f, Option.bind_some, decide_eq_true_eq]
  by_cases hn : (l.length : Int) ≤ 32
  · rw [if_pos hn]
    simp only [metrolablaw47_GaugeLoses.j0, decide_eq_true_eq]
    by_cases hg : (g.length : Int) > 40
    · rw [if_pos hg, awake_ok 3999 (by omega)]; rfl
    · rw [if_neg hg, gloss 3999 (by omega), elements_ok 3999 g (by omega) (by omega), gmade 3999 (by omega)]
      simp only [Option.bind_some]
      rw [rloss 3999 (by omega), rmade 3999 (by omega)]
      simp only [Option.bind_some, if_true]
      have hlen : (if mz g = 0 then g.map (mkt high) else []).length ≤ 40 := by
        split
        · simp; omega
        · simp
      rw [tools_ok 3999 _ (by omega) (by omega)]
      simp only [Option.bind_some]
      rw [samet_ok 3999 _ (by rw [List.length_map]; omega) (by rw [List.length_map]; omega)]
      simp only [Option.bind_some, if_true]
      rw [awake_ok 3999 (by omega)]; rfl
  · rw [if_neg hn]
    simp only [metrolablaw47_GaugeLoses.j0, if_true]
    rw [awake_ok 3999 (by omega)]; rfl
end Go.Proofs.YtjemaonejkepcaaDoor.G
