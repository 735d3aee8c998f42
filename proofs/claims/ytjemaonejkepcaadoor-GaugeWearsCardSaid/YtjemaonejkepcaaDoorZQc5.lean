/- Texts of the laws GaugeGuards, GaugeLoses, GaugeWears, laid together by a program of this session; what is not reached is cut. In it: words that the kit's print.sh printed, contracts of Go functions printed over the kit's printer, our own laws. Not trusted: Lean checks them. -/
import Derived.Test.YtjemaonejkepcaaDoorZQc4
namespace Go.Proofs.YtjemaonejkepcaaDoor.G
open Go.Proofs.YtjemaonejkepcaaDoor.B
open Go.RowKit Go.Proofs.YtjemaonejkepcaaDoorW.PrintWords Go.Proofs.YtjemaonejkepcaaDoorW.PrintLast Go.Proofs.YtjemaonejkepcaaDoorW.PrintMore
attribute [local go_sem] max2_int min2_int max_two min_two max_three min_three max_four min_four   -- for this text's walks alone
set_option linter.unusedVariables false
set_option linter.unusedSimpArgs false
attribute [local go_sem high] eqA23
mutual
def metrolabref47_Safe.l0 : Nat → List (S27) → List (S141) → Int → Option (Int)
  | 0, _, _, _ => none
  | k + 1, x0, x1, x6 => if x6 < (x1.length : Int) then (if 0 ≤ x6 then ((metrolabref47_limits.f k ((rd_T141 x1 x6).f0.f0) ((rd_T141 x1 x6).f0.f1) ((rd_T141 x1 x6).f1) ((rd_T141 x1 x6).f2.f0) ((rd_T141 x1 x6).f2.f1)).bind fun t284 => (if t284 = 0 then (if x6 < (x0.length : Int) then (if (!(((rd_T141 x1 x6).f0.f0) == ((rd_T27 x0 x6).f0.f0)) || (!(((rd_T141 x1 x6).f0.f1) == ((rd_T27 x0 x6).f0.f1)))) = true then (some 16) else (if (((rd_T141 x1 x6).f1) != ((rd_T27 x0 x6).f4)) = true then (some 16) else (metrolabref47_Safe.l0 k x0 x1 (wrap64 (x6 + 1))))) else (none)) else (some t284))) else (none)) else (metrolabref47_Safe.l1 k x0 x1 0)
def metrolabref47_Safe.l1 : Nat → List (S27) → List (S141) → Int → Option (Int)
  | 0, _, _, _ => none
  | k + 1, x0, x1, x8 => if x8 < (x1.length : Int) then (if 0 ≤ x8 then (if x8 < (x0.length : Int) then ((metrolabref47_Beyond.f ((rd_T27 x0 x8).f0.f0) ((rd_T27 x0 x8).f0.f1) ((rd_T27 x0 x8).f1.f0) ((rd_T27 x0 x8).f1.f1) ((rd_T27 x0 x8).f2) ((rd_T27 x0 x8).f3) ((rd_T27 x0 x8).f4) ((rd_T141 x1 x8).f2.f0)).bind fun t291 => (if t291 = true then (some 15) else ((metrolabref47_Beyond.f ((rd_T27 x0 x8).f0.f0) ((rd_T27 x0 x8).f0.f1) ((rd_T27 x0 x8).f1.f0) ((rd_T27 x0 x8).f1.f1) ((rd_T27 x0 x8).f2) ((rd_T27 x0 x8).f3) ((rd_T27 x0 x8).f4) ((rd_T141 x1 x8).f2.f1)).bind fun t294 => (if t294 = true then (some 15) else (metrolabref47_Safe.l1 k x0 x1 (wrap64 (x8 + 1))))))) else (none)) else (none)) else (some 0)
end
def metrolabref47_Safe.f (k : Nat) (l0 : List (S27)) (l1 : List (S141)) : Option (Int) := (metrolabref47_Check.f k l0).bind fun t282 => (if t282 = 0 then (if (l1.length : Int) = (l0.length : Int) then (metrolabref47_Safe.l0 k l0 l1 0) else (some 8)) else (some t282))
theorem metrolabref47_Safe.mono_l : ∀ k, (∀ y0 y1 y2, LeO (metrolabref47_Safe.l0 k y0 y1 y2) (metrolabref47_Safe.l0 (k + 1) y0 y1 y2)) ∧ (∀ y0 y1 y2, LeO (metrolabref47_Safe.l1 k y0 y1 y2) (metrolabref47_Safe.l1 (k + 1) y0 y1 y2))
  | 0 => ⟨fun _ _ _ r h => by simp [metrolabref47_Safe.l0] at h, fun _ _ _ r h => by simp [metrolabref47_Safe.l1] at h⟩
  | k + 1 => by
    obtain ⟨ih0, ih1⟩ := metrolabref47_Safe.mono_l k
    refine ⟨?_, ?_⟩
    · intro y0 y1 y2
      unfold metrolabref47_Safe.l0
      repeat' first
      | (with_reducible exact ih0 _ _ _)
      | (with_reducible exact ih1 _ _ _)
      | (with_reducible exact metrolabref47_Check.mono _ _)
      | (with_reducible exact metrolabref47_limits.mono _ _ _ _ _ _)
      | (with_reducible exact LeO.refl _)
      | (with_reducible exact LeO.none _)
      | (with_reducible refine LeO.ite ?_ ?_)
      | (with_reducible refine LeO.bind ?_ (fun _ => ?_))
      | exact ih0 _ _ _
      | exact ih1 _ _ _
      | exact metrolabref47_Check.mono _ _
      | exact metrolabref47_limits.mono _ _ _ _ _ _
      | exact LeO.none _
      | refine LeO.ite ?_ ?_
      | refine LeO.bind ?_ (fun _ => ?_)
    · intro y0 y1 y2
      unfold metrolabref47_Safe.l1
      repeat' first
      | (with_reducible exact ih0 _ _ _)
      | (with_reducible exact ih1 _ _ _)
      | (with_reducible exact metrolabref47_Check.mono _ _)
      | (with_reducible exact metrolabref47_limits.mono _ _ _ _ _ _)
      | (with_reducible exact LeO.refl _)
      | (with_reducible exact LeO.none _)
      | (with_reducible refine LeO.ite ?_ ?_)
      | (with_reducible refine LeO.bind ?_ (fun _ => ?_))
      | exact ih0 _ _ _
      | exact ih1 _ _ _
      | exact metrolabref47_Check.mono _ _
      | exact metrolabref47_limits.mono _ _ _ _ _ _
      | exact LeO.none _
      | refine LeO.ite ?_ ?_
      | refine LeO.bind ?_ (fun _ => ?_)
theorem metrolabref47_Safe.mono : ∀ a0 a1 k, LeO (metrolabref47_Safe.f k a0 a1) (metrolabref47_Safe.f (k + 1) a0 a1) := by
  intro a0 a1 k
  obtain ⟨ih0, ih1⟩ := metrolabref47_Safe.mono_l k
  unfold metrolabref47_Safe.f
  repeat' first
      | (with_reducible exact ih0 _ _ _)
      | (with_reducible exact ih1 _ _ _)
      | (with_reducible exact metrolabref47_Check.mono _ _)
      | (with_reducible exact metrolabref47_limits.mono _ _ _ _ _ _)
      | (with_reducible exact LeO.refl _)
      | (with_reducible exact LeO.none _)
      | (with_reducible refine LeO.ite ?_ ?_)
      | (with_reducible refine LeO.bind ?_ (fun _ => ?_))
      | exact ih0 _ _ _
      | exact ih1 _ _ _
      | exact metrolabref47_Check.mono _ _
      | exact metrolabref47_limits.mono _ _ _ _ _ _
      | exact LeO.none _
      | refine LeO.ite ?_ ?_
      | refine LeO.bind ?_ (fun _ => ?_)
def metrolabref47_Safe.T12 : Bool × List (List Nat × List Nat) := (true, [([], []), ([], []), ([0, 1], [0, 1]), ([2], [2]), ([3], [3]), ([], []), ([], []), ([5, 6], [5, 6]), ([7], [7]), ([8], [8]), ([4, 9], [4, 9]), ([10], [10]), ([11], [11]), ([11], [11]), ([12, 13, 11], [11, 12, 13]), ([14, 11], [11, 14]), ([15, 11], [11, 15]), ([11], [11]), ([11], [11]), ([17, 18, 11], [11, 17, 18]), ([19, 11], [11, 19]), ([20, 11], [11, 20]), ([16, 21, 11], [11, 16, 21]), ([11, 22], [11, 22])])
def metrolabref47_Safe.B12 : List Nat := [0, 0, 3, 7, 15, 0, 0, 96, 224, 480, 1023, 2047, 4095, 4095, 16383, 32767, 65535, 4095, 4095, 397311, 921599, 1970175, 4194303, 8388607]
theorem metrolabref47_Safe.tab12 : rtab .any (opsOf Tryd.f56 12) = metrolabref47_Safe.T12 := by kernel_rfl
theorem metrolabref47_Safe.bits12 : waitsOk metrolabref47_Safe.T12.2 metrolabref47_Safe.B12 = true := by kernel_rfl
def metrolabref47_Safe.T17 : Bool × List (List Nat × List Nat) := (true, [([], []), ([], []), ([0, 1], [0, 1]), ([2], [2]), ([], []), ([], []), ([4, 5], [4, 5]), ([6], [6]), ([7], [7]), ([8], [8]), ([3, 9], [3, 9]), ([10, 10], [10]), ([11], [11]), ([11], [11]), ([12, 13, 11], [11, 12, 13]), ([14, 11], [11, 14]), ([11], [11]), ([11], [11]), ([16, 17, 11], [11, 16, 17]), ([18, 11], [11, 18]), ([19, 11], [11, 19]), ([20, 11], [11, 20]), ([15, 21, 11, 11], [11, 15, 21]), ([11, 22], [11, 22])])
def metrolabref47_Safe.B17 : List Nat := [0, 0, 3, 7, 0, 0, 48, 112, 240, 496, 1023, 2047, 4095, 4095, 16383, 32767, 4095, 4095, 200703, 462847, 987135, 2035711, 4194303, 8388607]
theorem metrolabref47_Safe.tab17 : rtab .any (opsOf Tryd.f56 17) = metrolabref47_Safe.T17 := by kernel_rfl
theorem metrolabref47_Safe.bits17 : waitsOk metrolabref47_Safe.T17.2 metrolabref47_Safe.B17 = true := by kernel_rfl
set_option maxHeartbeats 8000000 in
set_option maxRecDepth 100000 in
theorem metrolabref47_Safe.calls (k : Nat) (A0 : Option Addr) (c0 : Nat) (l0 : List (S27)) (A1 : Option Addr) (c1 : Nat) (l1 : List (S141)) (r : Int) (w : World) (hr0 : Kd.C k27 w A0 l0.length l0) (hc0 : l0.length ≤ c0) (hr1 : Kd.C k141 w A1 l1.length l1) (hc1 : l1.length ≤ c1) (h : metrolabref47_Safe.f k l0 l1 = some r) :
    Calls Tryd.prog 56 #[.slice A0 l0.length c0, .slice A1 l1.length c1] w fun e w' => e = .returned (.int .i64 r) ∧ Below w.heap.size w w' := by
  have hu141 := Tryd.underlying141
  have hu23 := Tryd.underlying23
  have hu27 := Tryd.underlying27
  have HR0 := Aside0.mk hr0
  have HC0 := Aside0.mk hc0
  clear hr0 hc0
  have HR1 := Aside0.mk hr1
  have HC1 := Aside0.mk hc1
  clear hr1 hc1
  have HB := Aside0.mk (Below.refl w.heap.size w)
  have H : ((metrolabref47_Check.f k l0).bind fun t282 => (if t282 = 0 then (if (l1.length : Int) = (l0.length : Int) then (metrolabref47_Safe.l0 k l0 l1 0) else (some 8)) else (some t282))) = some r := h
  clear h
  replace H := Option.bind_eq_some_iff.mp H
  obtain ⟨t282, A30, H⟩ := H
  replace H : (if t282 = 0 then (if (l1.length : Int) = (l0.length : Int) then (metrolabref47_Safe.l0 k l0 l1 0) else (some 8)) else (some t282)) = some r := H
  have A3 := Aside0.mk A30
  clear A30
  by_cases c4 : t282 = 0
  · rw [if_pos c4] at H
    have c4b0 : (t282 == 0) = true := beq_iff_eq.mpr c4
    have c4b1 : (t282 != 0) = false := bne_eq_false_iff_eq.mpr c4
    clear c4
    by_cases c5 : (l1.length : Int) = (l0.length : Int)
    · rw [if_pos c5] at H
      have c5b0 : ((l1.length : Int) == (l0.length : Int)) = true := beq_iff_eq.mpr c5
      have c5b1 : ((l1.length : Int) != (l0.length : Int)) = false := bne_eq_false_iff_eq.mpr c5
      have c5b2 : (l1.length == l0.length) = true := by first | simpa using c5 | (simp at c5 ⊢; omega)
      clear c5
      have H' := Aside0.mk H
      clear H
      go_enter Tryd.func56, Tryd.ntmps56
      go_wp2_with (first | ((with_reducible refine gate_callee (f := 65) rfl ?_); refine goesL_ (some 10) rfl rfl Tryd.func65 (by kernel_rfl) rfl #[.slice A0 l0.length c0] rfl (by (try simp only [List.map_toArray, List.map_cons, List.map_nil]); first | done | rfl | (simp only [List.length_drop, List.length_take]; rfl)) ?_; (with_reducible refine (metrolabref47_Check.calls k _ _ l0 t282 _ ?side1 ?side2 A3.out).mono ?_); (case side1 => repeat (first | exact HR0.out | (with_reducible refine Kd.C_alloc ?_ _) | (with_reducible refine Kd.C_drewN ?_ _) | (with_reducible refine Kd.C_drew ?_))); (case side2 => exact HC0.out); rintro e w6 ⟨rfl, hb⟩; refine ⟨_, rfl, ?_⟩; have n0_ := Aside0.mk (below_step (by repeat (first | (with_reducible first | exact HB.out | apply below_alloc | apply pw_below_drewN | apply below_drew1) | exact HB.out)) hb); clear HB; have HB := n0_; clear n0_; (try clear hb); (try clear hb2); (try clear hk); (try clear hi)))
      go_loopg [6] k (fun kq v6 w' => ∃ (x6_1 : Int), v6 = .int .i64 x6_1 ∧ Aside0 (metrolabref47_Safe.l0 kq l0 l1 x6_1 = some r) ∧ Aside0 (kq ≤ k) ∧ Aside0 (Below w.heap.size w w'))
      case atStart => exact ⟨(0), (by first | rfl | (simp; done) | (simp [*]; done)), H', ⟨Nat.le_refl _⟩, ⟨by repeat (first | (with_reducible first | exact HB.out | apply below_alloc | apply pw_below_drewN | apply below_drew1) | exact HB.out)⟩⟩
      case round =>
        clear H'
        try clear c1
        try clear p2
        try clear c4
        try clear c4b0
        try clear c4b1
        try clear c5
        try clear c5b0
        try clear c5b1
        try clear c5b2
        try clear c6
        obtain ⟨x6_1, rfl, HA, HK1, HB⟩ := hrel
        cases gk with
        | zero => exact absurd HA.out (by simp [metrolabref47_Safe.l0])
        | succ k1 =>
          have H := HA.out
          clear HA
          simp only [metrolabref47_Safe.l0] at H
          by_cases c7 : x6_1 < (l1.length : Int)
          · rw [if_pos c7] at H
            have c7b0 : decide (x6_1 < (l1.length : Int)) = true := decide_eq_true c7
            clear c7
            by_cases c8 : 0 ≤ x6_1
            · rw [if_pos c8] at H
              have c8b0 : decide (0 ≤ x6_1) = true := decide_eq_true c8
              clear c8
              replace H := Option.bind_eq_some_iff.mp H
              obtain ⟨t284, A90, H⟩ := H
              replace H : (if t284 = 0 then (if x6_1 < (l0.length : Int) then (if (!(((rd_T141 l1 x6_1).f0.f0) == ((rd_T27 l0 x6_1).f0.f0)) || (!(((rd_T141 l1 x6_1).f0.f1) == ((rd_T27 l0 x6_1).f0.f1)))) = true then (some 16) else (if (((rd_T141 l1 x6_1).f1) != ((rd_T27 l0 x6_1).f4)) = true then (some 16) else (metrolabref47_Safe.l0 k1 l0 l1 (wrap64 (x6_1 + 1))))) else (none)) else (some t284)) = some r := H
              have A9 := Aside0.mk A90
              clear A90
              by_cases c10 : t284 = 0
              · rw [if_pos c10] at H
                have c10b0 : (t284 == 0) = true := beq_iff_eq.mpr c10
                have c10b1 : (t284 != 0) = false := bne_eq_false_iff_eq.mpr c10
                clear c10
                by_cases c11 : x6_1 < (l0.length : Int)
                · rw [if_pos c11] at H
                  have c11b0 : decide (x6_1 < (l0.length : Int)) = true := decide_eq_true c11
                  clear c11
                  by_cases c12 : (!(((rd_T141 l1 x6_1).f0.f0) == ((rd_T27 l0 x6_1).f0.f0)) || (!(((rd_T141 l1 x6_1).f0.f1) == ((rd_T27 l0 x6_1).f0.f1)))) = true
                  · rw [if_pos c12] at H
                    have c12b0 : (!(((rd_T141 l1 x6_1).f0.f0) == ((rd_T27 l0 x6_1).f0.f0)) || (!(((rd_T141 l1 x6_1).f0.f1) == ((rd_T27 l0 x6_1).f0.f1)))) = true := c12
                    clear c12
                    obtain rfl := Option.some.inj H
                    have p283 : 0 ≤ (x6_1 : Int) := of_decide_eq_true (by first | (with_reducible assumption) | assumption)
                    have q283 : x6_1 < (l1.length : Int) := of_decide_eq_true (by first | (with_reducible assumption) | assumption)
                    obtain ⟨ad283, e283, hx283_0, hx283_1, hx283_2, hx283_3, hx283_4⟩ := at_T141 HR1.out x6_1 p283 q283
                    cases e283
                    replace hx283_0 := (HB.out.cell (World.block_lt_of_cell? w _ hx283_0)).trans hx283_0
                    replace hx283_1 := (HB.out.cell (World.block_lt_of_cell? w _ hx283_1)).trans hx283_1
                    replace hx283_2 := (HB.out.cell (World.block_lt_of_cell? w _ hx283_2)).trans hx283_2
                    replace hx283_3 := (HB.out.cell (World.block_lt_of_cell? w _ hx283_3)).trans hx283_3
                    replace hx283_4 := (HB.out.cell (World.block_lt_of_cell? w _ hx283_4)).trans hx283_4
                    replace p283 := eq_true p283
                    replace q283 := eq_true q283
                    try go_wp2_with (first | ((with_reducible refine gate_callee (f := 101) rfl ?_); refine goesL_ (some 29) rfl rfl Tryd.func101 (by kernel_rfl) rfl #[.agg #[.int .i64 ((rd_T141 l1 x6_1).f0.f0), .int .i64 ((rd_T141 l1 x6_1).f0.f1), .bool ((rd_T141 l1 x6_1).f1), .int .i64 ((rd_T141 l1 x6_1).f2.f0), .int .i64 ((rd_T141 l1 x6_1).f2.f1)]] rfl (by (try simp only [List.map_toArray, List.map_cons, List.map_nil]); first | done | rfl | (simp only [List.length_drop, List.length_take]; rfl)) ?_; (with_reducible refine (metrolabref47_limits.calls k1 ((rd_T141 l1 x6_1).f0.f0) ((rd_T141 l1 x6_1).f0.f1) ((rd_T141 l1 x6_1).f1) ((rd_T141 l1 x6_1).f2.f0) ((rd_T141 l1 x6_1).f2.f1) t284 _ A9.out).mono ?_); rintro e w13 ⟨rfl, hb⟩; refine ⟨_, rfl, ?_⟩; have n0_ := Aside0.mk (below_step (by repeat (first | (with_reducible first | exact HB.out | apply below_alloc | apply pw_below_drewN | apply below_drew1) | exact HB.out)) hb); clear HB; have HB := n0_; clear n0_; (try clear hb); (try clear hb2); (try clear hk); (try clear hi)))
                    have n0_ := Aside0.mk (below_drew1 HB.out)
                    clear HB
                    have HB := n0_
                    clear n0_
                    have p285 : 0 ≤ (x6_1 : Int) := of_decide_eq_true (by first | (with_reducible assumption) | assumption)
                    have q285 : x6_1 < (l1.length : Int) := of_decide_eq_true (by first | (with_reducible assumption) | assumption)
                    obtain ⟨ad285, e285, hx285_0, hx285_1, hx285_2, hx285_3, hx285_4⟩ := at_T141 HR1.out x6_1 p285 q285
                    have hw285_4 := hx285_4
                    have hw285_3 := hx285_3
                    have hw285_2 := hx285_2
                    have hw285_1 := hx285_1
                    have hw285_0 := hx285_0
                    obtain rfl : ad283 = ad285 := (by injection e285)
                    replace hx285_0 := (HB.out.cell (World.block_lt_of_cell? w _ hx285_0)).trans hx285_0
                    replace hx285_1 := (HB.out.cell (World.block_lt_of_cell? w _ hx285_1)).trans hx285_1
                    replace hx285_2 := (HB.out.cell (World.block_lt_of_cell? w _ hx285_2)).trans hx285_2
                    replace hx285_3 := (HB.out.cell (World.block_lt_of_cell? w _ hx285_3)).trans hx285_3
                    replace hx285_4 := (HB.out.cell (World.block_lt_of_cell? w _ hx285_4)).trans hx285_4
                    replace p285 := eq_true p285
                    replace q285 := eq_true q285
                    have p286 : 0 ≤ (x6_1 : Int) := of_decide_eq_true (by first | (with_reducible assumption) | assumption)
                    have q286 : x6_1 < (l0.length : Int) := of_decide_eq_true (by first | (with_reducible assumption) | assumption)
                    obtain ⟨ad286, e286, hx286_0, hx286_1, hx286_2, hx286_3, hx286_4, hx286_5, hx286_6⟩ := at_T27 HR0.out x6_1 p286 q286
                    have hw286_6 := hx286_6
                    have hw286_5 := hx286_5
                    have hw286_4 := hx286_4
                    have hw286_3 := hx286_3
                    have hw286_2 := hx286_2
                    have hw286_1 := hx286_1
                    have hw286_0 := hx286_0
                    cases e286
                    replace hx286_0 := (HB.out.cell (World.block_lt_of_cell? w _ hx286_0)).trans hx286_0
                    replace hx286_1 := (HB.out.cell (World.block_lt_of_cell? w _ hx286_1)).trans hx286_1
                    replace hx286_2 := (HB.out.cell (World.block_lt_of_cell? w _ hx286_2)).trans hx286_2
                    replace hx286_3 := (HB.out.cell (World.block_lt_of_cell? w _ hx286_3)).trans hx286_3
                    replace hx286_4 := (HB.out.cell (World.block_lt_of_cell? w _ hx286_4)).trans hx286_4
                    replace hx286_5 := (HB.out.cell (World.block_lt_of_cell? w _ hx286_5)).trans hx286_5
                    replace hx286_6 := (HB.out.cell (World.block_lt_of_cell? w _ hx286_6)).trans hx286_6
                    replace p286 := eq_true p286
                    replace q286 := eq_true q286
                    refine start_ (n := 24) (S := fun w' => w'.cell? (ad283.add ((x6_1).toNat * 5)) = some (.int .i64 ((rd_T141 l1 x6_1).f0.f0)) ∧ w'.cell? ⟨(ad283.add ((x6_1).toNat * 5)).block, (ad283.add ((x6_1).toNat * 5)).off + 1, none⟩ = some (.int .i64 ((rd_T141 l1 x6_1).f0.f1)) ∧ w'.cell? ⟨(ad283.add ((x6_1).toNat * 5)).block, (ad283.add ((x6_1).toNat * 5)).off + 2, none⟩ = some (.bool ((rd_T141 l1 x6_1).f1)) ∧ w'.cell? ⟨(ad283.add ((x6_1).toNat * 5)).block, (ad283.add ((x6_1).toNat * 5)).off + 3, none⟩ = some (.int .i64 ((rd_T141 l1 x6_1).f2.f0)) ∧ w'.cell? ⟨(ad283.add ((x6_1).toNat * 5)).block, (ad283.add ((x6_1).toNat * 5)).off + 4, none⟩ = some (.int .i64 ((rd_T141 l1 x6_1).f2.f1)) ∧ w'.cell? (ad286.add ((x6_1).toNat * 7)) = some (.int .i64 ((rd_T27 l0 x6_1).f0.f0)) ∧ w'.cell? ⟨(ad286.add ((x6_1).toNat * 7)).block, (ad286.add ((x6_1).toNat * 7)).off + 1, none⟩ = some (.int .i64 ((rd_T27 l0 x6_1).f0.f1)) ∧ w'.cell? ⟨(ad286.add ((x6_1).toNat * 7)).block, (ad286.add ((x6_1).toNat * 7)).off + 2, none⟩ = some (.int .i64 ((rd_T27 l0 x6_1).f1.f0)) ∧ w'.cell? ⟨(ad286.add ((x6_1).toNat * 7)).block, (ad286.add ((x6_1).toNat * 7)).off + 3, none⟩ = some (.int .i64 ((rd_T27 l0 x6_1).f1.f1)) ∧ w'.cell? ⟨(ad286.add ((x6_1).toNat * 7)).block, (ad286.add ((x6_1).toNat * 7)).off + 4, none⟩ = some (.int .i64 ((rd_T27 l0 x6_1).f2)) ∧ w'.cell? ⟨(ad286.add ((x6_1).toNat * 7)).block, (ad286.add ((x6_1).toNat * 7)).off + 5, none⟩ = some (.int .i64 ((rd_T27 l0 x6_1).f3)) ∧ w'.cell? ⟨(ad286.add ((x6_1).toNat * 7)).block, (ad286.add ((x6_1).toNat * 7)).off + 6, none⟩ = some (.bool ((rd_T27 l0 x6_1).f4))) (ds := []) #[false, false, false, false, false, false, false, false, false, false, false, false, false, false, false, false, false, false, false, false, false, false, false, false] (by kernel_rfl) rfl rfl ⟨((HB.out.cell (World.block_lt_of_cell? w _ hw285_0)).trans hw285_0), ((HB.out.cell (World.block_lt_of_cell? w _ hw285_1)).trans hw285_1), ((HB.out.cell (World.block_lt_of_cell? w _ hw285_2)).trans hw285_2), ((HB.out.cell (World.block_lt_of_cell? w _ hw285_3)).trans hw285_3), ((HB.out.cell (World.block_lt_of_cell? w _ hw285_4)).trans hw285_4), ((HB.out.cell (World.block_lt_of_cell? w _ hw286_0)).trans hw286_0), ((HB.out.cell (World.block_lt_of_cell? w _ hw286_1)).trans hw286_1), ((HB.out.cell (World.block_lt_of_cell? w _ hw286_2)).trans hw286_2), ((HB.out.cell (World.block_lt_of_cell? w _ hw286_3)).trans hw286_3), ((HB.out.cell (World.block_lt_of_cell? w _ hw286_4)).trans hw286_4), ((HB.out.cell (World.block_lt_of_cell? w _ hw286_5)).trans hw286_5), ((HB.out.cell (World.block_lt_of_cell? w _ hw286_6)).trans hw286_6)⟩ (fun hHeld => ?_); refine with_tabW metrolabref47_Safe.tab12 metrolabref47_Safe.bits12 (fun HT_ HW_ => ?_)
                    generalize w13.drew = w14 at HB hx285_0 hx285_1 hx285_2 hx285_3 hx285_4 hx286_0 hx286_1 hx286_2 hx286_3 hx286_4 hx286_5 hx286_6 hHeld ⊢
                    refine pure_ (i := 0) (N := some 33) (v := ?_) (a' := ?_) #[true, false, false, false, false, false, false, false, false, false, false, false, false, false, false, false, false, false, false, false, false, false, false, false] rfl rfl (any_of HT_.out (by kernel_rfl)) (fun _ _ _ h => h) (Or.inl ⟨by rfl, ?_⟩) ?_ ?_
                    rotate_left
                    · intro w'
                      go_simp
                      with_reducible rfl
                    rotate_left
                    · simp only [Act.put, List.setIfInBounds_toArray, List.set_cons_zero, List.set_cons_succ, i64_w, i32_w]
                      rfl
                    refine pure_ (i := 1) (N := some 34) (v := ?_) (a' := ?_) #[true, true, false, false, false, false, false, false, false, false, false, false, false, false, false, false, false, false, false, false, false, false, false, false] rfl rfl (any_of HT_.out (by kernel_rfl)) (fun _ _ _ h => h) (Or.inl ⟨by rfl, ?_⟩) ?_ ?_
                    rotate_left
                    · intro w'
                      go_simp
                      with_reducible rfl
                    rotate_left
                    · simp only [Act.put, List.setIfInBounds_toArray, List.set_cons_zero, List.set_cons_succ, i64_w, i32_w]
                      rfl
                    refine pure_ (i := 2) (N := some 35) (v := ?_) (a' := ?_) #[true, true, true, false, false, false, false, false, false, false, false, false, false, false, false, false, false, false, false, false, false, false, false, false] rfl rfl (any_of HT_.out (by kernel_rfl)) (fun _ _ _ h => h) (Or.inl ⟨by rfl, ?_⟩) ?_ ?_
                    rotate_left
                    · intro w'
                      go_simp
                      with_reducible rfl
                    rotate_left
                    · simp only [Act.put, List.setIfInBounds_toArray, List.set_cons_zero, List.set_cons_succ, i64_w, i32_w]
                      rfl
                    refine pure_ (i := 3) (N := some 36) (v := ?_) (a' := ?_) #[true, true, true, true, false, false, false, false, false, false, false, false, false, false, false, false, false, false, false, false, false, false, false, false] rfl rfl (any_of HT_.out (by kernel_rfl)) (fun _ _ _ h => h) (Or.inl ⟨by rfl, ?_⟩) ?_ ?_
                    rotate_left
                    · intro w'
                      go_simp
                      with_reducible rfl
                    rotate_left
                    · simp only [Act.put, List.setIfInBounds_toArray, List.set_cons_zero, List.set_cons_succ, i64_w, i32_w]
                      rfl
                    refine pure_ (i := 5) (N := some 38) (v := ?_) (a' := ?_) #[true, true, true, true, false, true, false, false, false, false, false, false, false, false, false, false, false, false, false, false, false, false, false, false] rfl rfl (any_of HT_.out (by kernel_rfl)) (fun _ _ _ h => h) (Or.inl ⟨by rfl, ?_⟩) ?_ ?_
                    rotate_left
                    · intro w'
                      go_simp
                      with_reducible rfl
                    rotate_left
                    · simp only [Act.put, List.setIfInBounds_toArray, List.set_cons_zero, List.set_cons_succ, i64_w, i32_w]
                      rfl
                    refine pure_ (i := 6) (N := some 39) (v := ?_) (a' := ?_) #[true, true, true, true, false, true, true, false, false, false, false, false, false, false, false, false, false, false, false, false, false, false, false, false] rfl rfl (any_of HT_.out (by kernel_rfl)) (fun _ _ _ h => h) (Or.inl ⟨by rfl, ?_⟩) ?_ ?_
                    rotate_left
                    · intro w'
                      go_simp
                      with_reducible rfl
                    rotate_left
                    · simp only [Act.put, List.setIfInBounds_toArray, List.set_cons_zero, List.set_cons_succ, i64_w, i32_w]
                      rfl
                    refine pure_ (i := 7) (N := some 40) (v := ?_) (a' := ?_) #[true, true, true, true, false, true, true, true, false, false, false, false, false, false, false, false, false, false, false, false, false, false, false, false] rfl rfl (any_of HT_.out (by kernel_rfl)) (fun _ _ _ h => h) (Or.inl ⟨by rfl, ?_⟩) ?_ ?_
                    rotate_left
                    · intro w'
                      go_simp
                      with_reducible rfl
                    rotate_left
                    · simp only [Act.put, List.setIfInBounds_toArray, List.set_cons_zero, List.set_cons_succ, i64_w, i32_w]
                      rfl
                    refine pure_ (i := 8) (N := some 41) (v := ?_) (a' := ?_) #[true, true, true, true, false, true, true, true, true, false, false, false, false, false, false, false, false, false, false, false, false, false, false, false] rfl rfl (any_of HT_.out (by kernel_rfl)) (fun _ _ _ h => h) (Or.inl ⟨by rfl, ?_⟩) ?_ ?_
                    rotate_left
                    · intro w'
                      go_simp
                      with_reducible rfl
                    rotate_left
                    · simp only [Act.put, List.setIfInBounds_toArray, List.set_cons_zero, List.set_cons_succ, i64_w, i32_w]
                      rfl
                    refine take_ (i := 4) (N := some 37) (v := ?_) (a' := ?_) #[true, true, true, true, true, true, true, true, true, false, false, false, false, false, false, false, false, false, false, false, false, false, false, false] rfl rfl (take_ofW HT_.out HW_.out (by kernel_rfl)) (fun _ _ _ h => h) (Or.inl ⟨by rfl, ?_⟩) hHeld ?_ ?_
                    rotate_left
                    · rintro w' ⟨s0, s1, s2, s3, s4, s5, s6, s7, s8, s9, s10, s11⟩
                      go_simp
                      with_reducible rfl
                    rotate_left
                    · simp only [Act.put, List.setIfInBounds_toArray, List.set_cons_zero, List.set_cons_succ, i64_w, i32_w]
                      rfl
                    refine take_ (i := 9) (N := some 42) (v := ?_) (a' := ?_) #[true, true, true, true, true, true, true, true, true, true, false, false, false, false, false, false, false, false, false, false, false, false, false, false] rfl rfl (take_ofW HT_.out HW_.out (by kernel_rfl)) (fun _ _ _ h => h) (Or.inl ⟨by rfl, ?_⟩) hHeld ?_ ?_
                    rotate_left
                    · rintro w' ⟨s0, s1, s2, s3, s4, s5, s6, s7, s8, s9, s10, s11⟩
                      go_simp
                      with_reducible rfl
                    rotate_left
                    · simp only [Act.put, List.setIfInBounds_toArray, List.set_cons_zero, List.set_cons_succ, i64_w, i32_w]
                      rfl
                    refine pure_ (i := 10) (N := some 43) (v := ?_) (a' := ?_) #[true, true, true, true, true, true, true, true, true, true, true, false, false, false, false, false, false, false, false, false, false, false, false, false] rfl rfl (any_of HT_.out (by kernel_rfl)) (fun _ _ _ h => h) (Or.inl ⟨by rfl, ?_⟩) ?_ ?_
                    rotate_left
                    · intro w'
                      go_simp
                      with_reducible rfl
                    rotate_left
                    · simp only [Act.put, List.setIfInBounds_toArray, List.set_cons_zero, List.set_cons_succ, i64_w, i32_w]
                      rfl
                    refine pure_ (i := 11) (N := some 44) (v := ?_) (a' := ?_) #[true, true, true, true, true, true, true, true, true, true, true, true, false, false, false, false, false, false, false, false, false, false, false, false] rfl rfl (any_of HT_.out (by kernel_rfl)) (fun _ _ _ h => h) (Or.inl ⟨by rfl, ?_⟩) ?_ ?_
                    rotate_left
                    · intro w'
                      go_simp
                      with_reducible rfl
                    rotate_left
                    · simp only [Act.put, List.setIfInBounds_toArray, List.set_cons_zero, List.set_cons_succ, i64_w, i32_w]
                      rfl
                    refine pure_ (i := 12) (N := some 45) (v := undef) (a' := ?_) #[true, true, true, true, true, true, true, true, true, true, true, true, true, false, false, false, false, false, false, false, false, false, false, false] rfl rfl (any_of HT_.out (by kernel_rfl)) (fun _ _ _ h => h) (Or.inr ⟨by rfl, rfl⟩) ?_ ?_
                    rotate_left
                    · simp only [Act.put, List.setIfInBounds_toArray, List.set_cons_zero, List.set_cons_succ, i64_w, i32_w]
                      rfl
                    refine pure_ (i := 13) (N := some 46) (v := undef) (a' := ?_) #[true, true, true, true, true, true, true, true, true, true, true, true, true, true, false, false, false, false, false, false, false, false, false, false] rfl rfl (any_of HT_.out (by kernel_rfl)) (fun _ _ _ h => h) (Or.inr ⟨by rfl, rfl⟩) ?_ ?_
                    rotate_left
                    · simp only [Act.put, List.setIfInBounds_toArray, List.set_cons_zero, List.set_cons_succ, i64_w, i32_w]
                      rfl
                    refine pure_ (i := 14) (N := some 47) (v := undef) (a' := ?_) #[true, true, true, true, true, true, true, true, true, true, true, true, true, true, true, false, false, false, false, false, false, false, false, false] rfl rfl (any_of HT_.out (by kernel_rfl)) (fun _ _ _ h => h) (Or.inr ⟨by rfl, rfl⟩) ?_ ?_
                    rotate_left
                    · simp only [Act.put, List.setIfInBounds_toArray, List.set_cons_zero, List.set_cons_succ, i64_w, i32_w]
                      rfl
                    refine pure_ (i := 15) (N := some 48) (v := undef) (a' := ?_) #[true, true, true, true, true, true, true, true, true, true, true, true, true, true, true, true, false, false, false, false, false, false, false, false] rfl rfl (any_of HT_.out (by kernel_rfl)) (fun _ _ _ h => h) (Or.inr ⟨by rfl, rfl⟩) ?_ ?_
                    rotate_left
                    · simp only [Act.put, List.setIfInBounds_toArray, List.set_cons_zero, List.set_cons_succ, i64_w, i32_w]
                      rfl
                    refine pure_ (i := 16) (N := some 49) (v := undef) (a' := ?_) #[true, true, true, true, true, true, true, true, true, true, true, true, true, true, true, true, true, false, false, false, false, false, false, false] rfl rfl (any_of HT_.out (by kernel_rfl)) (fun _ _ _ h => h) (Or.inr ⟨by rfl, rfl⟩) ?_ ?_
                    rotate_left
                    · simp only [Act.put, List.setIfInBounds_toArray, List.set_cons_zero, List.set_cons_succ, i64_w, i32_w]
                      rfl
                    refine pure_ (i := 17) (N := some 50) (v := undef) (a' := ?_) #[true, true, true, true, true, true, true, true, true, true, true, true, true, true, true, true, true, true, false, false, false, false, false, false] rfl rfl (any_of HT_.out (by kernel_rfl)) (fun _ _ _ h => h) (Or.inr ⟨by rfl, rfl⟩) ?_ ?_
                    rotate_left
                    · simp only [Act.put, List.setIfInBounds_toArray, List.set_cons_zero, List.set_cons_succ, i64_w, i32_w]
                      rfl
                    refine pure_ (i := 18) (N := some 51) (v := undef) (a' := ?_) #[true, true, true, true, true, true, true, true, true, true, true, true, true, true, true, true, true, true, true, false, false, false, false, false] rfl rfl (any_of HT_.out (by kernel_rfl)) (fun _ _ _ h => h) (Or.inr ⟨by rfl, rfl⟩) ?_ ?_
                    rotate_left
                    · simp only [Act.put, List.setIfInBounds_toArray, List.set_cons_zero, List.set_cons_succ, i64_w, i32_w]
                      rfl
                    refine pure_ (i := 19) (N := some 52) (v := undef) (a' := ?_) #[true, true, true, true, true, true, true, true, true, true, true, true, true, true, true, true, true, true, true, true, false, false, false, false] rfl rfl (any_of HT_.out (by kernel_rfl)) (fun _ _ _ h => h) (Or.inr ⟨by rfl, rfl⟩) ?_ ?_
                    rotate_left
                    · simp only [Act.put, List.setIfInBounds_toArray, List.set_cons_zero, List.set_cons_succ, i64_w, i32_w]
                      rfl
                    refine pure_ (i := 20) (N := some 53) (v := undef) (a' := ?_) #[true, true, true, true, true, true, true, true, true, true, true, true, true, true, true, true, true, true, true, true, true, false, false, false] rfl rfl (any_of HT_.out (by kernel_rfl)) (fun _ _ _ h => h) (Or.inr ⟨by rfl, rfl⟩) ?_ ?_
                    rotate_left
                    · simp only [Act.put, List.setIfInBounds_toArray, List.set_cons_zero, List.set_cons_succ, i64_w, i32_w]
                      rfl
                    refine pure_ (i := 21) (N := some 54) (v := undef) (a' := ?_) #[true, true, true, true, true, true, true, true, true, true, true, true, true, true, true, true, true, true, true, true, true, true, false, false] rfl rfl (any_of HT_.out (by kernel_rfl)) (fun _ _ _ h => h) (Or.inr ⟨by rfl, rfl⟩) ?_ ?_
                    rotate_left
                    · simp only [Act.put, List.setIfInBounds_toArray, List.set_cons_zero, List.set_cons_succ, i64_w, i32_w]
                      rfl
                    refine pure_ (i := 22) (N := some 55) (v := undef) (a' := ?_) #[true, true, true, true, true, true, true, true, true, true, true, true, true, true, true, true, true, true, true, true, true, true, true, false] rfl rfl (any_of HT_.out (by kernel_rfl)) (fun _ _ _ h => h) (Or.inr ⟨by rfl, rfl⟩) ?_ ?_
                    rotate_left
                    · simp only [Act.put, List.setIfInBounds_toArray, List.set_cons_zero, List.set_cons_succ, i64_w, i32_w]
                      rfl
                    refine pure_ (i := 23) (N := some 56) (v := ?_) (a' := ?_) #[true, true, true, true, true, true, true, true, true, true, true, true, true, true, true, true, true, true, true, true, true, true, true, true] rfl rfl (any_of HT_.out (by kernel_rfl)) (fun _ _ _ h => h) (Or.inl ⟨by rfl, ?_⟩) ?_ ?_
                    rotate_left
                    · intro w'
                      go_simp
                      with_reducible rfl
                    rotate_left
                    · simp only [Act.put, List.setIfInBounds_toArray, List.set_cons_zero, List.set_cons_succ, i64_w, i32_w]
                      rfl
                    refine done_ (done_of HT_.out (by kernel_rfl)) ?_
                    try go_wp2
                    go_ret
                    exact ⟨by first | rfl | (simp [errW_none, errW_some] <;> rfl) | (simp [*, errW_none, errW_some] <;> rfl), by repeat (first | (with_reducible first | exact HB.out | apply below_alloc | apply pw_below_drewN | apply below_drew1) | exact HB.out)⟩
                  · rw [if_neg c12] at H
                    have c12b0 : (!(((rd_T141 l1 x6_1).f0.f0) == ((rd_T27 l0 x6_1).f0.f0)) || (!(((rd_T141 l1 x6_1).f0.f1) == ((rd_T27 l0 x6_1).f0.f1)))) = false := by simpa using c12
                    clear c12
                    by_cases c15 : (((rd_T141 l1 x6_1).f1) != ((rd_T27 l0 x6_1).f4)) = true
                    · rw [if_pos c15] at H
                      have c15b0 : (((rd_T141 l1 x6_1).f1) != ((rd_T27 l0 x6_1).f4)) = true := c15
                      (try (have c15b1 : decide (((rd_T141 l1 x6_1).f1) = ((rd_T27 l0 x6_1).f4)) = false := by simpa using c15))
                      (try (have c15b2 : (((rd_T141 l1 x6_1).f1) == ((rd_T27 l0 x6_1).f4)) = false := by simpa using c15))
                      (try (have c15b3 : ¬ (((rd_T141 l1 x6_1).f1) = ((rd_T27 l0 x6_1).f4)) := by simpa using c15))
                      clear c15
                      obtain rfl := Option.some.inj H
                      have p283 : 0 ≤ (x6_1 : Int) := of_decide_eq_true (by first | (with_reducible assumption) | assumption)
                      have q283 : x6_1 < (l1.length : Int) := of_decide_eq_true (by first | (with_reducible assumption) | assumption)
                      obtain ⟨ad283, e283, hx283_0, hx283_1, hx283_2, hx283_3, hx283_4⟩ := at_T141 HR1.out x6_1 p283 q283
                      cases e283
                      replace hx283_0 := (HB.out.cell (World.block_lt_of_cell? w _ hx283_0)).trans hx283_0
                      replace hx283_1 := (HB.out.cell (World.block_lt_of_cell? w _ hx283_1)).trans hx283_1
                      replace hx283_2 := (HB.out.cell (World.block_lt_of_cell? w _ hx283_2)).trans hx283_2
                      replace hx283_3 := (HB.out.cell (World.block_lt_of_cell? w _ hx283_3)).trans hx283_3
                      replace hx283_4 := (HB.out.cell (World.block_lt_of_cell? w _ hx283_4)).trans hx283_4
                      replace p283 := eq_true p283
                      replace q283 := eq_true q283
                      try go_wp2_with (first | ((with_reducible refine gate_callee (f := 101) rfl ?_); refine goesL_ (some 29) rfl rfl Tryd.func101 (by kernel_rfl) rfl #[.agg #[.int .i64 ((rd_T141 l1 x6_1).f0.f0), .int .i64 ((rd_T141 l1 x6_1).f0.f1), .bool ((rd_T141 l1 x6_1).f1), .int .i64 ((rd_T141 l1 x6_1).f2.f0), .int .i64 ((rd_T141 l1 x6_1).f2.f1)]] rfl (by (try simp only [List.map_toArray, List.map_cons, List.map_nil]); first | done | rfl | (simp only [List.length_drop, List.length_take]; rfl)) ?_; (with_reducible refine (metrolabref47_limits.calls k1 ((rd_T141 l1 x6_1).f0.f0) ((rd_T141 l1 x6_1).f0.f1) ((rd_T141 l1 x6_1).f1) ((rd_T141 l1 x6_1).f2.f0) ((rd_T141 l1 x6_1).f2.f1) t284 _ A9.out).mono ?_); rintro e w16 ⟨rfl, hb⟩; refine ⟨_, rfl, ?_⟩; have n0_ := Aside0.mk (below_step (by repeat (first | (with_reducible first | exact HB.out | apply below_alloc | apply pw_below_drewN | apply below_drew1) | exact HB.out)) hb); clear HB; have HB := n0_; clear n0_; (try clear hb); (try clear hb2); (try clear hk); (try clear hi)))
                      have n0_ := Aside0.mk (below_drew1 HB.out)
                      clear HB
                      have HB := n0_
                      clear n0_
                      have p285 : 0 ≤ (x6_1 : Int) := of_decide_eq_true (by first | (with_reducible assumption) | assumption)
                      have q285 : x6_1 < (l1.length : Int) := of_decide_eq_true (by first | (with_reducible assumption) | assumption)
                      obtain ⟨ad285, e285, hx285_0, hx285_1, hx285_2, hx285_3, hx285_4⟩ := at_T141 HR1.out x6_1 p285 q285
                      have hw285_4 := hx285_4
                      have hw285_3 := hx285_3
                      have hw285_2 := hx285_2
                      have hw285_1 := hx285_1
                      have hw285_0 := hx285_0
                      obtain rfl : ad283 = ad285 := (by injection e285)
                      replace hx285_0 := (HB.out.cell (World.block_lt_of_cell? w _ hx285_0)).trans hx285_0
                      replace hx285_1 := (HB.out.cell (World.block_lt_of_cell? w _ hx285_1)).trans hx285_1
                      replace hx285_2 := (HB.out.cell (World.block_lt_of_cell? w _ hx285_2)).trans hx285_2
                      replace hx285_3 := (HB.out.cell (World.block_lt_of_cell? w _ hx285_3)).trans hx285_3
                      replace hx285_4 := (HB.out.cell (World.block_lt_of_cell? w _ hx285_4)).trans hx285_4
                      replace p285 := eq_true p285
                      replace q285 := eq_true q285
                      have p286 : 0 ≤ (x6_1 : Int) := of_decide_eq_true (by first | (with_reducible assumption) | assumption)
                      have q286 : x6_1 < (l0.length : Int) := of_decide_eq_true (by first | (with_reducible assumption) | assumption)
                      obtain ⟨ad286, e286, hx286_0, hx286_1, hx286_2, hx286_3, hx286_4, hx286_5, hx286_6⟩ := at_T27 HR0.out x6_1 p286 q286
                      have hw286_6 := hx286_6
                      have hw286_5 := hx286_5
                      have hw286_4 := hx286_4
                      have hw286_3 := hx286_3
                      have hw286_2 := hx286_2
                      have hw286_1 := hx286_1
                      have hw286_0 := hx286_0
                      cases e286
                      replace hx286_0 := (HB.out.cell (World.block_lt_of_cell? w _ hx286_0)).trans hx286_0
                      replace hx286_1 := (HB.out.cell (World.block_lt_of_cell? w _ hx286_1)).trans hx286_1
                      replace hx286_2 := (HB.out.cell (World.block_lt_of_cell? w _ hx286_2)).trans hx286_2
                      replace hx286_3 := (HB.out.cell (World.block_lt_of_cell? w _ hx286_3)).trans hx286_3
                      replace hx286_4 := (HB.out.cell (World.block_lt_of_cell? w _ hx286_4)).trans hx286_4
                      replace hx286_5 := (HB.out.cell (World.block_lt_of_cell? w _ hx286_5)).trans hx286_5
                      replace hx286_6 := (HB.out.cell (World.block_lt_of_cell? w _ hx286_6)).trans hx286_6
                      replace p286 := eq_true p286
                      replace q286 := eq_true q286
                      have p287 : 0 ≤ (x6_1 : Int) := of_decide_eq_true (by first | (with_reducible assumption) | assumption)
                      have q287 : x6_1 < (l1.length : Int) := of_decide_eq_true (by first | (with_reducible assumption) | assumption)
                      obtain ⟨ad287, e287, hx287_0, hx287_1, hx287_2, hx287_3, hx287_4⟩ := at_T141 HR1.out x6_1 p287 q287
                      have hw287_4 := hx287_4
                      have hw287_3 := hx287_3
                      have hw287_2 := hx287_2
                      have hw287_1 := hx287_1
                      have hw287_0 := hx287_0
                      obtain rfl : ad283 = ad287 := (by injection e287)
                      replace hx287_0 := (HB.out.cell (World.block_lt_of_cell? w _ hx287_0)).trans hx287_0
                      replace hx287_1 := (HB.out.cell (World.block_lt_of_cell? w _ hx287_1)).trans hx287_1
                      replace hx287_2 := (HB.out.cell (World.block_lt_of_cell? w _ hx287_2)).trans hx287_2
                      replace hx287_3 := (HB.out.cell (World.block_lt_of_cell? w _ hx287_3)).trans hx287_3
                      replace hx287_4 := (HB.out.cell (World.block_lt_of_cell? w _ hx287_4)).trans hx287_4
                      replace p287 := eq_true p287
                      replace q287 := eq_true q287
                      have p288 : 0 ≤ (x6_1 : Int) := of_decide_eq_true (by first | (with_reducible assumption) | assumption)
                      have q288 : x6_1 < (l0.length : Int) := of_decide_eq_true (by first | (with_reducible assumption) | assumption)
                      obtain ⟨ad288, e288, hx288_0, hx288_1, hx288_2, hx288_3, hx288_4, hx288_5, hx288_6⟩ := at_T27 HR0.out x6_1 p288 q288
                      have hw288_6 := hx288_6
                      have hw288_5 := hx288_5
                      have hw288_4 := hx288_4
                      have hw288_3 := hx288_3
                      have hw288_2 := hx288_2
                      have hw288_1 := hx288_1
                      have hw288_0 := hx288_0
                      obtain rfl : ad286 = ad288 := (by injection e288)
                      replace hx288_0 := (HB.out.cell (World.block_lt_of_cell? w _ hx288_0)).trans hx288_0
                      replace hx288_1 := (HB.out.cell (World.block_lt_of_cell? w _ hx288_1)).trans hx288_1
                      replace hx288_2 := (HB.out.cell (World.block_lt_of_cell? w _ hx288_2)).trans hx288_2
                      replace hx288_3 := (HB.out.cell (World.block_lt_of_cell? w _ hx288_3)).trans hx288_3
                      replace hx288_4 := (HB.out.cell (World.block_lt_of_cell? w _ hx288_4)).trans hx288_4
                      replace hx288_5 := (HB.out.cell (World.block_lt_of_cell? w _ hx288_5)).trans hx288_5
                      replace hx288_6 := (HB.out.cell (World.block_lt_of_cell? w _ hx288_6)).trans hx288_6
                      replace p288 := eq_true p288
                      replace q288 := eq_true q288
                      refine start_ (n := 24) (S := fun w' => w'.cell? (ad283.add ((x6_1).toNat * 5)) = some (.int .i64 ((rd_T141 l1 x6_1).f0.f0)) ∧ w'.cell? ⟨(ad283.add ((x6_1).toNat * 5)).block, (ad283.add ((x6_1).toNat * 5)).off + 1, none⟩ = some (.int .i64 ((rd_T141 l1 x6_1).f0.f1)) ∧ w'.cell? ⟨(ad283.add ((x6_1).toNat * 5)).block, (ad283.add ((x6_1).toNat * 5)).off + 2, none⟩ = some (.bool ((rd_T141 l1 x6_1).f1)) ∧ w'.cell? ⟨(ad283.add ((x6_1).toNat * 5)).block, (ad283.add ((x6_1).toNat * 5)).off + 3, none⟩ = some (.int .i64 ((rd_T141 l1 x6_1).f2.f0)) ∧ w'.cell? ⟨(ad283.add ((x6_1).toNat * 5)).block, (ad283.add ((x6_1).toNat * 5)).off + 4, none⟩ = some (.int .i64 ((rd_T141 l1 x6_1).f2.f1)) ∧ w'.cell? (ad286.add ((x6_1).toNat * 7)) = some (.int .i64 ((rd_T27 l0 x6_1).f0.f0)) ∧ w'.cell? ⟨(ad286.add ((x6_1).toNat * 7)).block, (ad286.add ((x6_1).toNat * 7)).off + 1, none⟩ = some (.int .i64 ((rd_T27 l0 x6_1).f0.f1)) ∧ w'.cell? ⟨(ad286.add ((x6_1).toNat * 7)).block, (ad286.add ((x6_1).toNat * 7)).off + 2, none⟩ = some (.int .i64 ((rd_T27 l0 x6_1).f1.f0)) ∧ w'.cell? ⟨(ad286.add ((x6_1).toNat * 7)).block, (ad286.add ((x6_1).toNat * 7)).off + 3, none⟩ = some (.int .i64 ((rd_T27 l0 x6_1).f1.f1)) ∧ w'.cell? ⟨(ad286.add ((x6_1).toNat * 7)).block, (ad286.add ((x6_1).toNat * 7)).off + 4, none⟩ = some (.int .i64 ((rd_T27 l0 x6_1).f2)) ∧ w'.cell? ⟨(ad286.add ((x6_1).toNat * 7)).block, (ad286.add ((x6_1).toNat * 7)).off + 5, none⟩ = some (.int .i64 ((rd_T27 l0 x6_1).f3)) ∧ w'.cell? ⟨(ad286.add ((x6_1).toNat * 7)).block, (ad286.add ((x6_1).toNat * 7)).off + 6, none⟩ = some (.bool ((rd_T27 l0 x6_1).f4)) ∧ w'.cell? (ad283.add ((x6_1).toNat * 5)) = some (.int .i64 ((rd_T141 l1 x6_1).f0.f0)) ∧ w'.cell? ⟨(ad283.add ((x6_1).toNat * 5)).block, (ad283.add ((x6_1).toNat * 5)).off + 1, none⟩ = some (.int .i64 ((rd_T141 l1 x6_1).f0.f1)) ∧ w'.cell? ⟨(ad283.add ((x6_1).toNat * 5)).block, (ad283.add ((x6_1).toNat * 5)).off + 2, none⟩ = some (.bool ((rd_T141 l1 x6_1).f1)) ∧ w'.cell? ⟨(ad283.add ((x6_1).toNat * 5)).block, (ad283.add ((x6_1).toNat * 5)).off + 3, none⟩ = some (.int .i64 ((rd_T141 l1 x6_1).f2.f0)) ∧ w'.cell? ⟨(ad283.add ((x6_1).toNat * 5)).block, (ad283.add ((x6_1).toNat * 5)).off + 4, none⟩ = some (.int .i64 ((rd_T141 l1 x6_1).f2.f1)) ∧ w'.cell? (ad286.add ((x6_1).toNat * 7)) = some (.int .i64 ((rd_T27 l0 x6_1).f0.f0)) ∧ w'.cell? ⟨(ad286.add ((x6_1).toNat * 7)).block, (ad286.add ((x6_1).toNat * 7)).off + 1, none⟩ = some (.int .i64 ((rd_T27 l0 x6_1).f0.f1)) ∧ w'.cell? ⟨(ad286.add ((x6_1).toNat * 7)).block, (ad286.add ((x6_1).toNat * 7)).off + 2, none⟩ = some (.int .i64 ((rd_T27 l0 x6_1).f1.f0)) ∧ w'.cell? ⟨(ad286.add ((x6_1).toNat * 7)).block, (ad286.add ((x6_1).toNat * 7)).off + 3, none⟩ = some (.int .i64 ((rd_T27 l0 x6_1).f1.f1)) ∧ w'.cell? ⟨(ad286.add ((x6_1).toNat * 7)).block, (ad286.add ((x6_1).toNat * 7)).off + 4, none⟩ = some (.int .i64 ((rd_T27 l0 x6_1).f2)) ∧ w'.cell? ⟨(ad286.add ((x6_1).toNat * 7)).block, (ad286.add ((x6_1).toNat * 7)).off + 5, none⟩ = some (.int .i64 ((rd_T27 l0 x6_1).f3)) ∧ w'.cell? ⟨(ad286.add ((x6_1).toNat * 7)).block, (ad286.add ((x6_1).toNat * 7)).off + 6, none⟩ = some (.bool ((rd_T27 l0 x6_1).f4))) (ds := []) #[false, false, false, false, false, false, false, false, false, false, false, false, false, false, false, false, false, false, false, false, false, false, false, false] (by kernel_rfl) rfl rfl ⟨((HB.out.cell (World.block_lt_of_cell? w _ hw285_0)).trans hw285_0), ((HB.out.cell (World.block_lt_of_cell? w _ hw285_1)).trans hw285_1), ((HB.out.cell (World.block_lt_of_cell? w _ hw285_2)).trans hw285_2), ((HB.out.cell (World.block_lt_of_cell? w _ hw285_3)).trans hw285_3), ((HB.out.cell (World.block_lt_of_cell? w _ hw285_4)).trans hw285_4), ((HB.out.cell (World.block_lt_of_cell? w _ hw286_0)).trans hw286_0), ((HB.out.cell (World.block_lt_of_cell? w _ hw286_1)).trans hw286_1), ((HB.out.cell (World.block_lt_of_cell? w _ hw286_2)).trans hw286_2), ((HB.out.cell (World.block_lt_of_cell? w _ hw286_3)).trans hw286_3), ((HB.out.cell (World.block_lt_of_cell? w _ hw286_4)).trans hw286_4), ((HB.out.cell (World.block_lt_of_cell? w _ hw286_5)).trans hw286_5), ((HB.out.cell (World.block_lt_of_cell? w _ hw286_6)).trans hw286_6), ((HB.out.cell (World.block_lt_of_cell? w _ hw287_0)).trans hw287_0), ((HB.out.cell (World.block_lt_of_cell? w _ hw287_1)).trans hw287_1), ((HB.out.cell (World.block_lt_of_cell? w _ hw287_2)).trans hw287_2), ((HB.out.cell (World.block_lt_of_cell? w _ hw287_3)).trans hw287_3), ((HB.out.cell (World.block_lt_of_cell? w _ hw287_4)).trans hw287_4), ((HB.out.cell (World.block_lt_of_cell? w _ hw288_0)).trans hw288_0), ((HB.out.cell (World.block_lt_of_cell? w _ hw288_1)).trans hw288_1), ((HB.out.cell (World.block_lt_of_cell? w _ hw288_2)).trans hw288_2), ((HB.out.cell (World.block_lt_of_cell? w _ hw288_3)).trans hw288_3), ((HB.out.cell (World.block_lt_of_cell? w _ hw288_4)).trans hw288_4), ((HB.out.cell (World.block_lt_of_cell? w _ hw288_5)).trans hw288_5), ((HB.out.cell (World.block_lt_of_cell? w _ hw288_6)).trans hw288_6)⟩ (fun hHeld => ?_); refine with_tabW metrolabref47_Safe.tab12 metrolabref47_Safe.bits12 (fun HT_ HW_ => ?_)
                      generalize w16.drew = w17 at HB hx285_0 hx285_1 hx285_2 hx285_3 hx285_4 hx286_0 hx286_1 hx286_2 hx286_3 hx286_4 hx286_5 hx286_6 hx287_0 hx287_1 hx287_2 hx287_3 hx287_4 hx288_0 hx288_1 hx288_2 hx288_3 hx288_4 hx288_5 hx288_6 hHeld ⊢
                      refine pure_ (i := 0) (N := some 33) (v := ?_) (a' := ?_) #[true, false, false, false, false, false, false, false, false, false, false, false, false, false, false, false, false, false, false, false, false, false, false, false] rfl rfl (any_of HT_.out (by kernel_rfl)) (fun _ _ _ h => h) (Or.inl ⟨by rfl, ?_⟩) ?_ ?_
                      rotate_left
                      · intro w'
                        go_simp
                        with_reducible rfl
                      rotate_left
                      · simp only [Act.put, List.setIfInBounds_toArray, List.set_cons_zero, List.set_cons_succ, i64_w, i32_w]
                        rfl
                      refine pure_ (i := 1) (N := some 34) (v := ?_) (a' := ?_) #[true, true, false, false, false, false, false, false, false, false, false, false, false, false, false, false, false, false, false, false, false, false, false, false] rfl rfl (any_of HT_.out (by kernel_rfl)) (fun _ _ _ h => h) (Or.inl ⟨by rfl, ?_⟩) ?_ ?_
                      rotate_left
                      · intro w'
                        go_simp
                        with_reducible rfl
                      rotate_left
                      · simp only [Act.put, List.setIfInBounds_toArray, List.set_cons_zero, List.set_cons_succ, i64_w, i32_w]
                        rfl
                      refine pure_ (i := 2) (N := some 35) (v := ?_) (a' := ?_) #[true, true, true, false, false, false, false, false, false, false, false, false, false, false, false, false, false, false, false, false, false, false, false, false] rfl rfl (any_of HT_.out (by kernel_rfl)) (fun _ _ _ h => h) (Or.inl ⟨by rfl, ?_⟩) ?_ ?_
                      rotate_left
                      · intro w'
                        go_simp
                        with_reducible rfl
                      rotate_left
                      · simp only [Act.put, List.setIfInBounds_toArray, List.set_cons_zero, List.set_cons_succ, i64_w, i32_w]
                        rfl
                      refine pure_ (i := 3) (N := some 36) (v := ?_) (a' := ?_) #[true, true, true, true, false, false, false, false, false, false, false, false, false, false, false, false, false, false, false, false, false, false, false, false] rfl rfl (any_of HT_.out (by kernel_rfl)) (fun _ _ _ h => h) (Or.inl ⟨by rfl, ?_⟩) ?_ ?_
                      rotate_left
                      · intro w'
                        go_simp
                        with_reducible rfl
                      rotate_left
                      · simp only [Act.put, List.setIfInBounds_toArray, List.set_cons_zero, List.set_cons_succ, i64_w, i32_w]
                        rfl
                      refine pure_ (i := 5) (N := some 38) (v := ?_) (a' := ?_) #[true, true, true, true, false, true, false, false, false, false, false, false, false, false, false, false, false, false, false, false, false, false, false, false] rfl rfl (any_of HT_.out (by kernel_rfl)) (fun _ _ _ h => h) (Or.inl ⟨by rfl, ?_⟩) ?_ ?_
                      rotate_left
                      · intro w'
                        go_simp
                        with_reducible rfl
                      rotate_left
                      · simp only [Act.put, List.setIfInBounds_toArray, List.set_cons_zero, List.set_cons_succ, i64_w, i32_w]
                        rfl
                      refine pure_ (i := 6) (N := some 39) (v := ?_) (a' := ?_) #[true, true, true, true, false, true, true, false, false, false, false, false, false, false, false, false, false, false, false, false, false, false, false, false] rfl rfl (any_of HT_.out (by kernel_rfl)) (fun _ _ _ h => h) (Or.inl ⟨by rfl, ?_⟩) ?_ ?_
                      rotate_left
                      · intro w'
                        go_simp
                        with_reducible rfl
                      rotate_left
                      · simp only [Act.put, List.setIfInBounds_toArray, List.set_cons_zero, List.set_cons_succ, i64_w, i32_w]
                        rfl
                      refine pure_ (i := 7) (N := some 40) (v := ?_) (a' := ?_) #[true, true, true, true, false, true, true, true, false, false, false, false, false, false, false, false, false, false, false, false, false, false, false, false] rfl rfl (any_of HT_.out (by kernel_rfl)) (fun _ _ _ h => h) (Or.inl ⟨by rfl, ?_⟩) ?_ ?_
                      rotate_left
                      · intro w'
                        go_simp
                        with_reducible rfl
                      rotate_left
                      · simp only [Act.put, List.setIfInBounds_toArray, List.set_cons_zero, List.set_cons_succ, i64_w, i32_w]
                        rfl
                      refine pure_ (i := 8) (N := some 41) (v := ?_) (a' := ?_) #[true, true, true, true, false, true, true, true, true, false, false, false, false, false, false, false, false, false, false, false, false, false, false, false] rfl rfl (any_of HT_.out (by kernel_rfl)) (fun _ _ _ h => h) (Or.inl ⟨by rfl, ?_⟩) ?_ ?_
                      rotate_left
                      · intro w'
                        go_simp
                        with_reducible rfl
                      rotate_left
                      · simp only [Act.put, List.setIfInBounds_toArray, List.set_cons_zero, List.set_cons_succ, i64_w, i32_w]
                        rfl
                      refine take_ (i := 4) (N := some 37) (v := ?_) (a' := ?_) #[true, true, true, true, true, true, true, true, true, false, false, false, false, false, false, false, false, false, false, false, false, false, false, false] rfl rfl (take_ofW HT_.out HW_.out (by kernel_rfl)) (fun _ _ _ h => h) (Or.inl ⟨by rfl, ?_⟩) hHeld ?_ ?_
                      rotate_left
                      · rintro w' ⟨s0, s1, s2, s3, s4, s5, s6, s7, s8, s9, s10, s11, s12, s13, s14, s15, s16, s17, s18, s19, s20, s21, s22, s23⟩
                        go_simp
                        with_reducible rfl
                      rotate_left
                      · simp only [Act.put, List.setIfInBounds_toArray, List.set_cons_zero, List.set_cons_succ, i64_w, i32_w]
                        rfl
                      refine take_ (i := 9) (N := some 42) (v := ?_) (a' := ?_) #[true, true, true, true, true, true, true, true, true, true, false, false, false, false, false, false, false, false, false, false, false, false, false, false] rfl rfl (take_ofW HT_.out HW_.out (by kernel_rfl)) (fun _ _ _ h => h) (Or.inl ⟨by rfl, ?_⟩) hHeld ?_ ?_
                      rotate_left
                      · rintro w' ⟨s0, s1, s2, s3, s4, s5, s6, s7, s8, s9, s10, s11, s12, s13, s14, s15, s16, s17, s18, s19, s20, s21, s22, s23⟩
                        go_simp
                        with_reducible rfl
                      rotate_left
                      · simp only [Act.put, List.setIfInBounds_toArray, List.set_cons_zero, List.set_cons_succ, i64_w, i32_w]
                        rfl
                      refine pure_ (i := 10) (N := some 43) (v := ?_) (a' := ?_) #[true, true, true, true, true, true, true, true, true, true, true, false, false, false, false, false, false, false, false, false, false, false, false, false] rfl rfl (any_of HT_.out (by kernel_rfl)) (fun _ _ _ h => h) (Or.inl ⟨by rfl, ?_⟩) ?_ ?_
                      rotate_left
                      · intro w'
                        go_simp
                        with_reducible rfl
                      rotate_left
                      · simp only [Act.put, List.setIfInBounds_toArray, List.set_cons_zero, List.set_cons_succ, i64_w, i32_w]
                        rfl
                      refine pure_ (i := 11) (N := some 44) (v := ?_) (a' := ?_) #[true, true, true, true, true, true, true, true, true, true, true, true, false, false, false, false, false, false, false, false, false, false, false, false] rfl rfl (any_of HT_.out (by kernel_rfl)) (fun _ _ _ h => h) (Or.inl ⟨by rfl, ?_⟩) ?_ ?_
                      rotate_left
                      · intro w'
                        go_simp
                        with_reducible rfl
                      rotate_left
                      · simp only [Act.put, List.setIfInBounds_toArray, List.set_cons_zero, List.set_cons_succ, i64_w, i32_w]
                        rfl
                      refine pure_ (i := 12) (N := some 45) (v := ?_) (a' := ?_) #[true, true, true, true, true, true, true, true, true, true, true, true, true, false, false, false, false, false, false, false, false, false, false, false] rfl rfl (any_of HT_.out (by kernel_rfl)) (fun _ _ _ h => h) (Or.inl ⟨by rfl, ?_⟩) ?_ ?_
                      rotate_left
                      · intro w'
                        go_simp
                        with_reducible rfl
                      rotate_left
                      · simp only [Act.put, List.setIfInBounds_toArray, List.set_cons_zero, List.set_cons_succ, i64_w, i32_w]
                        rfl
                      refine pure_ (i := 13) (N := some 46) (v := ?_) (a' := ?_) #[true, true, true, true, true, true, true, true, true, true, true, true, true, true, false, false, false, false, false, false, false, false, false, false] rfl rfl (any_of HT_.out (by kernel_rfl)) (fun _ _ _ h => h) (Or.inl ⟨by rfl, ?_⟩) ?_ ?_
                      rotate_left
                      · intro w'
                        go_simp
                        with_reducible rfl
                      rotate_left
                      · simp only [Act.put, List.setIfInBounds_toArray, List.set_cons_zero, List.set_cons_succ, i64_w, i32_w]
                        rfl
                      refine pure_ (i := 14) (N := some 47) (v := ?_) (a' := ?_) #[true, true, true, true, true, true, true, true, true, true, true, true, true, true, true, false, false, false, false, false, false, false, false, false] rfl rfl (any_of HT_.out (by kernel_rfl)) (fun _ _ _ h => h) (Or.inl ⟨by rfl, ?_⟩) ?_ ?_
                      rotate_left
                      · intro w'
                        go_simp
                        with_reducible rfl
                      rotate_left
                      · simp only [Act.put, List.setIfInBounds_toArray, List.set_cons_zero, List.set_cons_succ, i64_w, i32_w]
                        rfl
                      refine pure_ (i := 15) (N := some 48) (v := ?_) (a' := ?_) #[true, true, true, true, true, true, true, true, true, true, true, true, true, true, true, true, false, false, false, false, false, false, false, false] rfl rfl (any_of HT_.out (by kernel_rfl)) (fun _ _ _ h => h) (Or.inl ⟨by rfl, ?_⟩) ?_ ?_
                      rotate_left
                      · intro w'
                        go_simp
                        with_reducible rfl
                      rotate_left
                      · simp only [Act.put, List.setIfInBounds_toArray, List.set_cons_zero, List.set_cons_succ, i64_w, i32_w]
                        rfl
                      refine pure_ (i := 17) (N := some 50) (v := ?_) (a' := ?_) #[true, true, true, true, true, true, true, true, true, true, true, true, true, true, true, true, false, true, false, false, false, false, false, false] rfl rfl (any_of HT_.out (by kernel_rfl)) (fun _ _ _ h => h) (Or.inl ⟨by rfl, ?_⟩) ?_ ?_
                      rotate_left
                      · intro w'
                        go_simp
                        with_reducible rfl
                      rotate_left
                      · simp only [Act.put, List.setIfInBounds_toArray, List.set_cons_zero, List.set_cons_succ, i64_w, i32_w]
                        rfl
                      refine pure_ (i := 18) (N := some 51) (v := ?_) (a' := ?_) #[true, true, true, true, true, true, true, true, true, true, true, true, true, true, true, true, false, true, true, false, false, false, false, false] rfl rfl (any_of HT_.out (by kernel_rfl)) (fun _ _ _ h => h) (Or.inl ⟨by rfl, ?_⟩) ?_ ?_
                      rotate_left
                      · intro w'
                        go_simp
                        with_reducible rfl
                      rotate_left
                      · simp only [Act.put, List.setIfInBounds_toArray, List.set_cons_zero, List.set_cons_succ, i64_w, i32_w]
                        rfl
                      refine pure_ (i := 19) (N := some 52) (v := ?_) (a' := ?_) #[true, true, true, true, true, true, true, true, true, true, true, true, true, true, true, true, false, true, true, true, false, false, false, false] rfl rfl (any_of HT_.out (by kernel_rfl)) (fun _ _ _ h => h) (Or.inl ⟨by rfl, ?_⟩) ?_ ?_
                      rotate_left
                      · intro w'
                        go_simp
                        with_reducible rfl
                      rotate_left
                      · simp only [Act.put, List.setIfInBounds_toArray, List.set_cons_zero, List.set_cons_succ, i64_w, i32_w]
                        rfl
                      refine pure_ (i := 20) (N := some 53) (v := ?_) (a' := ?_) #[true, true, true, true, true, true, true, true, true, true, true, true, true, true, true, true, false, true, true, true, true, false, false, false] rfl rfl (any_of HT_.out (by kernel_rfl)) (fun _ _ _ h => h) (Or.inl ⟨by rfl, ?_⟩) ?_ ?_
                      rotate_left
                      · intro w'
                        go_simp
                        with_reducible rfl
                      rotate_left
                      · simp only [Act.put, List.setIfInBounds_toArray, List.set_cons_zero, List.set_cons_succ, i64_w, i32_w]
                        rfl
                      refine take_ (i := 16) (N := some 49) (v := ?_) (a' := ?_) #[true, true, true, true, true, true, true, true, true, true, true, true, true, true, true, true, true, true, true, true, true, false, false, false] rfl rfl (take_ofW HT_.out HW_.out (by kernel_rfl)) (fun _ _ _ h => h) (Or.inl ⟨by rfl, ?_⟩) hHeld ?_ ?_
                      rotate_left
                      · rintro w' ⟨s0, s1, s2, s3, s4, s5, s6, s7, s8, s9, s10, s11, s12, s13, s14, s15, s16, s17, s18, s19, s20, s21, s22, s23⟩
                        go_simp
                        with_reducible rfl
                      rotate_left
                      · simp only [Act.put, List.setIfInBounds_toArray, List.set_cons_zero, List.set_cons_succ, i64_w, i32_w]
                        rfl
                      refine take_ (i := 21) (N := some 54) (v := ?_) (a' := ?_) #[true, true, true, true, true, true, true, true, true, true, true, true, true, true, true, true, true, true, true, true, true, true, false, false] rfl rfl (take_ofW HT_.out HW_.out (by kernel_rfl)) (fun _ _ _ h => h) (Or.inl ⟨by rfl, ?_⟩) hHeld ?_ ?_
                      rotate_left
                      · rintro w' ⟨s0, s1, s2, s3, s4, s5, s6, s7, s8, s9, s10, s11, s12, s13, s14, s15, s16, s17, s18, s19, s20, s21, s22, s23⟩
                        go_simp
                        with_reducible rfl
                      rotate_left
                      · simp only [Act.put, List.setIfInBounds_toArray, List.set_cons_zero, List.set_cons_succ, i64_w, i32_w]
                        rfl
                      refine pure_ (i := 22) (N := some 55) (v := ?_) (a' := ?_) #[true, true, true, true, true, true, true, true, true, true, true, true, true, true, true, true, true, true, true, true, true, true, true, false] rfl rfl (any_of HT_.out (by kernel_rfl)) (fun _ _ _ h => h) (Or.inl ⟨by rfl, ?_⟩) ?_ ?_
                      rotate_left
                      · intro w'
                        go_simp
                        with_reducible rfl
                      rotate_left
                      · simp only [Act.put, List.setIfInBounds_toArray, List.set_cons_zero, List.set_cons_succ, i64_w, i32_w]
                        rfl
                      refine pure_ (i := 23) (N := some 56) (v := ?_) (a' := ?_) #[true, true, true, true, true, true, true, true, true, true, true, true, true, true, true, true, true, true, true, true, true, true, true, true] rfl rfl (any_of HT_.out (by kernel_rfl)) (fun _ _ _ h => h) (Or.inl ⟨by rfl, ?_⟩) ?_ ?_
                      rotate_left
                      · intro w'
                        go_simp
                        with_reducible rfl
                      rotate_left
                      · simp only [Act.put, List.setIfInBounds_toArray, List.set_cons_zero, List.set_cons_succ, i64_w, i32_w]
                        rfl
                      refine done_ (done_of HT_.out (by kernel_rfl)) ?_
                      try go_wp2
                      go_ret
                      exact ⟨by first | rfl | (simp [errW_none, errW_some] <;> rfl) | (simp [*, errW_none, errW_some] <;> rfl), by repeat (first | (with_reducible first | exact HB.out | apply below_alloc | apply pw_below_drewN | apply below_drew1) | exact HB.out)⟩
                    · rw [if_neg c15] at H
                      have c15b0 : (((rd_T141 l1 x6_1).f1) != ((rd_T27 l0 x6_1).f4)) = false := by simpa using c15
                      (try (have c15b1 : decide (((rd_T141 l1 x6_1).f1) = ((rd_T27 l0 x6_1).f4)) = true := by simpa using c15))
                      (try (have c15b2 : (((rd_T141 l1 x6_1).f1) == ((rd_T27 l0 x6_1).f4)) = true := by simpa using c15))
                      clear c15
                      have H' := Aside0.mk H
                      clear H
                      have p283 : 0 ≤ (x6_1 : Int) := of_decide_eq_true (by first | (with_reducible assumption) | assumption)
                      have q283 : x6_1 < (l1.length : Int) := of_decide_eq_true (by first | (with_reducible assumption) | assumption)
                      obtain ⟨ad283, e283, hx283_0, hx283_1, hx283_2, hx283_3, hx283_4⟩ := at_T141 HR1.out x6_1 p283 q283
                      cases e283
                      replace hx283_0 := (HB.out.cell (World.block_lt_of_cell? w _ hx283_0)).trans hx283_0
                      replace hx283_1 := (HB.out.cell (World.block_lt_of_cell? w _ hx283_1)).trans hx283_1
                      replace hx283_2 := (HB.out.cell (World.block_lt_of_cell? w _ hx283_2)).trans hx283_2
                      replace hx283_3 := (HB.out.cell (World.block_lt_of_cell? w _ hx283_3)).trans hx283_3
                      replace hx283_4 := (HB.out.cell (World.block_lt_of_cell? w _ hx283_4)).trans hx283_4
                      replace p283 := eq_true p283
                      replace q283 := eq_true q283
                      try go_wp2_with (first | ((with_reducible refine gate_callee (f := 101) rfl ?_); refine goesL_ (some 29) rfl rfl Tryd.func101 (by kernel_rfl) rfl #[.agg #[.int .i64 ((rd_T141 l1 x6_1).f0.f0), .int .i64 ((rd_T141 l1 x6_1).f0.f1), .bool ((rd_T141 l1 x6_1).f1), .int .i64 ((rd_T141 l1 x6_1).f2.f0), .int .i64 ((rd_T141 l1 x6_1).f2.f1)]] rfl (by (try simp only [List.map_toArray, List.map_cons, List.map_nil]); first | done | rfl | (simp only [List.length_drop, List.length_take]; rfl)) ?_; (with_reducible refine (metrolabref47_limits.calls k1 ((rd_T141 l1 x6_1).f0.f0) ((rd_T141 l1 x6_1).f0.f1) ((rd_T141 l1 x6_1).f1) ((rd_T141 l1 x6_1).f2.f0) ((rd_T141 l1 x6_1).f2.f1) t284 _ A9.out).mono ?_); rintro e w18 ⟨rfl, hb⟩; refine ⟨_, rfl, ?_⟩; have n0_ := Aside0.mk (below_step (by repeat (first | (with_reducible first | exact HB.out | apply below_alloc | apply pw_below_drewN | apply below_drew1) | exact HB.out)) hb); clear HB; have HB := n0_; clear n0_; (try clear hb); (try clear hb2); (try clear hk); (try clear hi)))
                      have n0_ := Aside0.mk (below_drew1 HB.out)
                      clear HB
                      have HB := n0_
                      clear n0_
                      have p285 : 0 ≤ (x6_1 : Int) := of_decide_eq_true (by first | (with_reducible assumption) | assumption)
                      have q285 : x6_1 < (l1.length : Int) := of_decide_eq_true (by first | (with_reducible assumption) | assumption)
                      obtain ⟨ad285, e285, hx285_0, hx285_1, hx285_2, hx285_3, hx285_4⟩ := at_T141 HR1.out x6_1 p285 q285
                      have hw285_4 := hx285_4
                      have hw285_3 := hx285_3
                      have hw285_2 := hx285_2
                      have hw285_1 := hx285_1
                      have hw285_0 := hx285_0
                      obtain rfl : ad283 = ad285 := (by injection e285)
                      replace hx285_0 := (HB.out.cell (World.block_lt_of_cell? w _ hx285_0)).trans hx285_0
                      replace hx285_1 := (HB.out.cell (World.block_lt_of_cell? w _ hx285_1)).trans hx285_1
                      replace hx285_2 := (HB.out.cell (World.block_lt_of_cell? w _ hx285_2)).trans hx285_2
                      replace hx285_3 := (HB.out.cell (World.block_lt_of_cell? w _ hx285_3)).trans hx285_3
                      replace hx285_4 := (HB.out.cell (World.block_lt_of_cell? w _ hx285_4)).trans hx285_4
                      replace p285 := eq_true p285
                      replace q285 := eq_true q285
                      have p286 : 0 ≤ (x6_1 : Int) := of_decide_eq_true (by first | (with_reducible assumption) | assumption)
                      have q286 : x6_1 < (l0.length : Int) := of_decide_eq_true (by first | (with_reducible assumption) | assumption)
                      obtain ⟨ad286, e286, hx286_0, hx286_1, hx286_2, hx286_3, hx286_4, hx286_5, hx286_6⟩ := at_T27 HR0.out x6_1 p286 q286
                      have hw286_6 := hx286_6
                      have hw286_5 := hx286_5
                      have hw286_4 := hx286_4
                      have hw286_3 := hx286_3
                      have hw286_2 := hx286_2
                      have hw286_1 := hx286_1
                      have hw286_0 := hx286_0
                      cases e286
                      replace hx286_0 := (HB.out.cell (World.block_lt_of_cell? w _ hx286_0)).trans hx286_0
                      replace hx286_1 := (HB.out.cell (World.block_lt_of_cell? w _ hx286_1)).trans hx286_1
                      replace hx286_2 := (HB.out.cell (World.block_lt_of_cell? w _ hx286_2)).trans hx286_2
                      replace hx286_3 := (HB.out.cell (World.block_lt_of_cell? w _ hx286_3)).trans hx286_3
                      replace hx286_4 := (HB.out.cell (World.block_lt_of_cell? w _ hx286_4)).trans hx286_4
                      replace hx286_5 := (HB.out.cell (World.block_lt_of_cell? w _ hx286_5)).trans hx286_5
                      replace hx286_6 := (HB.out.cell (World.block_lt_of_cell? w _ hx286_6)).trans hx286_6
                      replace p286 := eq_true p286
                      replace q286 := eq_true q286
                      have p287 : 0 ≤ (x6_1 : Int) := of_decide_eq_true (by first | (with_reducible assumption) | assumption)
                      have q287 : x6_1 < (l1.length : Int) := of_decide_eq_true (by first | (with_reducible assumption) | assumption)
                      obtain ⟨ad287, e287, hx287_0, hx287_1, hx287_2, hx287_3, hx287_4⟩ := at_T141 HR1.out x6_1 p287 q287
                      have hw287_4 := hx287_4
                      have hw287_3 := hx287_3
                      have hw287_2 := hx287_2
                      have hw287_1 := hx287_1
                      have hw287_0 := hx287_0
                      obtain rfl : ad283 = ad287 := (by injection e287)
                      replace hx287_0 := (HB.out.cell (World.block_lt_of_cell? w _ hx287_0)).trans hx287_0
                      replace hx287_1 := (HB.out.cell (World.block_lt_of_cell? w _ hx287_1)).trans hx287_1
                      replace hx287_2 := (HB.out.cell (World.block_lt_of_cell? w _ hx287_2)).trans hx287_2
                      replace hx287_3 := (HB.out.cell (World.block_lt_of_cell? w _ hx287_3)).trans hx287_3
                      replace hx287_4 := (HB.out.cell (World.block_lt_of_cell? w _ hx287_4)).trans hx287_4
                      replace p287 := eq_true p287
                      replace q287 := eq_true q287
                      have p288 : 0 ≤ (x6_1 : Int) := of_decide_eq_true (by first | (with_reducible assumption) | assumption)
                      have q288 : x6_1 < (l0.length : Int) := of_decide_eq_true (by first | (with_reducible assumption) | assumption)
                      obtain ⟨ad288, e288, hx288_0, hx288_1, hx288_2, hx288_3, hx288_4, hx288_5, hx288_6⟩ := at_T27 HR0.out x6_1 p288 q288
                      have hw288_6 := hx288_6
                      have hw288_5 := hx288_5
                      have hw288_4 := hx288_4
                      have hw288_3 := hx288_3
                      have hw288_2 := hx288_2
                      have hw288_1 := hx288_1
                      have hw288_0 := hx288_0
                      obtain rfl : ad286 = ad288 := (by injection e288)
                      replace hx288_0 := (HB.out.cell (World.block_lt_of_cell? w _ hx288_0)).trans hx288_0
                      replace hx288_1 := (HB.out.cell (World.block_lt_of_cell? w _ hx288_1)).trans hx288_1
                      replace hx288_2 := (HB.out.cell (World.block_lt_of_cell? w _ hx288_2)).trans hx288_2
                      replace hx288_3 := (HB.out.cell (World.block_lt_of_cell? w _ hx288_3)).trans hx288_3
                      replace hx288_4 := (HB.out.cell (World.block_lt_of_cell? w _ hx288_4)).trans hx288_4
                      replace hx288_5 := (HB.out.cell (World.block_lt_of_cell? w _ hx288_5)).trans hx288_5
                      replace hx288_6 := (HB.out.cell (World.block_lt_of_cell? w _ hx288_6)).trans hx288_6
                      replace p288 := eq_true p288
                      replace q288 := eq_true q288
                      refine start_ (n := 24) (S := fun w' => w'.cell? (ad283.add ((x6_1).toNat * 5)) = some (.int .i64 ((rd_T141 l1 x6_1).f0.f0)) ∧ w'.cell? ⟨(ad283.add ((x6_1).toNat * 5)).block, (ad283.add ((x6_1).toNat * 5)).off + 1, none⟩ = some (.int .i64 ((rd_T141 l1 x6_1).f0.f1)) ∧ w'.cell? ⟨(ad283.add ((x6_1).toNat * 5)).block, (ad283.add ((x6_1).toNat * 5)).off + 2, none⟩ = some (.bool ((rd_T141 l1 x6_1).f1)) ∧ w'.cell? ⟨(ad283.add ((x6_1).toNat * 5)).block, (ad283.add ((x6_1).toNat * 5)).off + 3, none⟩ = some (.int .i64 ((rd_T141 l1 x6_1).f2.f0)) ∧ w'.cell? ⟨(ad283.add ((x6_1).toNat * 5)).block, (ad283.add ((x6_1).toNat * 5)).off + 4, none⟩ = some (.int .i64 ((rd_T141 l1 x6_1).f2.f1)) ∧ w'.cell? (ad286.add ((x6_1).toNat * 7)) = some (.int .i64 ((rd_T27 l0 x6_1).f0.f0)) ∧ w'.cell? ⟨(ad286.add ((x6_1).toNat * 7)).block, (ad286.add ((x6_1).toNat * 7)).off + 1, none⟩ = some (.int .i64 ((rd_T27 l0 x6_1).f0.f1)) ∧ w'.cell? ⟨(ad286.add ((x6_1).toNat * 7)).block, (ad286.add ((x6_1).toNat * 7)).off + 2, none⟩ = some (.int .i64 ((rd_T27 l0 x6_1).f1.f0)) ∧ w'.cell? ⟨(ad286.add ((x6_1).toNat * 7)).block, (ad286.add ((x6_1).toNat * 7)).off + 3, none⟩ = some (.int .i64 ((rd_T27 l0 x6_1).f1.f1)) ∧ w'.cell? ⟨(ad286.add ((x6_1).toNat * 7)).block, (ad286.add ((x6_1).toNat * 7)).off + 4, none⟩ = some (.int .i64 ((rd_T27 l0 x6_1).f2)) ∧ w'.cell? ⟨(ad286.add ((x6_1).toNat * 7)).block, (ad286.add ((x6_1).toNat * 7)).off + 5, none⟩ = some (.int .i64 ((rd_T27 l0 x6_1).f3)) ∧ w'.cell? ⟨(ad286.add ((x6_1).toNat * 7)).block, (ad286.add ((x6_1).toNat * 7)).off + 6, none⟩ = some (.bool ((rd_T27 l0 x6_1).f4)) ∧ w'.cell? (ad283.add ((x6_1).toNat * 5)) = some (.int .i64 ((rd_T141 l1 x6_1).f0.f0)) ∧ w'.cell? ⟨(ad283.add ((x6_1).toNat * 5)).block, (ad283.add ((x6_1).toNat * 5)).off + 1, none⟩ = some (.int .i64 ((rd_T141 l1 x6_1).f0.f1)) ∧ w'.cell? ⟨(ad283.add ((x6_1).toNat * 5)).block, (ad283.add ((x6_1).toNat * 5)).off + 2, none⟩ = some (.bool ((rd_T141 l1 x6_1).f1)) ∧ w'.cell? ⟨(ad283.add ((x6_1).toNat * 5)).block, (ad283.add ((x6_1).toNat * 5)).off + 3, none⟩ = some (.int .i64 ((rd_T141 l1 x6_1).f2.f0)) ∧ w'.cell? ⟨(ad283.add ((x6_1).toNat * 5)).block, (ad283.add ((x6_1).toNat * 5)).off + 4, none⟩ = some (.int .i64 ((rd_T141 l1 x6_1).f2.f1)) ∧ w'.cell? (ad286.add ((x6_1).toNat * 7)) = some (.int .i64 ((rd_T27 l0 x6_1).f0.f0)) ∧ w'.cell? ⟨(ad286.add ((x6_1).toNat * 7)).block, (ad286.add ((x6_1).toNat * 7)).off + 1, none⟩ = some (.int .i64 ((rd_T27 l0 x6_1).f0.f1)) ∧ w'.cell? ⟨(ad286.add ((x6_1).toNat * 7)).block, (ad286.add ((x6_1).toNat * 7)).off + 2, none⟩ = some (.int .i64 ((rd_T27 l0 x6_1).f1.f0)) ∧ w'.cell? ⟨(ad286.add ((x6_1).toNat * 7)).block, (ad286.add ((x6_1).toNat * 7)).off + 3, none⟩ = some (.int .i64 ((rd_T27 l0 x6_1).f1.f1)) ∧ w'.cell? ⟨(ad286.add ((x6_1).toNat * 7)).block, (ad286.add ((x6_1).toNat * 7)).off + 4, none⟩ = some (.int .i64 ((rd_T27 l0 x6_1).f2)) ∧ w'.cell? ⟨(ad286.add ((x6_1).toNat * 7)).block, (ad286.add ((x6_1).toNat * 7)).off + 5, none⟩ = some (.int .i64 ((rd_T27 l0 x6_1).f3)) ∧ w'.cell? ⟨(ad286.add ((x6_1).toNat * 7)).block, (ad286.add ((x6_1).toNat * 7)).off + 6, none⟩ = some (.bool ((rd_T27 l0 x6_1).f4))) (ds := []) #[false, false, false, false, false, false, false, false, false, false, false, false, false, false, false, false, false, false, false, false, false, false, false, false] (by kernel_rfl) rfl rfl ⟨((HB.out.cell (World.block_lt_of_cell? w _ hw285_0)).trans hw285_0), ((HB.out.cell (World.block_lt_of_cell? w _ hw285_1)).trans hw285_1), ((HB.out.cell (World.block_lt_of_cell? w _ hw285_2)).trans hw285_2), ((HB.out.cell (World.block_lt_of_cell? w _ hw285_3)).trans hw285_3), ((HB.out.cell (World.block_lt_of_cell? w _ hw285_4)).trans hw285_4), ((HB.out.cell (World.block_lt_of_cell? w _ hw286_0)).trans hw286_0), ((HB.out.cell (World.block_lt_of_cell? w _ hw286_1)).trans hw286_1), ((HB.out.cell (World.block_lt_of_cell? w _ hw286_2)).trans hw286_2), ((HB.out.cell (World.block_lt_of_cell? w _ hw286_3)).trans hw286_3), ((HB.out.cell (World.block_lt_of_cell? w _ hw286_4)).trans hw286_4), ((HB.out.cell (World.block_lt_of_cell? w _ hw286_5)).trans hw286_5), ((HB.out.cell (World.block_lt_of_cell? w _ hw286_6)).trans hw286_6), ((HB.out.cell (World.block_lt_of_cell? w _ hw287_0)).trans hw287_0), ((HB.out.cell (World.block_lt_of_cell? w _ hw287_1)).trans hw287_1), ((HB.out.cell (World.block_lt_of_cell? w _ hw287_2)).trans hw287_2), ((HB.out.cell (World.block_lt_of_cell? w _ hw287_3)).trans hw287_3), ((HB.out.cell (World.block_lt_of_cell? w _ hw287_4)).trans hw287_4), ((HB.out.cell (World.block_lt_of_cell? w _ hw288_0)).trans hw288_0), ((HB.out.cell (World.block_lt_of_cell? w _ hw288_1)).trans hw288_1), ((HB.out.cell (World.block_lt_of_cell? w _ hw288_2)).trans hw288_2), ((HB.out.cell (World.block_lt_of_cell? w _ hw288_3)).trans hw288_3), ((HB.out.cell (World.block_lt_of_cell? w _ hw288_4)).trans hw288_4), ((HB.out.cell (World.block_lt_of_cell? w _ hw288_5)).trans hw288_5), ((HB.out.cell (World.block_lt_of_cell? w _ hw288_6)).trans hw288_6)⟩ (fun hHeld => ?_); refine with_tabW metrolabref47_Safe.tab12 metrolabref47_Safe.bits12 (fun HT_ HW_ => ?_)
                      generalize w18.drew = w19 at HB hx285_0 hx285_1 hx285_2 hx285_3 hx285_4 hx286_0 hx286_1 hx286_2 hx286_3 hx286_4 hx286_5 hx286_6 hx287_0 hx287_1 hx287_2 hx287_3 hx287_4 hx288_0 hx288_1 hx288_2 hx288_3 hx288_4 hx288_5 hx288_6 hHeld ⊢
                      refine pure_ (i := 0) (N := some 33) (v := ?_) (a' := ?_) #[true, false, false, false, false, false, false, false, false, false, false, false, false, false, false, false, false, false, false, false, false, false, false, false] rfl rfl (any_of HT_.out (by kernel_rfl)) (fun _ _ _ h => h) (Or.inl ⟨by rfl, ?_⟩) ?_ ?_
                      rotate_left
                      · intro w'
                        go_simp
                        with_reducible rfl
                      rotate_left
                      · simp only [Act.put, List.setIfInBounds_toArray, List.set_cons_zero, List.set_cons_succ, i64_w, i32_w]
                        rfl
                      refine pure_ (i := 1) (N := some 34) (v := ?_) (a' := ?_) #[true, true, false, false, false, false, false, false, false, false, false, false, false, false, false, false, false, false, false, false, false, false, false, false] rfl rfl (any_of HT_.out (by kernel_rfl)) (fun _ _ _ h => h) (Or.inl ⟨by rfl, ?_⟩) ?_ ?_
                      rotate_left
                      · intro w'
                        go_simp
                        with_reducible rfl
                      rotate_left
                      · simp only [Act.put, List.setIfInBounds_toArray, List.set_cons_zero, List.set_cons_succ, i64_w, i32_w]
                        rfl
                      refine pure_ (i := 2) (N := some 35) (v := ?_) (a' := ?_) #[true, true, true, false, false, false, false, false, false, false, false, false, false, false, false, false, false, false, false, false, false, false, false, false] rfl rfl (any_of HT_.out (by kernel_rfl)) (fun _ _ _ h => h) (Or.inl ⟨by rfl, ?_⟩) ?_ ?_
                      rotate_left
                      · intro w'
                        go_simp
                        with_reducible rfl
                      rotate_left
                      · simp only [Act.put, List.setIfInBounds_toArray, List.set_cons_zero, List.set_cons_succ, i64_w, i32_w]
                        rfl
                      refine pure_ (i := 3) (N := some 36) (v := ?_) (a' := ?_) #[true, true, true, true, false, false, false, false, false, false, false, false, false, false, false, false, false, false, false, false, false, false, false, false] rfl rfl (any_of HT_.out (by kernel_rfl)) (fun _ _ _ h => h) (Or.inl ⟨by rfl, ?_⟩) ?_ ?_
                      rotate_left
                      · intro w'
                        go_simp
                        with_reducible rfl
                      rotate_left
                      · simp only [Act.put, List.setIfInBounds_toArray, List.set_cons_zero, List.set_cons_succ, i64_w, i32_w]
                        rfl
                      refine pure_ (i := 5) (N := some 38) (v := ?_) (a' := ?_) #[true, true, true, true, false, true, false, false, false, false, false, false, false, false, false, false, false, false, false, false, false, false, false, false] rfl rfl (any_of HT_.out (by kernel_rfl)) (fun _ _ _ h => h) (Or.inl ⟨by rfl, ?_⟩) ?_ ?_
                      rotate_left
                      · intro w'
                        go_simp
                        with_reducible rfl
                      rotate_left
                      · simp only [Act.put, List.setIfInBounds_toArray, List.set_cons_zero, List.set_cons_succ, i64_w, i32_w]
                        rfl
                      refine pure_ (i := 6) (N := some 39) (v := ?_) (a' := ?_) #[true, true, true, true, false, true, true, false, false, false, false, false, false, false, false, false, false, false, false, false, false, false, false, false] rfl rfl (any_of HT_.out (by kernel_rfl)) (fun _ _ _ h => h) (Or.inl ⟨by rfl, ?_⟩) ?_ ?_
                      rotate_left
                      · intro w'
                        go_simp
                        with_reducible rfl
                      rotate_left
                      · simp only [Act.put, List.setIfInBounds_toArray, List.set_cons_zero, List.set_cons_succ, i64_w, i32_w]
                        rfl
                      refine pure_ (i := 7) (N := some 40) (v := ?_) (a' := ?_) #[true, true, true, true, false, true, true, true, false, false, false, false, false, false, false, false, false, false, false, false, false, false, false, false] rfl rfl (any_of HT_.out (by kernel_rfl)) (fun _ _ _ h => h) (Or.inl ⟨by rfl, ?_⟩) ?_ ?_
                      rotate_left
                      · intro w'
                        go_simp
                        with_reducible rfl
                      rotate_left
                      · simp only [Act.put, List.setIfInBounds_toArray, List.set_cons_zero, List.set_cons_succ, i64_w, i32_w]
                        rfl
                      refine pure_ (i := 8) (N := some 41) (v := ?_) (a' := ?_) #[true, true, true, true, false, true, true, true, true, false, false, false, false, false, false, false, false, false, false, false, false, false, false, false] rfl rfl (any_of HT_.out (by kernel_rfl)) (fun _ _ _ h => h) (Or.inl ⟨by rfl, ?_⟩) ?_ ?_
                      rotate_left
                      · intro w'
                        go_simp
                        with_reducible rfl
                      rotate_left
                      · simp only [Act.put, List.setIfInBounds_toArray, List.set_cons_zero, List.set_cons_succ, i64_w, i32_w]
                        rfl
                      refine take_ (i := 4) (N := some 37) (v := ?_) (a' := ?_) #[true, true, true, true, true, true, true, true, true, false, false, false, false, false, false, false, false, false, false, false, false, false, false, false] rfl rfl (take_ofW HT_.out HW_.out (by kernel_rfl)) (fun _ _ _ h => h) (Or.inl ⟨by rfl, ?_⟩) hHeld ?_ ?_
                      rotate_left
                      · rintro w' ⟨s0, s1, s2, s3, s4, s5, s6, s7, s8, s9, s10, s11, s12, s13, s14, s15, s16, s17, s18, s19, s20, s21, s22, s23⟩
                        go_simp
                        with_reducible rfl
                      rotate_left
                      · simp only [Act.put, List.setIfInBounds_toArray, List.set_cons_zero, List.set_cons_succ, i64_w, i32_w]
                        rfl
                      refine take_ (i := 9) (N := some 42) (v := ?_) (a' := ?_) #[true, true, true, true, true, true, true, true, true, true, false, false, false, false, false, false, false, false, false, false, false, false, false, false] rfl rfl (take_ofW HT_.out HW_.out (by kernel_rfl)) (fun _ _ _ h => h) (Or.inl ⟨by rfl, ?_⟩) hHeld ?_ ?_
                      rotate_left
                      · rintro w' ⟨s0, s1, s2, s3, s4, s5, s6, s7, s8, s9, s10, s11, s12, s13, s14, s15, s16, s17, s18, s19, s20, s21, s22, s23⟩
                        go_simp
                        with_reducible rfl
                      rotate_left
                      · simp only [Act.put, List.setIfInBounds_toArray, List.set_cons_zero, List.set_cons_succ, i64_w, i32_w]
                        rfl
                      refine pure_ (i := 10) (N := some 43) (v := ?_) (a' := ?_) #[true, true, true, true, true, true, true, true, true, true, true, false, false, false, false, false, false, false, false, false, false, false, false, false] rfl rfl (any_of HT_.out (by kernel_rfl)) (fun _ _ _ h => h) (Or.inl ⟨by rfl, ?_⟩) ?_ ?_
                      rotate_left
                      · intro w'
                        go_simp
                        with_reducible rfl
                      rotate_left
                      · simp only [Act.put, List.setIfInBounds_toArray, List.set_cons_zero, List.set_cons_succ, i64_w, i32_w]
                        rfl
                      refine pure_ (i := 11) (N := some 44) (v := ?_) (a' := ?_) #[true, true, true, true, true, true, true, true, true, true, true, true, false, false, false, false, false, false, false, false, false, false, false, false] rfl rfl (any_of HT_.out (by kernel_rfl)) (fun _ _ _ h => h) (Or.inl ⟨by rfl, ?_⟩) ?_ ?_
                      rotate_left
                      · intro w'
                        go_simp
                        with_reducible rfl
                      rotate_left
                      · simp only [Act.put, List.setIfInBounds_toArray, List.set_cons_zero, List.set_cons_succ, i64_w, i32_w]
                        rfl
                      refine pure_ (i := 12) (N := some 45) (v := ?_) (a' := ?_) #[true, true, true, true, true, true, true, true, true, true, true, true, true, false, false, false, false, false, false, false, false, false, false, false] rfl rfl (any_of HT_.out (by kernel_rfl)) (fun _ _ _ h => h) (Or.inl ⟨by rfl, ?_⟩) ?_ ?_
                      rotate_left
                      · intro w'
                        go_simp
                        with_reducible rfl
                      rotate_left
                      · simp only [Act.put, List.setIfInBounds_toArray, List.set_cons_zero, List.set_cons_succ, i64_w, i32_w]
                        rfl
                      refine pure_ (i := 13) (N := some 46) (v := ?_) (a' := ?_) #[true, true, true, true, true, true, true, true, true, true, true, true, true, true, false, false, false, false, false, false, false, false, false, false] rfl rfl (any_of HT_.out (by kernel_rfl)) (fun _ _ _ h => h) (Or.inl ⟨by rfl, ?_⟩) ?_ ?_
                      rotate_left
                      · intro w'
                        go_simp
                        with_reducible rfl
                      rotate_left
                      · simp only [Act.put, List.setIfInBounds_toArray, List.set_cons_zero, List.set_cons_succ, i64_w, i32_w]
                        rfl
                      refine pure_ (i := 14) (N := some 47) (v := ?_) (a' := ?_) #[true, true, true, true, true, true, true, true, true, true, true, true, true, true, true, false, false, false, false, false, false, false, false, false] rfl rfl (any_of HT_.out (by kernel_rfl)) (fun _ _ _ h => h) (Or.inl ⟨by rfl, ?_⟩) ?_ ?_
                      rotate_left
                      · intro w'
                        go_simp
                        with_reducible rfl
                      rotate_left
                      · simp only [Act.put, List.setIfInBounds_toArray, List.set_cons_zero, List.set_cons_succ, i64_w, i32_w]
                        rfl
                      refine pure_ (i := 15) (N := some 48) (v := ?_) (a' := ?_) #[true, true, true, true, true, true, true, true, true, true, true, true, true, true, true, true, false, false, false, false, false, false, false, false] rfl rfl (any_of HT_.out (by kernel_rfl)) (fun _ _ _ h => h) (Or.inl ⟨by rfl, ?_⟩) ?_ ?_
                      rotate_left
                      · intro w'
                        go_simp
                        with_reducible rfl
                      rotate_left
                      · simp only [Act.put, List.setIfInBounds_toArray, List.set_cons_zero, List.set_cons_succ, i64_w, i32_w]
                        rfl
                      refine pure_ (i := 17) (N := some 50) (v := ?_) (a' := ?_) #[true, true, true, true, true, true, true, true, true, true, true, true, true, true, true, true, false, true, false, false, false, false, false, false] rfl rfl (any_of HT_.out (by kernel_rfl)) (fun _ _ _ h => h) (Or.inl ⟨by rfl, ?_⟩) ?_ ?_
                      rotate_left
                      · intro w'
                        go_simp
                        with_reducible rfl
                      rotate_left
                      · simp only [Act.put, List.setIfInBounds_toArray, List.set_cons_zero, List.set_cons_succ, i64_w, i32_w]
                        rfl
                      refine pure_ (i := 18) (N := some 51) (v := ?_) (a' := ?_) #[true, true, true, true, true, true, true, true, true, true, true, true, true, true, true, true, false, true, true, false, false, false, false, false] rfl rfl (any_of HT_.out (by kernel_rfl)) (fun _ _ _ h => h) (Or.inl ⟨by rfl, ?_⟩) ?_ ?_
                      rotate_left
                      · intro w'
                        go_simp
                        with_reducible rfl
                      rotate_left
                      · simp only [Act.put, List.setIfInBounds_toArray, List.set_cons_zero, List.set_cons_succ, i64_w, i32_w]
                        rfl
                      refine pure_ (i := 19) (N := some 52) (v := ?_) (a' := ?_) #[true, true, true, true, true, true, true, true, true, true, true, true, true, true, true, true, false, true, true, true, false, false, false, false] rfl rfl (any_of HT_.out (by kernel_rfl)) (fun _ _ _ h => h) (Or.inl ⟨by rfl, ?_⟩) ?_ ?_
                      rotate_left
                      · intro w'
                        go_simp
                        with_reducible rfl
                      rotate_left
                      · simp only [Act.put, List.setIfInBounds_toArray, List.set_cons_zero, List.set_cons_succ, i64_w, i32_w]
                        rfl
                      refine pure_ (i := 20) (N := some 53) (v := ?_) (a' := ?_) #[true, true, true, true, true, true, true, true, true, true, true, true, true, true, true, true, false, true, true, true, true, false, false, false] rfl rfl (any_of HT_.out (by kernel_rfl)) (fun _ _ _ h => h) (Or.inl ⟨by rfl, ?_⟩) ?_ ?_
                      rotate_left
                      · intro w'
                        go_simp
                        with_reducible rfl
                      rotate_left
                      · simp only [Act.put, List.setIfInBounds_toArray, List.set_cons_zero, List.set_cons_succ, i64_w, i32_w]
                        rfl
                      refine take_ (i := 16) (N := some 49) (v := ?_) (a' := ?_) #[true, true, true, true, true, true, true, true, true, true, true, true, true, true, true, true, true, true, true, true, true, false, false, false] rfl rfl (take_ofW HT_.out HW_.out (by kernel_rfl)) (fun _ _ _ h => h) (Or.inl ⟨by rfl, ?_⟩) hHeld ?_ ?_
                      rotate_left
                      · rintro w' ⟨s0, s1, s2, s3, s4, s5, s6, s7, s8, s9, s10, s11, s12, s13, s14, s15, s16, s17, s18, s19, s20, s21, s22, s23⟩
                        go_simp
                        with_reducible rfl
                      rotate_left
                      · simp only [Act.put, List.setIfInBounds_toArray, List.set_cons_zero, List.set_cons_succ, i64_w, i32_w]
                        rfl
                      refine take_ (i := 21) (N := some 54) (v := ?_) (a' := ?_) #[true, true, true, true, true, true, true, true, true, true, true, true, true, true, true, true, true, true, true, true, true, true, false, false] rfl rfl (take_ofW HT_.out HW_.out (by kernel_rfl)) (fun _ _ _ h => h) (Or.inl ⟨by rfl, ?_⟩) hHeld ?_ ?_
                      rotate_left
                      · rintro w' ⟨s0, s1, s2, s3, s4, s5, s6, s7, s8, s9, s10, s11, s12, s13, s14, s15, s16, s17, s18, s19, s20, s21, s22, s23⟩
                        go_simp
                        with_reducible rfl
                      rotate_left
                      · simp only [Act.put, List.setIfInBounds_toArray, List.set_cons_zero, List.set_cons_succ, i64_w, i32_w]
                        rfl
                      refine pure_ (i := 22) (N := some 55) (v := ?_) (a' := ?_) #[true, true, true, true, true, true, true, true, true, true, true, true, true, true, true, true, true, true, true, true, true, true, true, false] rfl rfl (any_of HT_.out (by kernel_rfl)) (fun _ _ _ h => h) (Or.inl ⟨by rfl, ?_⟩) ?_ ?_
                      rotate_left
                      · intro w'
                        go_simp
                        with_reducible rfl
                      rotate_left
                      · simp only [Act.put, List.setIfInBounds_toArray, List.set_cons_zero, List.set_cons_succ, i64_w, i32_w]
                        rfl
                      refine pure_ (i := 23) (N := some 56) (v := ?_) (a' := ?_) #[true, true, true, true, true, true, true, true, true, true, true, true, true, true, true, true, true, true, true, true, true, true, true, true] rfl rfl (any_of HT_.out (by kernel_rfl)) (fun _ _ _ h => h) (Or.inl ⟨by rfl, ?_⟩) ?_ ?_
                      rotate_left
                      · intro w'
                        go_simp
                        with_reducible rfl
                      rotate_left
                      · simp only [Act.put, List.setIfInBounds_toArray, List.set_cons_zero, List.set_cons_succ, i64_w, i32_w]
                        rfl
                      refine done_ (done_of HT_.out (by kernel_rfl)) ?_
                      try go_wp2
                      go_roundg k1
                      case measure => have := HK1.out; omega
                      case rel => exact ⟨(wrap64 (x6_1 + 1)), (by first | rfl | (simp; done) | (simp [*]; done)), H', ⟨by have := HK1.out; omega⟩, ⟨by repeat (first | (with_reducible first | exact HB.out | apply below_alloc | apply pw_below_drewN | apply below_drew1) | exact HB.out)⟩⟩
                · rw [if_neg c11] at H
                  exact absurd H (by simp)
              · rw [if_neg c10] at H
                have c10b0 : (t284 == 0) = false := beq_eq_false_iff_ne.mpr c10
                have c10b1 : (t284 != 0) = true := bne_iff_ne.mpr c10
                obtain rfl := Option.some.inj H
                have p283 : 0 ≤ (x6_1 : Int) := of_decide_eq_true (by first | (with_reducible assumption) | assumption)
                have q283 : x6_1 < (l1.length : Int) := of_decide_eq_true (by first | (with_reducible assumption) | assumption)
                obtain ⟨ad283, e283, hx283_0, hx283_1, hx283_2, hx283_3, hx283_4⟩ := at_T141 HR1.out x6_1 p283 q283
                cases e283
                replace hx283_0 := (HB.out.cell (World.block_lt_of_cell? w _ hx283_0)).trans hx283_0
                replace hx283_1 := (HB.out.cell (World.block_lt_of_cell? w _ hx283_1)).trans hx283_1
                replace hx283_2 := (HB.out.cell (World.block_lt_of_cell? w _ hx283_2)).trans hx283_2
                replace hx283_3 := (HB.out.cell (World.block_lt_of_cell? w _ hx283_3)).trans hx283_3
                replace hx283_4 := (HB.out.cell (World.block_lt_of_cell? w _ hx283_4)).trans hx283_4
                replace p283 := eq_true p283
                replace q283 := eq_true q283
                go_wp2_with (first | ((with_reducible refine gate_callee (f := 101) rfl ?_); refine goesL_ (some 29) rfl rfl Tryd.func101 (by kernel_rfl) rfl #[.agg #[.int .i64 ((rd_T141 l1 x6_1).f0.f0), .int .i64 ((rd_T141 l1 x6_1).f0.f1), .bool ((rd_T141 l1 x6_1).f1), .int .i64 ((rd_T141 l1 x6_1).f2.f0), .int .i64 ((rd_T141 l1 x6_1).f2.f1)]] rfl (by (try simp only [List.map_toArray, List.map_cons, List.map_nil]); first | done | rfl | (simp only [List.length_drop, List.length_take]; rfl)) ?_; (with_reducible refine (metrolabref47_limits.calls k1 ((rd_T141 l1 x6_1).f0.f0) ((rd_T141 l1 x6_1).f0.f1) ((rd_T141 l1 x6_1).f1) ((rd_T141 l1 x6_1).f2.f0) ((rd_T141 l1 x6_1).f2.f1) t284 _ A9.out).mono ?_); rintro e w20 ⟨rfl, hb⟩; refine ⟨_, rfl, ?_⟩; have n0_ := Aside0.mk (below_step (by repeat (first | (with_reducible first | exact HB.out | apply below_alloc | apply pw_below_drewN | apply below_drew1) | exact HB.out)) hb); clear HB; have HB := n0_; clear n0_; (try clear hb); (try clear hb2); (try clear hk); (try clear hi)))
                go_ret
                exact ⟨by first | rfl | (simp [errW_none, errW_some] <;> rfl) | (simp [*, errW_none, errW_some] <;> rfl), by repeat (first | (with_reducible first | exact HB.out | apply below_alloc | apply pw_below_drewN | apply below_drew1) | exact HB.out)⟩
            · rw [if_neg c8] at H
              exact absurd H (by simp)
          · rw [if_neg c7] at H
            have c7b0 : decide (x6_1 < (l1.length : Int)) = false := decide_eq_false c7
            clear c7
            have H' := Aside0.mk H
            clear H
            go_wp2
            go_loopg [8] k1 (fun kq v8 w' => ∃ (x8_2 : Int), v8 = .int .i64 x8_2 ∧ Aside0 (metrolabref47_Safe.l1 kq l0 l1 x8_2 = some r) ∧ Aside0 (kq ≤ k1) ∧ Aside0 (Below w.heap.size w w'))
            case atStart => exact ⟨(0), (by first | rfl | (simp; done) | (simp [*]; done)), H', ⟨Nat.le_refl _⟩, ⟨by repeat (first | (with_reducible first | exact HB.out | apply below_alloc | apply pw_below_drewN | apply below_drew1) | exact HB.out)⟩⟩
            case round =>
              clear H'
              try clear c1
              try clear p2
              try clear q2
              try clear hx2
              try clear p6
              try clear c7
              try clear c7b0
              try clear c8
              try clear c10
              try clear c10b0
              try clear c10b1
              try clear c11
              try clear c15
              try clear c15b0
              try clear c15b1
              try clear c15b2
              try clear hx283_0
              try clear hx283_1
              try clear hx283_2
              try clear hx283_3
              try clear hx283_4
              try clear hx285_0
              try clear hx285_1
              try clear hx285_2
              try clear hx285_3
              try clear hx285_4
              try clear hx286_0
              try clear hx286_1
              try clear hx286_2
              try clear hx286_3
              try clear hx286_4
              try clear hx286_5
              try clear hx286_6
              try clear hx287_0
              try clear hx287_1
              try clear hx287_2
              try clear hx287_3
              try clear hx287_4
              try clear hx288_0
              try clear hx288_1
              try clear hx288_2
              try clear hx288_3
              try clear hx288_4
              try clear hx288_5
              try clear hx288_6
              try clear p283
              try clear p285
              try clear p286
              try clear p287
              try clear p288
              try clear q283
              try clear q285
              try clear q286
              try clear q287
              try clear q288
              obtain ⟨x8_2, rfl, HA, HK2, HB⟩ := hrel
              cases gk with
              | zero => exact absurd HA.out (by simp [metrolabref47_Safe.l1])
              | succ k2 =>
                have H := HA.out
                clear HA
                simp only [metrolabref47_Safe.l1] at H
                by_cases c21 : x8_2 < (l1.length : Int)
                · rw [if_pos c21] at H
                  have c21b0 : decide (x8_2 < (l1.length : Int)) = true := decide_eq_true c21
                  clear c21
                  by_cases c22 : 0 ≤ x8_2
                  · rw [if_pos c22] at H
                    have c22b0 : decide (0 ≤ x8_2) = true := decide_eq_true c22
                    clear c22
                    by_cases c23 : x8_2 < (l0.length : Int)
                    · rw [if_pos c23] at H
                      have c23b0 : decide (x8_2 < (l0.length : Int)) = true := decide_eq_true c23
                      clear c23
                      replace H := Option.bind_eq_some_iff.mp H
                      obtain ⟨t291, A240, H⟩ := H
                      replace H : (if t291 = true then (some 15) else ((metrolabref47_Beyond.f ((rd_T27 l0 x8_2).f0.f0) ((rd_T27 l0 x8_2).f0.f1) ((rd_T27 l0 x8_2).f1.f0) ((rd_T27 l0 x8_2).f1.f1) ((rd_T27 l0 x8_2).f2) ((rd_T27 l0 x8_2).f3) ((rd_T27 l0 x8_2).f4) ((rd_T141 l1 x8_2).f2.f1)).bind fun t294 => (if t294 = true then (some 15) else (metrolabref47_Safe.l1 k2 l0 l1 (wrap64 (x8_2 + 1)))))) = some r := H
                      have A24 := Aside0.mk A240
                      clear A240
                      by_cases c25 : t291 = true
                      · subst c25
                        have H1 : (some 15) = some r := by rw [if_pos rfl] at H; exact H
                        clear H
                        have H := H1
                        clear H1
                        obtain rfl := Option.some.inj H
                        try go_wp2
                        have n0_ := Aside0.mk (below_drew1 HB.out)
                        clear HB
                        have HB := n0_
                        clear n0_
                        have p289 : 0 ≤ (x8_2 : Int) := of_decide_eq_true (by first | (with_reducible assumption) | assumption)
                        have q289 : x8_2 < (l0.length : Int) := of_decide_eq_true (by first | (with_reducible assumption) | assumption)
                        obtain ⟨ad289, e289, hx289_0, hx289_1, hx289_2, hx289_3, hx289_4, hx289_5, hx289_6⟩ := at_T27 HR0.out x8_2 p289 q289
                        have hw289_6 := hx289_6
                        have hw289_5 := hx289_5
                        have hw289_4 := hx289_4
                        have hw289_3 := hx289_3
                        have hw289_2 := hx289_2
                        have hw289_1 := hx289_1
                        have hw289_0 := hx289_0
                        cases e289
                        replace hx289_0 := (HB.out.cell (World.block_lt_of_cell? w _ hx289_0)).trans hx289_0
                        replace hx289_1 := (HB.out.cell (World.block_lt_of_cell? w _ hx289_1)).trans hx289_1
                        replace hx289_2 := (HB.out.cell (World.block_lt_of_cell? w _ hx289_2)).trans hx289_2
                        replace hx289_3 := (HB.out.cell (World.block_lt_of_cell? w _ hx289_3)).trans hx289_3
                        replace hx289_4 := (HB.out.cell (World.block_lt_of_cell? w _ hx289_4)).trans hx289_4
                        replace hx289_5 := (HB.out.cell (World.block_lt_of_cell? w _ hx289_5)).trans hx289_5
                        replace hx289_6 := (HB.out.cell (World.block_lt_of_cell? w _ hx289_6)).trans hx289_6
                        replace p289 := eq_true p289
                        replace q289 := eq_true q289
                        have p290 : 0 ≤ (x8_2 : Int) := of_decide_eq_true (by first | (with_reducible assumption) | assumption)
                        have q290 : x8_2 < (l1.length : Int) := of_decide_eq_true (by first | (with_reducible assumption) | assumption)
                        obtain ⟨ad290, e290, hx290_0, hx290_1, hx290_2, hx290_3, hx290_4⟩ := at_T141 HR1.out x8_2 p290 q290
                        have hw290_4 := hx290_4
                        have hw290_3 := hx290_3
                        have hw290_2 := hx290_2
                        have hw290_1 := hx290_1
                        have hw290_0 := hx290_0
                        cases e290
                        replace hx290_0 := (HB.out.cell (World.block_lt_of_cell? w _ hx290_0)).trans hx290_0
                        replace hx290_1 := (HB.out.cell (World.block_lt_of_cell? w _ hx290_1)).trans hx290_1
                        replace hx290_2 := (HB.out.cell (World.block_lt_of_cell? w _ hx290_2)).trans hx290_2
                        replace hx290_3 := (HB.out.cell (World.block_lt_of_cell? w _ hx290_3)).trans hx290_3
                        replace hx290_4 := (HB.out.cell (World.block_lt_of_cell? w _ hx290_4)).trans hx290_4
                        replace p290 := eq_true p290
                        replace q290 := eq_true q290
                        refine start_ (n := 24) (S := fun w' => w'.cell? (ad289.add ((x8_2).toNat * 7)) = some (.int .i64 ((rd_T27 l0 x8_2).f0.f0)) ∧ w'.cell? ⟨(ad289.add ((x8_2).toNat * 7)).block, (ad289.add ((x8_2).toNat * 7)).off + 1, none⟩ = some (.int .i64 ((rd_T27 l0 x8_2).f0.f1)) ∧ w'.cell? ⟨(ad289.add ((x8_2).toNat * 7)).block, (ad289.add ((x8_2).toNat * 7)).off + 2, none⟩ = some (.int .i64 ((rd_T27 l0 x8_2).f1.f0)) ∧ w'.cell? ⟨(ad289.add ((x8_2).toNat * 7)).block, (ad289.add ((x8_2).toNat * 7)).off + 3, none⟩ = some (.int .i64 ((rd_T27 l0 x8_2).f1.f1)) ∧ w'.cell? ⟨(ad289.add ((x8_2).toNat * 7)).block, (ad289.add ((x8_2).toNat * 7)).off + 4, none⟩ = some (.int .i64 ((rd_T27 l0 x8_2).f2)) ∧ w'.cell? ⟨(ad289.add ((x8_2).toNat * 7)).block, (ad289.add ((x8_2).toNat * 7)).off + 5, none⟩ = some (.int .i64 ((rd_T27 l0 x8_2).f3)) ∧ w'.cell? ⟨(ad289.add ((x8_2).toNat * 7)).block, (ad289.add ((x8_2).toNat * 7)).off + 6, none⟩ = some (.bool ((rd_T27 l0 x8_2).f4)) ∧ w'.cell? (ad290.add ((x8_2).toNat * 5)) = some (.int .i64 ((rd_T141 l1 x8_2).f0.f0)) ∧ w'.cell? ⟨(ad290.add ((x8_2).toNat * 5)).block, (ad290.add ((x8_2).toNat * 5)).off + 1, none⟩ = some (.int .i64 ((rd_T141 l1 x8_2).f0.f1)) ∧ w'.cell? ⟨(ad290.add ((x8_2).toNat * 5)).block, (ad290.add ((x8_2).toNat * 5)).off + 2, none⟩ = some (.bool ((rd_T141 l1 x8_2).f1)) ∧ w'.cell? ⟨(ad290.add ((x8_2).toNat * 5)).block, (ad290.add ((x8_2).toNat * 5)).off + 3, none⟩ = some (.int .i64 ((rd_T141 l1 x8_2).f2.f0)) ∧ w'.cell? ⟨(ad290.add ((x8_2).toNat * 5)).block, (ad290.add ((x8_2).toNat * 5)).off + 4, none⟩ = some (.int .i64 ((rd_T141 l1 x8_2).f2.f1))) (ds := []) #[false, false, false, false, false, false, false, false, false, false, false, false, false, false, false, false, false, false, false, false, false, false, false, false] (by kernel_rfl) rfl rfl ⟨((HB.out.cell (World.block_lt_of_cell? w _ hw289_0)).trans hw289_0), ((HB.out.cell (World.block_lt_of_cell? w _ hw289_1)).trans hw289_1), ((HB.out.cell (World.block_lt_of_cell? w _ hw289_2)).trans hw289_2), ((HB.out.cell (World.block_lt_of_cell? w _ hw289_3)).trans hw289_3), ((HB.out.cell (World.block_lt_of_cell? w _ hw289_4)).trans hw289_4), ((HB.out.cell (World.block_lt_of_cell? w _ hw289_5)).trans hw289_5), ((HB.out.cell (World.block_lt_of_cell? w _ hw289_6)).trans hw289_6), ((HB.out.cell (World.block_lt_of_cell? w _ hw290_0)).trans hw290_0), ((HB.out.cell (World.block_lt_of_cell? w _ hw290_1)).trans hw290_1), ((HB.out.cell (World.block_lt_of_cell? w _ hw290_2)).trans hw290_2), ((HB.out.cell (World.block_lt_of_cell? w _ hw290_3)).trans hw290_3), ((HB.out.cell (World.block_lt_of_cell? w _ hw290_4)).trans hw290_4)⟩ (fun hHeld => ?_); refine with_tabW metrolabref47_Safe.tab17 metrolabref47_Safe.bits17 (fun HT_ HW_ => ?_)
                        generalize wr.drew = w26 at HB hx289_0 hx289_1 hx289_2 hx289_3 hx289_4 hx289_5 hx289_6 hx290_0 hx290_1 hx290_2 hx290_3 hx290_4 hHeld ⊢
                        refine pure_ (i := 0) (N := some 63) (v := ?_) (a' := ?_) #[true, false, false, false, false, false, false, false, false, false, false, false, false, false, false, false, false, false, false, false, false, false, false, false] rfl rfl (any_of HT_.out (by kernel_rfl)) (fun _ _ _ h => h) (Or.inl ⟨by rfl, ?_⟩) ?_ ?_
                        rotate_left
                        · intro w'
                          go_simp
                          with_reducible rfl
                        rotate_left
                        · simp only [Act.put, List.setIfInBounds_toArray, List.set_cons_zero, List.set_cons_succ, i64_w, i32_w]
                          rfl
                        refine pure_ (i := 1) (N := some 64) (v := ?_) (a' := ?_) #[true, true, false, false, false, false, false, false, false, false, false, false, false, false, false, false, false, false, false, false, false, false, false, false] rfl rfl (any_of HT_.out (by kernel_rfl)) (fun _ _ _ h => h) (Or.inl ⟨by rfl, ?_⟩) ?_ ?_
                        rotate_left
                        · intro w'
                          go_simp
                          with_reducible rfl
                        rotate_left
                        · simp only [Act.put, List.setIfInBounds_toArray, List.set_cons_zero, List.set_cons_succ, i64_w, i32_w]
                          rfl
                        refine pure_ (i := 2) (N := some 65) (v := ?_) (a' := ?_) #[true, true, true, false, false, false, false, false, false, false, false, false, false, false, false, false, false, false, false, false, false, false, false, false] rfl rfl (any_of HT_.out (by kernel_rfl)) (fun _ _ _ h => h) (Or.inl ⟨by rfl, ?_⟩) ?_ ?_
                        rotate_left
                        · intro w'
                          go_simp
                          with_reducible rfl
                        rotate_left
                        · simp only [Act.put, List.setIfInBounds_toArray, List.set_cons_zero, List.set_cons_succ, i64_w, i32_w]
                          rfl
                        refine pure_ (i := 4) (N := some 67) (v := ?_) (a' := ?_) #[true, true, true, false, true, false, false, false, false, false, false, false, false, false, false, false, false, false, false, false, false, false, false, false] rfl rfl (any_of HT_.out (by kernel_rfl)) (fun _ _ _ h => h) (Or.inl ⟨by rfl, ?_⟩) ?_ ?_
                        rotate_left
                        · intro w'
                          go_simp
                          with_reducible rfl
                        rotate_left
                        · simp only [Act.put, List.setIfInBounds_toArray, List.set_cons_zero, List.set_cons_succ, i64_w, i32_w]
                          rfl
                        refine pure_ (i := 5) (N := some 68) (v := ?_) (a' := ?_) #[true, true, true, false, true, true, false, false, false, false, false, false, false, false, false, false, false, false, false, false, false, false, false, false] rfl rfl (any_of HT_.out (by kernel_rfl)) (fun _ _ _ h => h) (Or.inl ⟨by rfl, ?_⟩) ?_ ?_
                        rotate_left
                        · intro w'
                          go_simp
                          with_reducible rfl
                        rotate_left
                        · simp only [Act.put, List.setIfInBounds_toArray, List.set_cons_zero, List.set_cons_succ, i64_w, i32_w]
                          rfl
                        refine pure_ (i := 6) (N := some 69) (v := ?_) (a' := ?_) #[true, true, true, false, true, true, true, false, false, false, false, false, false, false, false, false, false, false, false, false, false, false, false, false] rfl rfl (any_of HT_.out (by kernel_rfl)) (fun _ _ _ h => h) (Or.inl ⟨by rfl, ?_⟩) ?_ ?_
                        rotate_left
                        · intro w'
                          go_simp
                          with_reducible rfl
                        rotate_left
                        · simp only [Act.put, List.setIfInBounds_toArray, List.set_cons_zero, List.set_cons_succ, i64_w, i32_w]
                          rfl
                        refine pure_ (i := 7) (N := some 70) (v := ?_) (a' := ?_) #[true, true, true, false, true, true, true, true, false, false, false, false, false, false, false, false, false, false, false, false, false, false, false, false] rfl rfl (any_of HT_.out (by kernel_rfl)) (fun _ _ _ h => h) (Or.inl ⟨by rfl, ?_⟩) ?_ ?_
                        rotate_left
                        · intro w'
                          go_simp
                          with_reducible rfl
                        rotate_left
                        · simp only [Act.put, List.setIfInBounds_toArray, List.set_cons_zero, List.set_cons_succ, i64_w, i32_w]
                          rfl
                        refine pure_ (i := 8) (N := some 71) (v := ?_) (a' := ?_) #[true, true, true, false, true, true, true, true, true, false, false, false, false, false, false, false, false, false, false, false, false, false, false, false] rfl rfl (any_of HT_.out (by kernel_rfl)) (fun _ _ _ h => h) (Or.inl ⟨by rfl, ?_⟩) ?_ ?_
                        rotate_left
                        · intro w'
                          go_simp
                          with_reducible rfl
                        rotate_left
                        · simp only [Act.put, List.setIfInBounds_toArray, List.set_cons_zero, List.set_cons_succ, i64_w, i32_w]
                          rfl
                        refine take_ (i := 3) (N := some 66) (v := ?_) (a' := ?_) #[true, true, true, true, true, true, true, true, true, false, false, false, false, false, false, false, false, false, false, false, false, false, false, false] rfl rfl (take_ofW HT_.out HW_.out (by kernel_rfl)) (fun _ _ _ h => h) (Or.inl ⟨by rfl, ?_⟩) hHeld ?_ ?_
                        rotate_left
                        · rintro w' ⟨s0, s1, s2, s3, s4, s5, s6, s7, s8, s9, s10, s11⟩
                          go_simp
                          with_reducible rfl
                        rotate_left
                        · simp only [Act.put, List.setIfInBounds_toArray, List.set_cons_zero, List.set_cons_succ, i64_w, i32_w]
                          rfl
                        refine take_ (i := 9) (N := some 72) (v := ?_) (a' := ?_) #[true, true, true, true, true, true, true, true, true, true, false, false, false, false, false, false, false, false, false, false, false, false, false, false] rfl rfl (take_ofW HT_.out HW_.out (by kernel_rfl)) (fun _ _ _ h => h) (Or.inl ⟨by rfl, ?_⟩) hHeld ?_ ?_
                        rotate_left
                        · rintro w' ⟨s0, s1, s2, s3, s4, s5, s6, s7, s8, s9, s10, s11⟩
                          go_simp
                          with_reducible rfl
                        rotate_left
                        · simp only [Act.put, List.setIfInBounds_toArray, List.set_cons_zero, List.set_cons_succ, i64_w, i32_w]
                          rfl
                        refine one_ (i := 10) (N := some 73) #[true, true, true, true, true, true, true, true, true, true, true, false, false, false, false, false, false, false, false, false, false, false, false, false] rfl rfl (one_of HT_.out (by kernel_rfl)) (by decide) (fun K hK => ?_)
                        refine goes_ Tryd.func102 (by kernel_rfl) rfl #[.agg #[.int .i64 ((rd_T27 l0 x8_2).f0.f0), .int .i64 ((rd_T27 l0 x8_2).f0.f1), .int .i64 ((rd_T27 l0 x8_2).f1.f0), .int .i64 ((rd_T27 l0 x8_2).f1.f1), .int .i64 ((rd_T27 l0 x8_2).f2), .int .i64 ((rd_T27 l0 x8_2).f3), .bool ((rd_T27 l0 x8_2).f4)], .int .i64 ((rd_T141 l1 x8_2).f2.f0)] (by rfl) rfl rfl (by (try simp only [List.map_toArray, List.map_cons, List.map_nil]); first | done | rfl | (simp only [List.length_drop, List.length_take]; rfl)) ?_
                        with_reducible refine (metrolabref47_Beyond.calls ((rd_T27 l0 x8_2).f0.f0) ((rd_T27 l0 x8_2).f0.f1) ((rd_T27 l0 x8_2).f1.f0) ((rd_T27 l0 x8_2).f1.f1) ((rd_T27 l0 x8_2).f2) ((rd_T27 l0 x8_2).f3) ((rd_T27 l0 x8_2).f4) ((rd_T141 l1 x8_2).f2.f0) true _ A24.out).mono ?_
                        rintro e w27 ⟨rfl, hb⟩
                        refine ⟨_, rfl, ?_⟩
                        have n0_ := Aside0.mk (below_step (by repeat (first | (with_reducible first | exact HB.out | apply below_alloc | apply pw_below_drewN | apply below_drew1) | exact HB.out)) hb)
                        clear HB
                        have HB := n0_
                        clear n0_
                        (try clear hb)
                        (try clear hb2)
                        (try clear hk)
                        (try clear hi)
                        refine hK.out _ _ ⟨((HB.out.cell (World.block_lt_of_cell? w _ hw289_0)).trans hw289_0), ((HB.out.cell (World.block_lt_of_cell? w _ hw289_1)).trans hw289_1), ((HB.out.cell (World.block_lt_of_cell? w _ hw289_2)).trans hw289_2), ((HB.out.cell (World.block_lt_of_cell? w _ hw289_3)).trans hw289_3), ((HB.out.cell (World.block_lt_of_cell? w _ hw289_4)).trans hw289_4), ((HB.out.cell (World.block_lt_of_cell? w _ hw289_5)).trans hw289_5), ((HB.out.cell (World.block_lt_of_cell? w _ hw289_6)).trans hw289_6), ((HB.out.cell (World.block_lt_of_cell? w _ hw290_0)).trans hw290_0), ((HB.out.cell (World.block_lt_of_cell? w _ hw290_1)).trans hw290_1), ((HB.out.cell (World.block_lt_of_cell? w _ hw290_2)).trans hw290_2), ((HB.out.cell (World.block_lt_of_cell? w _ hw290_3)).trans hw290_3), ((HB.out.cell (World.block_lt_of_cell? w _ hw290_4)).trans hw290_4)⟩ (fun hHeld => ?_)
                        clear hK K
                        refine norm_ (a' := ?_) ?_ ?_
                        rotate_left
                        · show Act.put _ (some 73) _ = _
                          simp only [Act.put, List.setIfInBounds_toArray, List.set_cons_zero, List.set_cons_succ, i64_w, i32_w]
                          rfl
                        refine pure_ (i := 11) (N := some 74) (v := ?_) (a' := ?_) #[true, true, true, true, true, true, true, true, true, true, true, true, false, false, false, false, false, false, false, false, false, false, false, false] rfl rfl (any_of HT_.out (by kernel_rfl)) (fun _ _ _ h => h) (Or.inl ⟨by rfl, ?_⟩) ?_ ?_
                        rotate_left
                        · intro w'
                          go_simp
                          with_reducible rfl
                        rotate_left
                        · simp only [Act.put, List.setIfInBounds_toArray, List.set_cons_zero, List.set_cons_succ, i64_w, i32_w]
                          rfl
                        refine pure_ (i := 12) (N := some 75) (v := undef) (a' := ?_) #[true, true, true, true, true, true, true, true, true, true, true, true, true, false, false, false, false, false, false, false, false, false, false, false] rfl rfl (any_of HT_.out (by kernel_rfl)) (fun _ _ _ h => h) (Or.inr ⟨by rfl, rfl⟩) ?_ ?_
                        rotate_left
                        · simp only [Act.put, List.setIfInBounds_toArray, List.set_cons_zero, List.set_cons_succ, i64_w, i32_w]
                          rfl
                        refine pure_ (i := 13) (N := some 76) (v := undef) (a' := ?_) #[true, true, true, true, true, true, true, true, true, true, true, true, true, true, false, false, false, false, false, false, false, false, false, false] rfl rfl (any_of HT_.out (by kernel_rfl)) (fun _ _ _ h => h) (Or.inr ⟨by rfl, rfl⟩) ?_ ?_
                        rotate_left
                        · simp only [Act.put, List.setIfInBounds_toArray, List.set_cons_zero, List.set_cons_succ, i64_w, i32_w]
                          rfl
                        refine pure_ (i := 14) (N := some 77) (v := undef) (a' := ?_) #[true, true, true, true, true, true, true, true, true, true, true, true, true, true, true, false, false, false, false, false, false, false, false, false] rfl rfl (any_of HT_.out (by kernel_rfl)) (fun _ _ _ h => h) (Or.inr ⟨by rfl, rfl⟩) ?_ ?_
                        rotate_left
                        · simp only [Act.put, List.setIfInBounds_toArray, List.set_cons_zero, List.set_cons_succ, i64_w, i32_w]
                          rfl
                        refine pure_ (i := 15) (N := some 78) (v := undef) (a' := ?_) #[true, true, true, true, true, true, true, true, true, true, true, true, true, true, true, true, false, false, false, false, false, false, false, false] rfl rfl (any_of HT_.out (by kernel_rfl)) (fun _ _ _ h => h) (Or.inr ⟨by rfl, rfl⟩) ?_ ?_
                        rotate_left
                        · simp only [Act.put, List.setIfInBounds_toArray, List.set_cons_zero, List.set_cons_succ, i64_w, i32_w]
                          rfl
                        refine pure_ (i := 16) (N := some 79) (v := undef) (a' := ?_) #[true, true, true, true, true, true, true, true, true, true, true, true, true, true, true, true, true, false, false, false, false, false, false, false] rfl rfl (any_of HT_.out (by kernel_rfl)) (fun _ _ _ h => h) (Or.inr ⟨by rfl, rfl⟩) ?_ ?_
                        rotate_left
                        · simp only [Act.put, List.setIfInBounds_toArray, List.set_cons_zero, List.set_cons_succ, i64_w, i32_w]
                          rfl
                        refine pure_ (i := 17) (N := some 80) (v := undef) (a' := ?_) #[true, true, true, true, true, true, true, true, true, true, true, true, true, true, true, true, true, true, false, false, false, false, false, false] rfl rfl (any_of HT_.out (by kernel_rfl)) (fun _ _ _ h => h) (Or.inr ⟨by rfl, rfl⟩) ?_ ?_
                        rotate_left
                        · simp only [Act.put, List.setIfInBounds_toArray, List.set_cons_zero, List.set_cons_succ, i64_w, i32_w]
                          rfl
                        refine pure_ (i := 18) (N := some 81) (v := undef) (a' := ?_) #[true, true, true, true, true, true, true, true, true, true, true, true, true, true, true, true, true, true, true, false, false, false, false, false] rfl rfl (any_of HT_.out (by kernel_rfl)) (fun _ _ _ h => h) (Or.inr ⟨by rfl, rfl⟩) ?_ ?_
                        rotate_left
                        · simp only [Act.put, List.setIfInBounds_toArray, List.set_cons_zero, List.set_cons_succ, i64_w, i32_w]
                          rfl
                        refine pure_ (i := 19) (N := some 82) (v := undef) (a' := ?_) #[true, true, true, true, true, true, true, true, true, true, true, true, true, true, true, true, true, true, true, true, false, false, false, false] rfl rfl (any_of HT_.out (by kernel_rfl)) (fun _ _ _ h => h) (Or.inr ⟨by rfl, rfl⟩) ?_ ?_
                        rotate_left
                        · simp only [Act.put, List.setIfInBounds_toArray, List.set_cons_zero, List.set_cons_succ, i64_w, i32_w]
                          rfl
                        refine pure_ (i := 20) (N := some 83) (v := undef) (a' := ?_) #[true, true, true, true, true, true, true, true, true, true, true, true, true, true, true, true, true, true, true, true, true, false, false, false] rfl rfl (any_of HT_.out (by kernel_rfl)) (fun _ _ _ h => h) (Or.inr ⟨by rfl, rfl⟩) ?_ ?_
                        rotate_left
                        · simp only [Act.put, List.setIfInBounds_toArray, List.set_cons_zero, List.set_cons_succ, i64_w, i32_w]
                          rfl
                        refine pure_ (i := 21) (N := some 84) (v := undef) (a' := ?_) #[true, true, true, true, true, true, true, true, true, true, true, true, true, true, true, true, true, true, true, true, true, true, false, false] rfl rfl (any_of HT_.out (by kernel_rfl)) (fun _ _ _ h => h) (Or.inr ⟨by rfl, rfl⟩) ?_ ?_
                        rotate_left
                        · simp only [Act.put, List.setIfInBounds_toArray, List.set_cons_zero, List.set_cons_succ, i64_w, i32_w]
                          rfl
                        refine pure_ (i := 22) (N := some 85) (v := undef) (a' := ?_) #[true, true, true, true, true, true, true, true, true, true, true, true, true, true, true, true, true, true, true, true, true, true, true, false] rfl rfl (any_of HT_.out (by kernel_rfl)) (fun _ _ _ h => h) (Or.inr ⟨by rfl, rfl⟩) ?_ ?_
                        rotate_left
                        · simp only [Act.put, List.setIfInBounds_toArray, List.set_cons_zero, List.set_cons_succ, i64_w, i32_w]
                          rfl
                        refine pure_ (i := 23) (N := some 86) (v := ?_) (a' := ?_) #[true, true, true, true, true, true, true, true, true, true, true, true, true, true, true, true, true, true, true, true, true, true, true, true] rfl rfl (any_of HT_.out (by kernel_rfl)) (fun _ _ _ h => h) (Or.inl ⟨by rfl, ?_⟩) ?_ ?_
                        rotate_left
                        · intro w'
                          go_simp
                          with_reducible rfl
                        rotate_left
                        · simp only [Act.put, List.setIfInBounds_toArray, List.set_cons_zero, List.set_cons_succ, i64_w, i32_w]
                          rfl
                        refine done_ (done_of HT_.out (by kernel_rfl)) ?_
                        try go_wp2
                        go_ret
                        exact ⟨by first | rfl | (simp [errW_none, errW_some] <;> rfl) | (simp [*, errW_none, errW_some] <;> rfl), by repeat (first | (with_reducible first | exact HB.out | apply below_alloc | apply pw_below_drewN | apply below_drew1) | exact HB.out)⟩
                      · replace c25 := Bool.eq_false_iff.mpr c25
                        subst c25
                        have H1 : ((metrolabref47_Beyond.f ((rd_T27 l0 x8_2).f0.f0) ((rd_T27 l0 x8_2).f0.f1) ((rd_T27 l0 x8_2).f1.f0) ((rd_T27 l0 x8_2).f1.f1) ((rd_T27 l0 x8_2).f2) ((rd_T27 l0 x8_2).f3) ((rd_T27 l0 x8_2).f4) ((rd_T141 l1 x8_2).f2.f1)).bind fun t294 => (if t294 = true then (some 15) else (metrolabref47_Safe.l1 k2 l0 l1 (wrap64 (x8_2 + 1))))) = some r := by rw [if_neg (show ¬ (false = true) by decide)] at H; exact H
                        clear H
                        have H := H1
                        clear H1
                        replace H := Option.bind_eq_some_iff.mp H
                        obtain ⟨t294, A280, H⟩ := H
                        replace H : (if t294 = true then (some 15) else (metrolabref47_Safe.l1 k2 l0 l1 (wrap64 (x8_2 + 1)))) = some r := H
                        have A28 := Aside0.mk A280
                        clear A280
                        by_cases c29 : t294 = true
                        · subst c29
                          have H1 : (some 15) = some r := by rw [if_pos rfl] at H; exact H
                          clear H
                          have H := H1
                          clear H1
                          obtain rfl := Option.some.inj H
                          try go_wp2
                          have n0_ := Aside0.mk (below_drew1 HB.out)
                          clear HB
                          have HB := n0_
                          clear n0_
                          have p289 : 0 ≤ (x8_2 : Int) := of_decide_eq_true (by first | (with_reducible assumption) | assumption)
                          have q289 : x8_2 < (l0.length : Int) := of_decide_eq_true (by first | (with_reducible assumption) | assumption)
                          obtain ⟨ad289, e289, hx289_0, hx289_1, hx289_2, hx289_3, hx289_4, hx289_5, hx289_6⟩ := at_T27 HR0.out x8_2 p289 q289
                          have hw289_6 := hx289_6
                          have hw289_5 := hx289_5
                          have hw289_4 := hx289_4
                          have hw289_3 := hx289_3
                          have hw289_2 := hx289_2
                          have hw289_1 := hx289_1
                          have hw289_0 := hx289_0
                          cases e289
                          replace hx289_0 := (HB.out.cell (World.block_lt_of_cell? w _ hx289_0)).trans hx289_0
                          replace hx289_1 := (HB.out.cell (World.block_lt_of_cell? w _ hx289_1)).trans hx289_1
                          replace hx289_2 := (HB.out.cell (World.block_lt_of_cell? w _ hx289_2)).trans hx289_2
                          replace hx289_3 := (HB.out.cell (World.block_lt_of_cell? w _ hx289_3)).trans hx289_3
                          replace hx289_4 := (HB.out.cell (World.block_lt_of_cell? w _ hx289_4)).trans hx289_4
                          replace hx289_5 := (HB.out.cell (World.block_lt_of_cell? w _ hx289_5)).trans hx289_5
                          replace hx289_6 := (HB.out.cell (World.block_lt_of_cell? w _ hx289_6)).trans hx289_6
                          replace p289 := eq_true p289
                          replace q289 := eq_true q289
                          have p290 : 0 ≤ (x8_2 : Int) := of_decide_eq_true (by first | (with_reducible assumption) | assumption)
                          have q290 : x8_2 < (l1.length : Int) := of_decide_eq_true (by first | (with_reducible assumption) | assumption)
                          obtain ⟨ad290, e290, hx290_0, hx290_1, hx290_2, hx290_3, hx290_4⟩ := at_T141 HR1.out x8_2 p290 q290
                          have hw290_4 := hx290_4
                          have hw290_3 := hx290_3
                          have hw290_2 := hx290_2
                          have hw290_1 := hx290_1
                          have hw290_0 := hx290_0
                          cases e290
                          replace hx290_0 := (HB.out.cell (World.block_lt_of_cell? w _ hx290_0)).trans hx290_0
                          replace hx290_1 := (HB.out.cell (World.block_lt_of_cell? w _ hx290_1)).trans hx290_1
                          replace hx290_2 := (HB.out.cell (World.block_lt_of_cell? w _ hx290_2)).trans hx290_2
                          replace hx290_3 := (HB.out.cell (World.block_lt_of_cell? w _ hx290_3)).trans hx290_3
                          replace hx290_4 := (HB.out.cell (World.block_lt_of_cell? w _ hx290_4)).trans hx290_4
                          replace p290 := eq_true p290
                          replace q290 := eq_true q290
                          have p292 : 0 ≤ (x8_2 : Int) := of_decide_eq_true (by first | (with_reducible assumption) | assumption)
                          have q292 : x8_2 < (l0.length : Int) := of_decide_eq_true (by first | (with_reducible assumption) | assumption)
                          obtain ⟨ad292, e292, hx292_0, hx292_1, hx292_2, hx292_3, hx292_4, hx292_5, hx292_6⟩ := at_T27 HR0.out x8_2 p292 q292
                          have hw292_6 := hx292_6
                          have hw292_5 := hx292_5
                          have hw292_4 := hx292_4
                          have hw292_3 := hx292_3
                          have hw292_2 := hx292_2
                          have hw292_1 := hx292_1
                          have hw292_0 := hx292_0
                          obtain rfl : ad289 = ad292 := (by injection e292)
                          replace hx292_0 := (HB.out.cell (World.block_lt_of_cell? w _ hx292_0)).trans hx292_0
                          replace hx292_1 := (HB.out.cell (World.block_lt_of_cell? w _ hx292_1)).trans hx292_1
                          replace hx292_2 := (HB.out.cell (World.block_lt_of_cell? w _ hx292_2)).trans hx292_2
                          replace hx292_3 := (HB.out.cell (World.block_lt_of_cell? w _ hx292_3)).trans hx292_3
                          replace hx292_4 := (HB.out.cell (World.block_lt_of_cell? w _ hx292_4)).trans hx292_4
                          replace hx292_5 := (HB.out.cell (World.block_lt_of_cell? w _ hx292_5)).trans hx292_5
                          replace hx292_6 := (HB.out.cell (World.block_lt_of_cell? w _ hx292_6)).trans hx292_6
                          replace p292 := eq_true p292
                          replace q292 := eq_true q292
                          have p293 : 0 ≤ (x8_2 : Int) := of_decide_eq_true (by first | (with_reducible assumption) | assumption)
                          have q293 : x8_2 < (l1.length : Int) := of_decide_eq_true (by first | (with_reducible assumption) | assumption)
                          obtain ⟨ad293, e293, hx293_0, hx293_1, hx293_2, hx293_3, hx293_4⟩ := at_T141 HR1.out x8_2 p293 q293
                          have hw293_4 := hx293_4
                          have hw293_3 := hx293_3
                          have hw293_2 := hx293_2
                          have hw293_1 := hx293_1
                          have hw293_0 := hx293_0
                          obtain rfl : ad290 = ad293 := (by injection e293)
                          replace hx293_0 := (HB.out.cell (World.block_lt_of_cell? w _ hx293_0)).trans hx293_0
                          replace hx293_1 := (HB.out.cell (World.block_lt_of_cell? w _ hx293_1)).trans hx293_1
                          replace hx293_2 := (HB.out.cell (World.block_lt_of_cell? w _ hx293_2)).trans hx293_2
                          replace hx293_3 := (HB.out.cell (World.block_lt_of_cell? w _ hx293_3)).trans hx293_3
                          replace hx293_4 := (HB.out.cell (World.block_lt_of_cell? w _ hx293_4)).trans hx293_4
                          replace p293 := eq_true p293
                          replace q293 := eq_true q293
                          refine start_ (n := 24) (S := fun w' => w'.cell? (ad289.add ((x8_2).toNat * 7)) = some (.int .i64 ((rd_T27 l0 x8_2).f0.f0)) ∧ w'.cell? ⟨(ad289.add ((x8_2).toNat * 7)).block, (ad289.add ((x8_2).toNat * 7)).off + 1, none⟩ = some (.int .i64 ((rd_T27 l0 x8_2).f0.f1)) ∧ w'.cell? ⟨(ad289.add ((x8_2).toNat * 7)).block, (ad289.add ((x8_2).toNat * 7)).off + 2, none⟩ = some (.int .i64 ((rd_T27 l0 x8_2).f1.f0)) ∧ w'.cell? ⟨(ad289.add ((x8_2).toNat * 7)).block, (ad289.add ((x8_2).toNat * 7)).off + 3, none⟩ = some (.int .i64 ((rd_T27 l0 x8_2).f1.f1)) ∧ w'.cell? ⟨(ad289.add ((x8_2).toNat * 7)).block, (ad289.add ((x8_2).toNat * 7)).off + 4, none⟩ = some (.int .i64 ((rd_T27 l0 x8_2).f2)) ∧ w'.cell? ⟨(ad289.add ((x8_2).toNat * 7)).block, (ad289.add ((x8_2).toNat * 7)).off + 5, none⟩ = some (.int .i64 ((rd_T27 l0 x8_2).f3)) ∧ w'.cell? ⟨(ad289.add ((x8_2).toNat * 7)).block, (ad289.add ((x8_2).toNat * 7)).off + 6, none⟩ = some (.bool ((rd_T27 l0 x8_2).f4)) ∧ w'.cell? (ad290.add ((x8_2).toNat * 5)) = some (.int .i64 ((rd_T141 l1 x8_2).f0.f0)) ∧ w'.cell? ⟨(ad290.add ((x8_2).toNat * 5)).block, (ad290.add ((x8_2).toNat * 5)).off + 1, none⟩ = some (.int .i64 ((rd_T141 l1 x8_2).f0.f1)) ∧ w'.cell? ⟨(ad290.add ((x8_2).toNat * 5)).block, (ad290.add ((x8_2).toNat * 5)).off + 2, none⟩ = some (.bool ((rd_T141 l1 x8_2).f1)) ∧ w'.cell? ⟨(ad290.add ((x8_2).toNat * 5)).block, (ad290.add ((x8_2).toNat * 5)).off + 3, none⟩ = some (.int .i64 ((rd_T141 l1 x8_2).f2.f0)) ∧ w'.cell? ⟨(ad290.add ((x8_2).toNat * 5)).block, (ad290.add ((x8_2).toNat * 5)).off + 4, none⟩ = some (.int .i64 ((rd_T141 l1 x8_2).f2.f1)) ∧ w'.cell? (ad289.add ((x8_2).toNat * 7)) = some (.int .i64 ((rd_T27 l0 x8_2).f0.f0)) ∧ w'.cell? ⟨(ad289.add ((x8_2).toNat * 7)).block, (ad289.add ((x8_2).toNat * 7)).off + 1, none⟩ = some (.int .i64 ((rd_T27 l0 x8_2).f0.f1)) ∧ w'.cell? ⟨(ad289.add ((x8_2).toNat * 7)).block, (ad289.add ((x8_2).toNat * 7)).off + 2, none⟩ = some (.int .i64 ((rd_T27 l0 x8_2).f1.f0)) ∧ w'.cell? ⟨(ad289.add ((x8_2).toNat * 7)).block, (ad289.add ((x8_2).toNat * 7)).off + 3, none⟩ = some (.int .i64 ((rd_T27 l0 x8_2).f1.f1)) ∧ w'.cell? ⟨(ad289.add ((x8_2).toNat * 7)).block, (ad289.add ((x8_2).toNat * 7)).off + 4, none⟩ = some (.int .i64 ((rd_T27 l0 x8_2).f2)) ∧ w'.cell? ⟨(ad289.add ((x8_2).toNat * 7)).block, (ad289.add ((x8_2).toNat * 7)).off + 5, none⟩ = some (.int .i64 ((rd_T27 l0 x8_2).f3)) ∧ w'.cell? ⟨(ad289.add ((x8_2).toNat * 7)).block, (ad289.add ((x8_2).toNat * 7)).off + 6, none⟩ = some (.bool ((rd_T27 l0 x8_2).f4)) ∧ w'.cell? (ad290.add ((x8_2).toNat * 5)) = some (.int .i64 ((rd_T141 l1 x8_2).f0.f0)) ∧ w'.cell? ⟨(ad290.add ((x8_2).toNat * 5)).block, (ad290.add ((x8_2).toNat * 5)).off + 1, none⟩ = some (.int .i64 ((rd_T141 l1 x8_2).f0.f1)) ∧ w'.cell? ⟨(ad290.add ((x8_2).toNat * 5)).block, (ad290.add ((x8_2).toNat * 5)).off + 2, none⟩ = some (.bool ((rd_T141 l1 x8_2).f1)) ∧ w'.cell? ⟨(ad290.add ((x8_2).toNat * 5)).block, (ad290.add ((x8_2).toNat * 5)).off + 3, none⟩ = some (.int .i64 ((rd_T141 l1 x8_2).f2.f0)) ∧ w'.cell? ⟨(ad290.add ((x8_2).toNat * 5)).block, (ad290.add ((x8_2).toNat * 5)).off + 4, none⟩ = some (.int .i64 ((rd_T141 l1 x8_2).f2.f1))) (ds := []) #[false, false, false, false, false, false, false, false, false, false, false, false, false, false, false, false, false, false, false, false, false, false, false, false] (by kernel_rfl) rfl rfl ⟨((HB.out.cell (World.block_lt_of_cell? w _ hw289_0)).trans hw289_0), ((HB.out.cell (World.block_lt_of_cell? w _ hw289_1)).trans hw289_1), ((HB.out.cell (World.block_lt_of_cell? w _ hw289_2)).trans hw289_2), ((HB.out.cell (World.block_lt_of_cell? w _ hw289_3)).trans hw289_3), ((HB.out.cell (World.block_lt_of_cell? w _ hw289_4)).trans hw289_4), ((HB.out.cell (World.block_lt_of_cell? w _ hw289_5)).trans hw289_5), ((HB.out.cell (World.block_lt_of_cell? w _ hw289_6)).trans hw289_6), ((HB.out.cell (World.block_lt_of_cell? w _ hw290_0)).trans hw290_0), ((HB.out.cell (World.block_lt_of_cell? w _ hw290_1)).trans hw290_1), ((HB.out.cell (World.block_lt_of_cell? w _ hw290_2)).trans hw290_2), ((HB.out.cell (World.block_lt_of_cell? w _ hw290_3)).trans hw290_3), ((HB.out.cell (World.block_lt_of_cell? w _ hw290_4)).trans hw290_4), ((HB.out.cell (World.block_lt_of_cell? w _ hw292_0)).trans hw292_0), ((HB.out.cell (World.block_lt_of_cell? w _ hw292_1)).trans hw292_1), ((HB.out.cell (World.block_lt_of_cell? w _ hw292_2)).trans hw292_2), ((HB.out.cell (World.block_lt_of_cell? w _ hw292_3)).trans hw292_3), ((HB.out.cell (World.block_lt_of_cell? w _ hw292_4)).trans hw292_4), ((HB.out.cell (World.block_lt_of_cell? w _ hw292_5)).trans hw292_5), ((HB.out.cell (World.block_lt_of_cell? w _ hw292_6)).trans hw292_6), ((HB.out.cell (World.block_lt_of_cell? w _ hw293_0)).trans hw293_0), ((HB.out.cell (World.block_lt_of_cell? w _ hw293_1)).trans hw293_1), ((HB.out.cell (World.block_lt_of_cell? w _ hw293_2)).trans hw293_2), ((HB.out.cell (World.block_lt_of_cell? w _ hw293_3)).trans hw293_3), ((HB.out.cell (World.block_lt_of_cell? w _ hw293_4)).trans hw293_4)⟩ (fun hHeld => ?_); refine with_tabW metrolabref47_Safe.tab17 metrolabref47_Safe.bits17 (fun HT_ HW_ => ?_)
                          generalize wr.drew = w30 at HB hx289_0 hx289_1 hx289_2 hx289_3 hx289_4 hx289_5 hx289_6 hx290_0 hx290_1 hx290_2 hx290_3 hx290_4 hx292_0 hx292_1 hx292_2 hx292_3 hx292_4 hx292_5 hx292_6 hx293_0 hx293_1 hx293_2 hx293_3 hx293_4 hHeld ⊢
                          refine pure_ (i := 0) (N := some 63) (v := ?_) (a' := ?_) #[true, false, false, false, false, false, false, false, false, false, false, false, false, false, false, false, false, false, false, false, false, false, false, false] rfl rfl (any_of HT_.out (by kernel_rfl)) (fun _ _ _ h => h) (Or.inl ⟨by rfl, ?_⟩) ?_ ?_
                          rotate_left
                          · intro w'
                            go_simp
                            with_reducible rfl
                          rotate_left
                          · simp only [Act.put, List.setIfInBounds_toArray, List.set_cons_zero, List.set_cons_succ, i64_w, i32_w]
                            rfl
                          refine pure_ (i := 1) (N := some 64) (v := ?_) (a' := ?_) #[true, true, false, false, false, false, false, false, false, false, false, false, false, false, false, false, false, false, false, false, false, false, false, false] rfl rfl (any_of HT_.out (by kernel_rfl)) (fun _ _ _ h => h) (Or.inl ⟨by rfl, ?_⟩) ?_ ?_
                          rotate_left
                          · intro w'
                            go_simp
                            with_reducible rfl
                          rotate_left
                          · simp only [Act.put, List.setIfInBounds_toArray, List.set_cons_zero, List.set_cons_succ, i64_w, i32_w]
                            rfl
                          refine pure_ (i := 2) (N := some 65) (v := ?_) (a' := ?_) #[true, true, true, false, false, false, false, false, false, false, false, false, false, false, false, false, false, false, false, false, false, false, false, false] rfl rfl (any_of HT_.out (by kernel_rfl)) (fun _ _ _ h => h) (Or.inl ⟨by rfl, ?_⟩) ?_ ?_
                          rotate_left
                          · intro w'
                            go_simp
                            with_reducible rfl
                          rotate_left
                          · simp only [Act.put, List.setIfInBounds_toArray, List.set_cons_zero, List.set_cons_succ, i64_w, i32_w]
                            rfl
                          refine pure_ (i := 4) (N := some 67) (v := ?_) (a' := ?_) #[true, true, true, false, true, false, false, false, false, false, false, false, false, false, false, false, false, false, false, false, false, false, false, false] rfl rfl (any_of HT_.out (by kernel_rfl)) (fun _ _ _ h => h) (Or.inl ⟨by rfl, ?_⟩) ?_ ?_
                          rotate_left
                          · intro w'
                            go_simp
                            with_reducible rfl
                          rotate_left
                          · simp only [Act.put, List.setIfInBounds_toArray, List.set_cons_zero, List.set_cons_succ, i64_w, i32_w]
                            rfl
                          refine pure_ (i := 5) (N := some 68) (v := ?_) (a' := ?_) #[true, true, true, false, true, true, false, false, false, false, false, false, false, false, false, false, false, false, false, false, false, false, false, false] rfl rfl (any_of HT_.out (by kernel_rfl)) (fun _ _ _ h => h) (Or.inl ⟨by rfl, ?_⟩) ?_ ?_
                          rotate_left
                          · intro w'
                            go_simp
                            with_reducible rfl
                          rotate_left
                          · simp only [Act.put, List.setIfInBounds_toArray, List.set_cons_zero, List.set_cons_succ, i64_w, i32_w]
                            rfl
                          refine pure_ (i := 6) (N := some 69) (v := ?_) (a' := ?_) #[true, true, true, false, true, true, true, false, false, false, false, false, false, false, false, false, false, false, false, false, false, false, false, false] rfl rfl (any_of HT_.out (by kernel_rfl)) (fun _ _ _ h => h) (Or.inl ⟨by rfl, ?_⟩) ?_ ?_
                          rotate_left
                          · intro w'
                            go_simp
                            with_reducible rfl
                          rotate_left
                          · simp only [Act.put, List.setIfInBounds_toArray, List.set_cons_zero, List.set_cons_succ, i64_w, i32_w]
                            rfl
                          refine pure_ (i := 7) (N := some 70) (v := ?_) (a' := ?_) #[true, true, true, false, true, true, true, true, false, false, false, false, false, false, false, false, false, false, false, false, false, false, false, false] rfl rfl (any_of HT_.out (by kernel_rfl)) (fun _ _ _ h => h) (Or.inl ⟨by rfl, ?_⟩) ?_ ?_
                          rotate_left
                          · intro w'
                            go_simp
                            with_reducible rfl
                          rotate_left
                          · simp only [Act.put, List.setIfInBounds_toArray, List.set_cons_zero, List.set_cons_succ, i64_w, i32_w]
                            rfl
                          refine pure_ (i := 8) (N := some 71) (v := ?_) (a' := ?_) #[true, true, true, false, true, true, true, true, true, false, false, false, false, false, false, false, false, false, false, false, false, false, false, false] rfl rfl (any_of HT_.out (by kernel_rfl)) (fun _ _ _ h => h) (Or.inl ⟨by rfl, ?_⟩) ?_ ?_
                          rotate_left
                          · intro w'
                            go_simp
                            with_reducible rfl
                          rotate_left
                          · simp only [Act.put, List.setIfInBounds_toArray, List.set_cons_zero, List.set_cons_succ, i64_w, i32_w]
                            rfl
                          refine take_ (i := 3) (N := some 66) (v := ?_) (a' := ?_) #[true, true, true, true, true, true, true, true, true, false, false, false, false, false, false, false, false, false, false, false, false, false, false, false] rfl rfl (take_ofW HT_.out HW_.out (by kernel_rfl)) (fun _ _ _ h => h) (Or.inl ⟨by rfl, ?_⟩) hHeld ?_ ?_
                          rotate_left
                          · rintro w' ⟨s0, s1, s2, s3, s4, s5, s6, s7, s8, s9, s10, s11, s12, s13, s14, s15, s16, s17, s18, s19, s20, s21, s22, s23⟩
                            go_simp
                            with_reducible rfl
                          rotate_left
                          · simp only [Act.put, List.setIfInBounds_toArray, List.set_cons_zero, List.set_cons_succ, i64_w, i32_w]
                            rfl
                          refine take_ (i := 9) (N := some 72) (v := ?_) (a' := ?_) #[true, true, true, true, true, true, true, true, true, true, false, false, false, false, false, false, false, false, false, false, false, false, false, false] rfl rfl (take_ofW HT_.out HW_.out (by kernel_rfl)) (fun _ _ _ h => h) (Or.inl ⟨by rfl, ?_⟩) hHeld ?_ ?_
                          rotate_left
                          · rintro w' ⟨s0, s1, s2, s3, s4, s5, s6, s7, s8, s9, s10, s11, s12, s13, s14, s15, s16, s17, s18, s19, s20, s21, s22, s23⟩
                            go_simp
                            with_reducible rfl
                          rotate_left
                          · simp only [Act.put, List.setIfInBounds_toArray, List.set_cons_zero, List.set_cons_succ, i64_w, i32_w]
                            rfl
                          refine one_ (i := 10) (N := some 73) #[true, true, true, true, true, true, true, true, true, true, true, false, false, false, false, false, false, false, false, false, false, false, false, false] rfl rfl (one_of HT_.out (by kernel_rfl)) (by decide) (fun K hK => ?_)
                          refine goes_ Tryd.func102 (by kernel_rfl) rfl #[.agg #[.int .i64 ((rd_T27 l0 x8_2).f0.f0), .int .i64 ((rd_T27 l0 x8_2).f0.f1), .int .i64 ((rd_T27 l0 x8_2).f1.f0), .int .i64 ((rd_T27 l0 x8_2).f1.f1), .int .i64 ((rd_T27 l0 x8_2).f2), .int .i64 ((rd_T27 l0 x8_2).f3), .bool ((rd_T27 l0 x8_2).f4)], .int .i64 ((rd_T141 l1 x8_2).f2.f0)] (by rfl) rfl rfl (by (try simp only [List.map_toArray, List.map_cons, List.map_nil]); first | done | rfl | (simp only [List.length_drop, List.length_take]; rfl)) ?_
                          with_reducible refine (metrolabref47_Beyond.calls ((rd_T27 l0 x8_2).f0.f0) ((rd_T27 l0 x8_2).f0.f1) ((rd_T27 l0 x8_2).f1.f0) ((rd_T27 l0 x8_2).f1.f1) ((rd_T27 l0 x8_2).f2) ((rd_T27 l0 x8_2).f3) ((rd_T27 l0 x8_2).f4) ((rd_T141 l1 x8_2).f2.f0) false _ A24.out).mono ?_
                          rintro e w31 ⟨rfl, hb⟩
                          refine ⟨_, rfl, ?_⟩
                          have n0_ := Aside0.mk (below_step (by repeat (first | (with_reducible first | exact HB.out | apply below_alloc | apply pw_below_drewN | apply below_drew1) | exact HB.out)) hb)
                          clear HB
                          have HB := n0_
                          clear n0_
                          (try clear hb)
                          (try clear hb2)
                          (try clear hk)
                          (try clear hi)
                          refine hK.out _ _ ⟨((HB.out.cell (World.block_lt_of_cell? w _ hw289_0)).trans hw289_0), ((HB.out.cell (World.block_lt_of_cell? w _ hw289_1)).trans hw289_1), ((HB.out.cell (World.block_lt_of_cell? w _ hw289_2)).trans hw289_2), ((HB.out.cell (World.block_lt_of_cell? w _ hw289_3)).trans hw289_3), ((HB.out.cell (World.block_lt_of_cell? w _ hw289_4)).trans hw289_4), ((HB.out.cell (World.block_lt_of_cell? w _ hw289_5)).trans hw289_5), ((HB.out.cell (World.block_lt_of_cell? w _ hw289_6)).trans hw289_6), ((HB.out.cell (World.block_lt_of_cell? w _ hw290_0)).trans hw290_0), ((HB.out.cell (World.block_lt_of_cell? w _ hw290_1)).trans hw290_1), ((HB.out.cell (World.block_lt_of_cell? w _ hw290_2)).trans hw290_2), ((HB.out.cell (World.block_lt_of_cell? w _ hw290_3)).trans hw290_3), ((HB.out.cell (World.block_lt_of_cell? w _ hw290_4)).trans hw290_4), ((HB.out.cell (World.block_lt_of_cell? w _ hw292_0)).trans hw292_0), ((HB.out.cell (World.block_lt_of_cell? w _ hw292_1)).trans hw292_1), ((HB.out.cell (World.block_lt_of_cell? w _ hw292_2)).trans hw292_2), ((HB.out.cell (World.block_lt_of_cell? w _ hw292_3)).trans hw292_3), ((HB.out.cell (World.block_lt_of_cell? w _ hw292_4)).trans hw292_4), ((HB.out.cell (World.block_lt_of_cell? w _ hw292_5)).trans hw292_5), ((HB.out.cell (World.block_lt_of_cell? w _ hw292_6)).trans hw292_6), ((HB.out.cell (World.block_lt_of_cell? w _ hw293_0)).trans hw293_0), ((HB.out.cell (World.block_lt_of_cell? w _ hw293_1)).trans hw293_1), ((HB.out.cell (World.block_lt_of_cell? w _ hw293_2)).trans hw293_2), ((HB.out.cell (World.block_lt_of_cell? w _ hw293_3)).trans hw293_3), ((HB.out.cell (World.block_lt_of_cell? w _ hw293_4)).trans hw293_4)⟩ (fun hHeld => ?_)
                          clear hK K
                          refine norm_ (a' := ?_) ?_ ?_
                          rotate_left
                          · show Act.put _ (some 73) _ = _
                            simp only [Act.put, List.setIfInBounds_toArray, List.set_cons_zero, List.set_cons_succ, i64_w, i32_w]
                            rfl
                          refine pure_ (i := 11) (N := some 74) (v := ?_) (a' := ?_) #[true, true, true, true, true, true, true, true, true, true, true, true, false, false, false, false, false, false, false, false, false, false, false, false] rfl rfl (any_of HT_.out (by kernel_rfl)) (fun _ _ _ h => h) (Or.inl ⟨by rfl, ?_⟩) ?_ ?_
                          rotate_left
                          · intro w'
                            go_simp
                            with_reducible rfl
                          rotate_left
                          · simp only [Act.put, List.setIfInBounds_toArray, List.set_cons_zero, List.set_cons_succ, i64_w, i32_w]
                            rfl
                          refine pure_ (i := 12) (N := some 75) (v := ?_) (a' := ?_) #[true, true, true, true, true, true, true, true, true, true, true, true, true, false, false, false, false, false, false, false, false, false, false, false] rfl rfl (any_of HT_.out (by kernel_rfl)) (fun _ _ _ h => h) (Or.inl ⟨by rfl, ?_⟩) ?_ ?_
                          rotate_left
                          · intro w'
                            go_simp
                            with_reducible rfl
                          rotate_left
                          · simp only [Act.put, List.setIfInBounds_toArray, List.set_cons_zero, List.set_cons_succ, i64_w, i32_w]
                            rfl
                          refine pure_ (i := 13) (N := some 76) (v := ?_) (a' := ?_) #[true, true, true, true, true, true, true, true, true, true, true, true, true, true, false, false, false, false, false, false, false, false, false, false] rfl rfl (any_of HT_.out (by kernel_rfl)) (fun _ _ _ h => h) (Or.inl ⟨by rfl, ?_⟩) ?_ ?_
                          rotate_left
                          · intro w'
                            go_simp
                            with_reducible rfl
                          rotate_left
                          · simp only [Act.put, List.setIfInBounds_toArray, List.set_cons_zero, List.set_cons_succ, i64_w, i32_w]
                            rfl
                          refine pure_ (i := 14) (N := some 77) (v := ?_) (a' := ?_) #[true, true, true, true, true, true, true, true, true, true, true, true, true, true, true, false, false, false, false, false, false, false, false, false] rfl rfl (any_of HT_.out (by kernel_rfl)) (fun _ _ _ h => h) (Or.inl ⟨by rfl, ?_⟩) ?_ ?_
                          rotate_left
                          · intro w'
                            go_simp
                            with_reducible rfl
                          rotate_left
                          · simp only [Act.put, List.setIfInBounds_toArray, List.set_cons_zero, List.set_cons_succ, i64_w, i32_w]
                            rfl
                          refine pure_ (i := 16) (N := some 79) (v := ?_) (a' := ?_) #[true, true, true, true, true, true, true, true, true, true, true, true, true, true, true, false, true, false, false, false, false, false, false, false] rfl rfl (any_of HT_.out (by kernel_rfl)) (fun _ _ _ h => h) (Or.inl ⟨by rfl, ?_⟩) ?_ ?_
                          rotate_left
                          · intro w'
                            go_simp
                            with_reducible rfl
                          rotate_left
                          · simp only [Act.put, List.setIfInBounds_toArray, List.set_cons_zero, List.set_cons_succ, i64_w, i32_w]
                            rfl
                          refine pure_ (i := 17) (N := some 80) (v := ?_) (a' := ?_) #[true, true, true, true, true, true, true, true, true, true, true, true, true, true, true, false, true, true, false, false, false, false, false, false] rfl rfl (any_of HT_.out (by kernel_rfl)) (fun _ _ _ h => h) (Or.inl ⟨by rfl, ?_⟩) ?_ ?_
                          rotate_left
                          · intro w'
                            go_simp
                            with_reducible rfl
                          rotate_left
                          · simp only [Act.put, List.setIfInBounds_toArray, List.set_cons_zero, List.set_cons_succ, i64_w, i32_w]
                            rfl
                          refine pure_ (i := 18) (N := some 81) (v := ?_) (a' := ?_) #[true, true, true, true, true, true, true, true, true, true, true, true, true, true, true, false, true, true, true, false, false, false, false, false] rfl rfl (any_of HT_.out (by kernel_rfl)) (fun _ _ _ h => h) (Or.inl ⟨by rfl, ?_⟩) ?_ ?_
                          rotate_left
                          · intro w'
                            go_simp
                            with_reducible rfl
                          rotate_left
                          · simp only [Act.put, List.setIfInBounds_toArray, List.set_cons_zero, List.set_cons_succ, i64_w, i32_w]
                            rfl
                          refine pure_ (i := 19) (N := some 82) (v := ?_) (a' := ?_) #[true, true, true, true, true, true, true, true, true, true, true, true, true, true, true, false, true, true, true, true, false, false, false, false] rfl rfl (any_of HT_.out (by kernel_rfl)) (fun _ _ _ h => h) (Or.inl ⟨by rfl, ?_⟩) ?_ ?_
                          rotate_left
                          · intro w'
                            go_simp
                            with_reducible rfl
                          rotate_left
                          · simp only [Act.put, List.setIfInBounds_toArray, List.set_cons_zero, List.set_cons_succ, i64_w, i32_w]
                            rfl
                          refine pure_ (i := 20) (N := some 83) (v := ?_) (a' := ?_) #[true, true, true, true, true, true, true, true, true, true, true, true, true, true, true, false, true, true, true, true, true, false, false, false] rfl rfl (any_of HT_.out (by kernel_rfl)) (fun _ _ _ h => h) (Or.inl ⟨by rfl, ?_⟩) ?_ ?_
                          rotate_left
                          · intro w'
                            go_simp
                            with_reducible rfl
                          rotate_left
                          · simp only [Act.put, List.setIfInBounds_toArray, List.set_cons_zero, List.set_cons_succ, i64_w, i32_w]
                            rfl
                          refine take_ (i := 15) (N := some 78) (v := ?_) (a' := ?_) #[true, true, true, true, true, true, true, true, true, true, true, true, true, true, true, true, true, true, true, true, true, false, false, false] rfl rfl (take_ofW HT_.out HW_.out (by kernel_rfl)) (fun _ _ _ h => h) (Or.inl ⟨by rfl, ?_⟩) hHeld ?_ ?_
                          rotate_left
                          · rintro w' ⟨s0, s1, s2, s3, s4, s5, s6, s7, s8, s9, s10, s11, s12, s13, s14, s15, s16, s17, s18, s19, s20, s21, s22, s23⟩
                            go_simp
                            with_reducible rfl
                          rotate_left
                          · simp only [Act.put, List.setIfInBounds_toArray, List.set_cons_zero, List.set_cons_succ, i64_w, i32_w]
                            rfl
                          refine take_ (i := 21) (N := some 84) (v := ?_) (a' := ?_) #[true, true, true, true, true, true, true, true, true, true, true, true, true, true, true, true, true, true, true, true, true, true, false, false] rfl rfl (take_ofW HT_.out HW_.out (by kernel_rfl)) (fun _ _ _ h => h) (Or.inl ⟨by rfl, ?_⟩) hHeld ?_ ?_
                          rotate_left
                          · rintro w' ⟨s0, s1, s2, s3, s4, s5, s6, s7, s8, s9, s10, s11, s12, s13, s14, s15, s16, s17, s18, s19, s20, s21, s22, s23⟩
                            go_simp
                            with_reducible rfl
                          rotate_left
                          · simp only [Act.put, List.setIfInBounds_toArray, List.set_cons_zero, List.set_cons_succ, i64_w, i32_w]
                            rfl
                          refine one_ (i := 22) (N := some 85) #[true, true, true, true, true, true, true, true, true, true, true, true, true, true, true, true, true, true, true, true, true, true, true, false] rfl rfl (one_of HT_.out (by kernel_rfl)) (by decide) (fun K hK => ?_)
                          refine goes_ Tryd.func102 (by kernel_rfl) rfl #[.agg #[.int .i64 ((rd_T27 l0 x8_2).f0.f0), .int .i64 ((rd_T27 l0 x8_2).f0.f1), .int .i64 ((rd_T27 l0 x8_2).f1.f0), .int .i64 ((rd_T27 l0 x8_2).f1.f1), .int .i64 ((rd_T27 l0 x8_2).f2), .int .i64 ((rd_T27 l0 x8_2).f3), .bool ((rd_T27 l0 x8_2).f4)], .int .i64 ((rd_T141 l1 x8_2).f2.f1)] (by rfl) rfl rfl (by (try simp only [List.map_toArray, List.map_cons, List.map_nil]); first | done | rfl | (simp only [List.length_drop, List.length_take]; rfl)) ?_
                          with_reducible refine (metrolabref47_Beyond.calls ((rd_T27 l0 x8_2).f0.f0) ((rd_T27 l0 x8_2).f0.f1) ((rd_T27 l0 x8_2).f1.f0) ((rd_T27 l0 x8_2).f1.f1) ((rd_T27 l0 x8_2).f2) ((rd_T27 l0 x8_2).f3) ((rd_T27 l0 x8_2).f4) ((rd_T141 l1 x8_2).f2.f1) true _ A28.out).mono ?_
                          rintro e w32 ⟨rfl, hb⟩
                          refine ⟨_, rfl, ?_⟩
                          have n0_ := Aside0.mk (below_step (by repeat (first | (with_reducible first | exact HB.out | apply below_alloc | apply pw_below_drewN | apply below_drew1) | exact HB.out)) hb)
                          clear HB
                          have HB := n0_
                          clear n0_
                          (try clear hb)
                          (try clear hb2)
                          (try clear hk)
                          (try clear hi)
                          refine hK.out _ _ ⟨((HB.out.cell (World.block_lt_of_cell? w _ hw289_0)).trans hw289_0), ((HB.out.cell (World.block_lt_of_cell? w _ hw289_1)).trans hw289_1), ((HB.out.cell (World.block_lt_of_cell? w _ hw289_2)).trans hw289_2), ((HB.out.cell (World.block_lt_of_cell? w _ hw289_3)).trans hw289_3), ((HB.out.cell (World.block_lt_of_cell? w _ hw289_4)).trans hw289_4), ((HB.out.cell (World.block_lt_of_cell? w _ hw289_5)).trans hw289_5), ((HB.out.cell (World.block_lt_of_cell? w _ hw289_6)).trans hw289_6), ((HB.out.cell (World.block_lt_of_cell? w _ hw290_0)).trans hw290_0), ((HB.out.cell (World.block_lt_of_cell? w _ hw290_1)).trans hw290_1), ((HB.out.cell (World.block_lt_of_cell? w _ hw290_2)).trans hw290_2), ((HB.out.cell (World.block_lt_of_cell? w _ hw290_3)).trans hw290_3), ((HB.out.cell (World.block_lt_of_cell? w _ hw290_4)).trans hw290_4), ((HB.out.cell (World.block_lt_of_cell? w _ hw292_0)).trans hw292_0), ((HB.out.cell (World.block_lt_of_cell? w _ hw292_1)).trans hw292_1), ((HB.out.cell (World.block_lt_of_cell? w _ hw292_2)).trans hw292_2), ((HB.out.cell (World.block_lt_of_cell? w _ hw292_3)).trans hw292_3), ((HB.out.cell (World.block_lt_of_cell? w _ hw292_4)).trans hw292_4), ((HB.out.cell (World.block_lt_of_cell? w _ hw292_5)).trans hw292_5), ((HB.out.cell (World.block_lt_of_cell? w _ hw292_6)).trans hw292_6), ((HB.out.cell (World.block_lt_of_cell? w _ hw293_0)).trans hw293_0), ((HB.out.cell (World.block_lt_of_cell? w _ hw293_1)).trans hw293_1), ((HB.out.cell (World.block_lt_of_cell? w _ hw293_2)).trans hw293_2), ((HB.out.cell (World.block_lt_of_cell? w _ hw293_3)).trans hw293_3), ((HB.out.cell (World.block_lt_of_cell? w _ hw293_4)).trans hw293_4)⟩ (fun hHeld => ?_)
                          clear hK K
                          refine norm_ (a' := ?_) ?_ ?_
                          rotate_left
                          · show Act.put _ (some 85) _ = _
                            simp only [Act.put, List.setIfInBounds_toArray, List.set_cons_zero, List.set_cons_succ, i64_w, i32_w]
                            rfl
                          refine pure_ (i := 23) (N := some 86) (v := ?_) (a' := ?_) #[true, true, true, true, true, true, true, true, true, true, true, true, true, true, true, true, true, true, true, true, true, true, true, true] rfl rfl (any_of HT_.out (by kernel_rfl)) (fun _ _ _ h => h) (Or.inl ⟨by rfl, ?_⟩) ?_ ?_
                          rotate_left
                          · intro w'
                            go_simp
                            with_reducible rfl
                          rotate_left
                          · simp only [Act.put, List.setIfInBounds_toArray, List.set_cons_zero, List.set_cons_succ, i64_w, i32_w]
                            rfl
                          refine done_ (done_of HT_.out (by kernel_rfl)) ?_
                          try go_wp2
                          go_ret
                          exact ⟨by first | rfl | (simp [errW_none, errW_some] <;> rfl) | (simp [*, errW_none, errW_some] <;> rfl), by repeat (first | (with_reducible first | exact HB.out | apply below_alloc | apply pw_below_drewN | apply below_drew1) | exact HB.out)⟩
                        · replace c29 := Bool.eq_false_iff.mpr c29
                          subst c29
                          have H1 : (metrolabref47_Safe.l1 k2 l0 l1 (wrap64 (x8_2 + 1))) = some r := by rw [if_neg (show ¬ (false = true) by decide)] at H; exact H
                          clear H
                          have H := H1
                          clear H1
                          have H' := Aside0.mk H
                          clear H
                          try go_wp2
                          have n0_ := Aside0.mk (below_drew1 HB.out)
                          clear HB
                          have HB := n0_
                          clear n0_
                          have p289 : 0 ≤ (x8_2 : Int) := of_decide_eq_true (by first | (with_reducible assumption) | assumption)
                          have q289 : x8_2 < (l0.length : Int) := of_decide_eq_true (by first | (with_reducible assumption) | assumption)
                          obtain ⟨ad289, e289, hx289_0, hx289_1, hx289_2, hx289_3, hx289_4, hx289_5, hx289_6⟩ := at_T27 HR0.out x8_2 p289 q289
                          have hw289_6 := hx289_6
                          have hw289_5 := hx289_5
                          have hw289_4 := hx289_4
                          have hw289_3 := hx289_3
                          have hw289_2 := hx289_2
                          have hw289_1 := hx289_1
                          have hw289_0 := hx289_0
                          cases e289
                          replace hx289_0 := (HB.out.cell (World.block_lt_of_cell? w _ hx289_0)).trans hx289_0
                          replace hx289_1 := (HB.out.cell (World.block_lt_of_cell? w _ hx289_1)).trans hx289_1
                          replace hx289_2 := (HB.out.cell (World.block_lt_of_cell? w _ hx289_2)).trans hx289_2
                          replace hx289_3 := (HB.out.cell (World.block_lt_of_cell? w _ hx289_3)).trans hx289_3
                          replace hx289_4 := (HB.out.cell (World.block_lt_of_cell? w _ hx289_4)).trans hx289_4
                          replace hx289_5 := (HB.out.cell (World.block_lt_of_cell? w _ hx289_5)).trans hx289_5
                          replace hx289_6 := (HB.out.cell (World.block_lt_of_cell? w _ hx289_6)).trans hx289_6
                          replace p289 := eq_true p289
                          replace q289 := eq_true q289
                          have p290 : 0 ≤ (x8_2 : Int) := of_decide_eq_true (by first | (with_reducible assumption) | assumption)
                          have q290 : x8_2 < (l1.length : Int) := of_decide_eq_true (by first | (with_reducible assumption) | assumption)
                          obtain ⟨ad290, e290, hx290_0, hx290_1, hx290_2, hx290_3, hx290_4⟩ := at_T141 HR1.out x8_2 p290 q290
                          have hw290_4 := hx290_4
                          have hw290_3 := hx290_3
                          have hw290_2 := hx290_2
                          have hw290_1 := hx290_1
                          have hw290_0 := hx290_0
                          cases e290
                          replace hx290_0 := (HB.out.cell (World.block_lt_of_cell? w _ hx290_0)).trans hx290_0
                          replace hx290_1 := (HB.out.cell (World.block_lt_of_cell? w _ hx290_1)).trans hx290_1
                          replace hx290_2 := (HB.out.cell (World.block_lt_of_cell? w _ hx290_2)).trans hx290_2
                          replace hx290_3 := (HB.out.cell (World.block_lt_of_cell? w _ hx290_3)).trans hx290_3
                          replace hx290_4 := (HB.out.cell (World.block_lt_of_cell? w _ hx290_4)).trans hx290_4
                          replace p290 := eq_true p290
                          replace q290 := eq_true q290
                          have p292 : 0 ≤ (x8_2 : Int) := of_decide_eq_true (by first | (with_reducible assumption) | assumption)
                          have q292 : x8_2 < (l0.length : Int) := of_decide_eq_true (by first | (with_reducible assumption) | assumption)
                          obtain ⟨ad292, e292, hx292_0, hx292_1, hx292_2, hx292_3, hx292_4, hx292_5, hx292_6⟩ := at_T27 HR0.out x8_2 p292 q292
                          have hw292_6 := hx292_6
                          have hw292_5 := hx292_5
                          have hw292_4 := hx292_4
                          have hw292_3 := hx292_3
                          have hw292_2 := hx292_2
                          have hw292_1 := hx292_1
                          have hw292_0 := hx292_0
                          obtain rfl : ad289 = ad292 := (by injection e292)
                          replace hx292_0 := (HB.out.cell (World.block_lt_of_cell? w _ hx292_0)).trans hx292_0
                          replace hx292_1 := (HB.out.cell (World.block_lt_of_cell? w _ hx292_1)).trans hx292_1
                          replace hx292_2 := (HB.out.cell (World.block_lt_of_cell? w _ hx292_2)).trans hx292_2
                          replace hx292_3 := (HB.out.cell (World.block_lt_of_cell? w _ hx292_3)).trans hx292_3
                          replace hx292_4 := (HB.out.cell (World.block_lt_of_cell? w _ hx292_4)).trans hx292_4
                          replace hx292_5 := (HB.out.cell (World.block_lt_of_cell? w _ hx292_5)).trans hx292_5
                          replace hx292_6 := (HB.out.cell (World.block_lt_of_cell? w _ hx292_6)).trans hx292_6
                          replace p292 := eq_true p292
                          replace q292 := eq_true q292
                          have p293 : 0 ≤ (x8_2 : Int) := of_decide_eq_true (by first | (with_reducible assumption) | assumption)
                          have q293 : x8_2 < (l1.length : Int) := of_decide_eq_true (by first | (with_reducible assumption) | assumption)
                          obtain ⟨ad293, e293, hx293_0, hx293_1, hx293_2, hx293_3, hx293_4⟩ := at_T141 HR1.out x8_2 p293 q293
                          have hw293_4 := hx293_4
                          have hw293_3 := hx293_3
                          have hw293_2 := hx293_2
                          have hw293_1 := hx293_1
                          have hw293_0 := hx293_0
                          obtain rfl : ad290 = ad293 := (by injection e293)
                          replace hx293_0 := (HB.out.cell (World.block_lt_of_cell? w _ hx293_0)).trans hx293_0
                          replace hx293_1 := (HB.out.cell (World.block_lt_of_cell? w _ hx293_1)).trans hx293_1
                          replace hx293_2 := (HB.out.cell (World.block_lt_of_cell? w _ hx293_2)).trans hx293_2
                          replace hx293_3 := (HB.out.cell (World.block_lt_of_cell? w _ hx293_3)).trans hx293_3
                          replace hx293_4 := (HB.out.cell (World.block_lt_of_cell? w _ hx293_4)).trans hx293_4
                          replace p293 := eq_true p293
                          replace q293 := eq_true q293
                          refine start_ (n := 24) (S := fun w' => w'.cell? (ad289.add ((x8_2).toNat * 7)) = some (.int .i64 ((rd_T27 l0 x8_2).f0.f0)) ∧ w'.cell? ⟨(ad289.add ((x8_2).toNat * 7)).block, (ad289.add ((x8_2).toNat * 7)).off + 1, none⟩ = some (.int .i64 ((rd_T27 l0 x8_2).f0.f1)) ∧ w'.cell? ⟨(ad289.add ((x8_2).toNat * 7)).block, (ad289.add ((x8_2).toNat * 7)).off + 2, none⟩ = some (.int .i64 ((rd_T27 l0 x8_2).f1.f0)) ∧ w'.cell? ⟨(ad289.add ((x8_2).toNat * 7)).block, (ad289.add ((x8_2).toNat * 7)).off + 3, none⟩ = some (.int .i64 ((rd_T27 l0 x8_2).f1.f1)) ∧ w'.cell? ⟨(ad289.add ((x8_2).toNat * 7)).block, (ad289.add ((x8_2).toNat * 7)).off + 4, none⟩ = some (.int .i64 ((rd_T27 l0 x8_2).f2)) ∧ w'.cell? ⟨(ad289.add ((x8_2).toNat * 7)).block, (ad289.add ((x8_2).toNat * 7)).off + 5, none⟩ = some (.int .i64 ((rd_T27 l0 x8_2).f3)) ∧ w'.cell? ⟨(ad289.add ((x8_2).toNat * 7)).block, (ad289.add ((x8_2).toNat * 7)).off + 6, none⟩ = some (.bool ((rd_T27 l0 x8_2).f4)) ∧ w'.cell? (ad290.add ((x8_2).toNat * 5)) = some (.int .i64 ((rd_T141 l1 x8_2).f0.f0)) ∧ w'.cell? ⟨(ad290.add ((x8_2).toNat * 5)).block, (ad290.add ((x8_2).toNat * 5)).off + 1, none⟩ = some (.int .i64 ((rd_T141 l1 x8_2).f0.f1)) ∧ w'.cell? ⟨(ad290.add ((x8_2).toNat * 5)).block, (ad290.add ((x8_2).toNat * 5)).off + 2, none⟩ = some (.bool ((rd_T141 l1 x8_2).f1)) ∧ w'.cell? ⟨(ad290.add ((x8_2).toNat * 5)).block, (ad290.add ((x8_2).toNat * 5)).off + 3, none⟩ = some (.int .i64 ((rd_T141 l1 x8_2).f2.f0)) ∧ w'.cell? ⟨(ad290.add ((x8_2).toNat * 5)).block, (ad290.add ((x8_2).toNat * 5)).off + 4, none⟩ = some (.int .i64 ((rd_T141 l1 x8_2).f2.f1)) ∧ w'.cell? (ad289.add ((x8_2).toNat * 7)) = some (.int .i64 ((rd_T27 l0 x8_2).f0.f0)) ∧ w'.cell? ⟨(ad289.add ((x8_2).toNat * 7)).block, (ad289.add ((x8_2).toNat * 7)).off + 1, none⟩ = some (.int .i64 ((rd_T27 l0 x8_2).f0.f1)) ∧ w'.cell? ⟨(ad289.add ((x8_2).toNat * 7)).block, (ad289.add ((x8_2).toNat * 7)).off + 2, none⟩ = some (.int .i64 ((rd_T27 l0 x8_2).f1.f0)) ∧ w'.cell? ⟨(ad289.add ((x8_2).toNat * 7)).block, (ad289.add ((x8_2).toNat * 7)).off + 3, none⟩ = some (.int .i64 ((rd_T27 l0 x8_2).f1.f1)) ∧ w'.cell? ⟨(ad289.add ((x8_2).toNat * 7)).block, (ad289.add ((x8_2).toNat * 7)).off + 4, none⟩ = some (.int .i64 ((rd_T27 l0 x8_2).f2)) ∧ w'.cell? ⟨(ad289.add ((x8_2).toNat * 7)).block, (ad289.add ((x8_2).toNat * 7)).off + 5, none⟩ = some (.int .i64 ((rd_T27 l0 x8_2).f3)) ∧ w'.cell? ⟨(ad289.add ((x8_2).toNat * 7)).block, (ad289.add ((x8_2).toNat * 7)).off + 6, none⟩ = some (.bool ((rd_T27 l0 x8_2).f4)) ∧ w'.cell? (ad290.add ((x8_2).toNat * 5)) = some (.int .i64 ((rd_T141 l1 x8_2).f0.f0)) ∧ w'.cell? ⟨(ad290.add ((x8_2).toNat * 5)).block, (ad290.add ((x8_2).toNat * 5)).off + 1, none⟩ = some (.int .i64 ((rd_T141 l1 x8_2).f0.f1)) ∧ w'.cell? ⟨(ad290.add ((x8_2).toNat * 5)).block, (ad290.add ((x8_2).toNat * 5)).off + 2, none⟩ = some (.bool ((rd_T141 l1 x8_2).f1)) ∧ w'.cell? ⟨(ad290.add ((x8_2).toNat * 5)).block, (ad290.add ((x8_2).toNat * 5)).off + 3, none⟩ = some (.int .i64 ((rd_T141 l1 x8_2).f2.f0)) ∧ w'.cell? ⟨(ad290.add ((x8_2).toNat * 5)).block, (ad290.add ((x8_2).toNat * 5)).off + 4, none⟩ = some (.int .i64 ((rd_T141 l1 x8_2).f2.f1))) (ds := []) #[false, false, false, false, false, false, false, false, false, false, false, false, false, false, false, false, false, false, false, false, false, false, false, false] (by kernel_rfl) rfl rfl ⟨((HB.out.cell (World.block_lt_of_cell? w _ hw289_0)).trans hw289_0), ((HB.out.cell (World.block_lt_of_cell? w _ hw289_1)).trans hw289_1), ((HB.out.cell (World.block_lt_of_cell? w _ hw289_2)).trans hw289_2), ((HB.out.cell (World.block_lt_of_cell? w _ hw289_3)).trans hw289_3), ((HB.out.cell (World.block_lt_of_cell? w _ hw289_4)).trans hw289_4), ((HB.out.cell (World.block_lt_of_cell? w _ hw289_5)).trans hw289_5), ((HB.out.cell (World.block_lt_of_cell? w _ hw289_6)).trans hw289_6), ((HB.out.cell (World.block_lt_of_cell? w _ hw290_0)).trans hw290_0), ((HB.out.cell (World.block_lt_of_cell? w _ hw290_1)).trans hw290_1), ((HB.out.cell (World.block_lt_of_cell? w _ hw290_2)).trans hw290_2), ((HB.out.cell (World.block_lt_of_cell? w _ hw290_3)).trans hw290_3), ((HB.out.cell (World.block_lt_of_cell? w _ hw290_4)).trans hw290_4), ((HB.out.cell (World.block_lt_of_cell? w _ hw292_0)).trans hw292_0), ((HB.out.cell (World.block_lt_of_cell? w _ hw292_1)).trans hw292_1), ((HB.out.cell (World.block_lt_of_cell? w _ hw292_2)).trans hw292_2), ((HB.out.cell (World.block_lt_of_cell? w _ hw292_3)).trans hw292_3), ((HB.out.cell (World.block_lt_of_cell? w _ hw292_4)).trans hw292_4), ((HB.out.cell (World.block_lt_of_cell? w _ hw292_5)).trans hw292_5), ((HB.out.cell (World.block_lt_of_cell? w _ hw292_6)).trans hw292_6), ((HB.out.cell (World.block_lt_of_cell? w _ hw293_0)).trans hw293_0), ((HB.out.cell (World.block_lt_of_cell? w _ hw293_1)).trans hw293_1), ((HB.out.cell (World.block_lt_of_cell? w _ hw293_2)).trans hw293_2), ((HB.out.cell (World.block_lt_of_cell? w _ hw293_3)).trans hw293_3), ((HB.out.cell (World.block_lt_of_cell? w _ hw293_4)).trans hw293_4)⟩ (fun hHeld => ?_); refine with_tabW metrolabref47_Safe.tab17 metrolabref47_Safe.bits17 (fun HT_ HW_ => ?_)
                          generalize wr.drew = w33 at HB hx289_0 hx289_1 hx289_2 hx289_3 hx289_4 hx289_5 hx289_6 hx290_0 hx290_1 hx290_2 hx290_3 hx290_4 hx292_0 hx292_1 hx292_2 hx292_3 hx292_4 hx292_5 hx292_6 hx293_0 hx293_1 hx293_2 hx293_3 hx293_4 hHeld ⊢
                          refine pure_ (i := 0) (N := some 63) (v := ?_) (a' := ?_) #[true, false, false, false, false, false, false, false, false, false, false, false, false, false, false, false, false, false, false, false, false, false, false, false] rfl rfl (any_of HT_.out (by kernel_rfl)) (fun _ _ _ h => h) (Or.inl ⟨by rfl, ?_⟩) ?_ ?_
                          rotate_left
                          · intro w'
                            go_simp
                            with_reducible rfl
                          rotate_left
                          · simp only [Act.put, List.setIfInBounds_toArray, List.set_cons_zero, List.set_cons_succ, i64_w, i32_w]
                            rfl
                          refine pure_ (i := 1) (N := some 64) (v := ?_) (a' := ?_) #[true, true, false, false, false, false, false, false, false, false, false, false, false, false, false, false, false, false, false, false, false, false, false, false] rfl rfl (any_of HT_.out (by kernel_rfl)) (fun _ _ _ h => h) (Or.inl ⟨by rfl, ?_⟩) ?_ ?_
                          rotate_left
                          · intro w'
                            go_simp
                            with_reducible rfl
                          rotate_left
                          · simp only [Act.put, List.setIfInBounds_toArray, List.set_cons_zero, List.set_cons_succ, i64_w, i32_w]
                            rfl
                          refine pure_ (i := 2) (N := some 65) (v := ?_) (a' := ?_) #[true, true, true, false, false, false, false, false, false, false, false, false, false, false, false, false, false, false, false, false, false, false, false, false] rfl rfl (any_of HT_.out (by kernel_rfl)) (fun _ _ _ h => h) (Or.inl ⟨by rfl, ?_⟩) ?_ ?_
                          rotate_left
                          · intro w'
                            go_simp
                            with_reducible rfl
                          rotate_left
                          · simp only [Act.put, List.setIfInBounds_toArray, List.set_cons_zero, List.set_cons_succ, i64_w, i32_w]
                            rfl
                          refine pure_ (i := 4) (N := some 67) (v := ?_) (a' := ?_) #[true, true, true, false, true, false, false, false, false, false, false, false, false, false, false, false, false, false, false, false, false, false, false, false] rfl rfl (any_of HT_.out (by kernel_rfl)) (fun _ _ _ h => h) (Or.inl ⟨by rfl, ?_⟩) ?_ ?_
                          rotate_left
                          · intro w'
                            go_simp
                            with_reducible rfl
                          rotate_left
                          · simp only [Act.put, List.setIfInBounds_toArray, List.set_cons_zero, List.set_cons_succ, i64_w, i32_w]
                            rfl
                          refine pure_ (i := 5) (N := some 68) (v := ?_) (a' := ?_) #[true, true, true, false, true, true, false, false, false, false, false, false, false, false, false, false, false, false, false, false, false, false, false, false] rfl rfl (any_of HT_.out (by kernel_rfl)) (fun _ _ _ h => h) (Or.inl ⟨by rfl, ?_⟩) ?_ ?_
                          rotate_left
                          · intro w'
                            go_simp
                            with_reducible rfl
                          rotate_left
                          · simp only [Act.put, List.setIfInBounds_toArray, List.set_cons_zero, List.set_cons_succ, i64_w, i32_w]
                            rfl
                          refine pure_ (i := 6) (N := some 69) (v := ?_) (a' := ?_) #[true, true, true, false, true, true, true, false, false, false, false, false, false, false, false, false, false, false, false, false, false, false, false, false] rfl rfl (any_of HT_.out (by kernel_rfl)) (fun _ _ _ h => h) (Or.inl ⟨by rfl, ?_⟩) ?_ ?_
                          rotate_left
                          · intro w'
                            go_simp
                            with_reducible rfl
                          rotate_left
                          · simp only [Act.put, List.setIfInBounds_toArray, List.set_cons_zero, List.set_cons_succ, i64_w, i32_w]
                            rfl
                          refine pure_ (i := 7) (N := some 70) (v := ?_) (a' := ?_) #[true, true, true, false, true, true, true, true, false, false, false, false, false, false, false, false, false, false, false, false, false, false, false, false] rfl rfl (any_of HT_.out (by kernel_rfl)) (fun _ _ _ h => h) (Or.inl ⟨by rfl, ?_⟩) ?_ ?_
                          rotate_left
                          · intro w'
                            go_simp
                            with_reducible rfl
                          rotate_left
                          · simp only [Act.put, List.setIfInBounds_toArray, List.set_cons_zero, List.set_cons_succ, i64_w, i32_w]
                            rfl
                          refine pure_ (i := 8) (N := some 71) (v := ?_) (a' := ?_) #[true, true, true, false, true, true, true, true, true, false, false, false, false, false, false, false, false, false, false, false, false, false, false, false] rfl rfl (any_of HT_.out (by kernel_rfl)) (fun _ _ _ h => h) (Or.inl ⟨by rfl, ?_⟩) ?_ ?_
                          rotate_left
                          · intro w'
                            go_simp
                            with_reducible rfl
                          rotate_left
                          · simp only [Act.put, List.setIfInBounds_toArray, List.set_cons_zero, List.set_cons_succ, i64_w, i32_w]
                            rfl
                          refine take_ (i := 3) (N := some 66) (v := ?_) (a' := ?_) #[true, true, true, true, true, true, true, true, true, false, false, false, false, false, false, false, false, false, false, false, false, false, false, false] rfl rfl (take_ofW HT_.out HW_.out (by kernel_rfl)) (fun _ _ _ h => h) (Or.inl ⟨by rfl, ?_⟩) hHeld ?_ ?_
                          rotate_left
                          · rintro w' ⟨s0, s1, s2, s3, s4, s5, s6, s7, s8, s9, s10, s11, s12, s13, s14, s15, s16, s17, s18, s19, s20, s21, s22, s23⟩
                            go_simp
                            with_reducible rfl
                          rotate_left
                          · simp only [Act.put, List.setIfInBounds_toArray, List.set_cons_zero, List.set_cons_succ, i64_w, i32_w]
                            rfl
                          refine take_ (i := 9) (N := some 72) (v := ?_) (a' := ?_) #[true, true, true, true, true, true, true, true, true, true, false, false, false, false, false, false, false, false, false, false, false, false, false, false] rfl rfl (take_ofW HT_.out HW_.out (by kernel_rfl)) (fun _ _ _ h => h) (Or.inl ⟨by rfl, ?_⟩) hHeld ?_ ?_
                          rotate_left
                          · rintro w' ⟨s0, s1, s2, s3, s4, s5, s6, s7, s8, s9, s10, s11, s12, s13, s14, s15, s16, s17, s18, s19, s20, s21, s22, s23⟩
                            go_simp
                            with_reducible rfl
                          rotate_left
                          · simp only [Act.put, List.setIfInBounds_toArray, List.set_cons_zero, List.set_cons_succ, i64_w, i32_w]
                            rfl
                          refine one_ (i := 10) (N := some 73) #[true, true, true, true, true, true, true, true, true, true, true, false, false, false, false, false, false, false, false, false, false, false, false, false] rfl rfl (one_of HT_.out (by kernel_rfl)) (by decide) (fun K hK => ?_)
                          refine goes_ Tryd.func102 (by kernel_rfl) rfl #[.agg #[.int .i64 ((rd_T27 l0 x8_2).f0.f0), .int .i64 ((rd_T27 l0 x8_2).f0.f1), .int .i64 ((rd_T27 l0 x8_2).f1.f0), .int .i64 ((rd_T27 l0 x8_2).f1.f1), .int .i64 ((rd_T27 l0 x8_2).f2), .int .i64 ((rd_T27 l0 x8_2).f3), .bool ((rd_T27 l0 x8_2).f4)], .int .i64 ((rd_T141 l1 x8_2).f2.f0)] (by rfl) rfl rfl (by (try simp only [List.map_toArray, List.map_cons, List.map_nil]); first | done | rfl | (simp only [List.length_drop, List.length_take]; rfl)) ?_
                          with_reducible refine (metrolabref47_Beyond.calls ((rd_T27 l0 x8_2).f0.f0) ((rd_T27 l0 x8_2).f0.f1) ((rd_T27 l0 x8_2).f1.f0) ((rd_T27 l0 x8_2).f1.f1) ((rd_T27 l0 x8_2).f2) ((rd_T27 l0 x8_2).f3) ((rd_T27 l0 x8_2).f4) ((rd_T141 l1 x8_2).f2.f0) false _ A24.out).mono ?_
                          rintro e w34 ⟨rfl, hb⟩
                          refine ⟨_, rfl, ?_⟩
                          have n0_ := Aside0.mk (below_step (by repeat (first | (with_reducible first | exact HB.out | apply below_alloc | apply pw_below_drewN | apply below_drew1) | exact HB.out)) hb)
                          clear HB
                          have HB := n0_
                          clear n0_
                          (try clear hb)
                          (try clear hb2)
                          (try clear hk)
                          (try clear hi)
                          refine hK.out _ _ ⟨((HB.out.cell (World.block_lt_of_cell? w _ hw289_0)).trans hw289_0), ((HB.out.cell (World.block_lt_of_cell? w _ hw289_1)).trans hw289_1), ((HB.out.cell (World.block_lt_of_cell? w _ hw289_2)).trans hw289_2), ((HB.out.cell (World.block_lt_of_cell? w _ hw289_3)).trans hw289_3), ((HB.out.cell (World.block_lt_of_cell? w _ hw289_4)).trans hw289_4), ((HB.out.cell (World.block_lt_of_cell? w _ hw289_5)).trans hw289_5), ((HB.out.cell (World.block_lt_of_cell? w _ hw289_6)).trans hw289_6), ((HB.out.cell (World.block_lt_of_cell? w _ hw290_0)).trans hw290_0), ((HB.out.cell (World.block_lt_of_cell? w _ hw290_1)).trans hw290_1), ((HB.out.cell (World.block_lt_of_cell? w _ hw290_2)).trans hw290_2), ((HB.out.cell (World.block_lt_of_cell? w _ hw290_3)).trans hw290_3), ((HB.out.cell (World.block_lt_of_cell? w _ hw290_4)).trans hw290_4), ((HB.out.cell (World.block_lt_of_cell? w _ hw292_0)).trans hw292_0), ((HB.out.cell (World.block_lt_of_cell? w _ hw292_1)).trans hw292_1), ((HB.out.cell (World.block_lt_of_cell? w _ hw292_2)).trans hw292_2), ((HB.out.cell (World.block_lt_of_cell? w _ hw292_3)).trans hw292_3), ((HB.out.cell (World.block_lt_of_cell? w _ hw292_4)).trans hw292_4), ((HB.out.cell (World.block_lt_of_cell? w _ hw292_5)).trans hw292_5), ((HB.out.cell (World.block_lt_of_cell? w _ hw292_6)).trans hw292_6), ((HB.out.cell (World.block_lt_of_cell? w _ hw293_0)).trans hw293_0), ((HB.out.cell (World.block_lt_of_cell? w _ hw293_1)).trans hw293_1), ((HB.out.cell (World.block_lt_of_cell? w _ hw293_2)).trans hw293_2), ((HB.out.cell (World.block_lt_of_cell? w _ hw293_3)).trans hw293_3), ((HB.out.cell (World.block_lt_of_cell? w _ hw293_4)).trans hw293_4)⟩ (fun hHeld => ?_)
                          clear hK K
                          refine norm_ (a' := ?_) ?_ ?_
                          rotate_left
                          · show Act.put _ (some 73) _ = _
                            simp only [Act.put, List.setIfInBounds_toArray, List.set_cons_zero, List.set_cons_succ, i64_w, i32_w]
                            rfl
                          refine pure_ (i := 11) (N := some 74) (v := ?_) (a' := ?_) #[true, true, true, true, true, true, true, true, true, true, true, true, false, false, false, false, false, false, false, false, false, false, false, false] rfl rfl (any_of HT_.out (by kernel_rfl)) (fun _ _ _ h => h) (Or.inl ⟨by rfl, ?_⟩) ?_ ?_
                          rotate_left
                          · intro w'
                            go_simp
                            with_reducible rfl
                          rotate_left
                          · simp only [Act.put, List.setIfInBounds_toArray, List.set_cons_zero, List.set_cons_succ, i64_w, i32_w]
                            rfl
                          refine pure_ (i := 12) (N := some 75) (v := ?_) (a' := ?_) #[true, true, true, true, true, true, true, true, true, true, true, true, true, false, false, false, false, false, false, false, false, false, false, false] rfl rfl (any_of HT_.out (by kernel_rfl)) (fun _ _ _ h => h) (Or.inl ⟨by rfl, ?_⟩) ?_ ?_
                          rotate_left
                          · intro w'
                            go_simp
                            with_reducible rfl
                          rotate_left
                          · simp only [Act.put, List.setIfInBounds_toArray, List.set_cons_zero, List.set_cons_succ, i64_w, i32_w]
                            rfl
                          refine pure_ (i := 13) (N := some 76) (v := ?_) (a' := ?_) #[true, true, true, true, true, true, true, true, true, true, true, true, true, true, false, false, false, false, false, false, false, false, false, false] rfl rfl (any_of HT_.out (by kernel_rfl)) (fun _ _ _ h => h) (Or.inl ⟨by rfl, ?_⟩) ?_ ?_
                          rotate_left
                          · intro w'
                            go_simp
                            with_reducible rfl
                          rotate_left
                          · simp only [Act.put, List.setIfInBounds_toArray, List.set_cons_zero, List.set_cons_succ, i64_w, i32_w]
                            rfl
                          refine pure_ (i := 14) (N := some 77) (v := ?_) (a' := ?_) #[true, true, true, true, true, true, true, true, true, true, true, true, true, true, true, false, false, false, false, false, false, false, false, false] rfl rfl (any_of HT_.out (by kernel_rfl)) (fun _ _ _ h => h) (Or.inl ⟨by rfl, ?_⟩) ?_ ?_
                          rotate_left
                          · intro w'
                            go_simp
                            with_reducible rfl
                          rotate_left
                          · simp only [Act.put, List.setIfInBounds_toArray, List.set_cons_zero, List.set_cons_succ, i64_w, i32_w]
                            rfl
                          refine pure_ (i := 16) (N := some 79) (v := ?_) (a' := ?_) #[true, true, true, true, true, true, true, true, true, true, true, true, true, true, true, false, true, false, false, false, false, false, false, false] rfl rfl (any_of HT_.out (by kernel_rfl)) (fun _ _ _ h => h) (Or.inl ⟨by rfl, ?_⟩) ?_ ?_
                          rotate_left
                          · intro w'
                            go_simp
                            with_reducible rfl
                          rotate_left
                          · simp only [Act.put, List.setIfInBounds_toArray, List.set_cons_zero, List.set_cons_succ, i64_w, i32_w]
                            rfl
                          refine pure_ (i := 17) (N := some 80) (v := ?_) (a' := ?_) #[true, true, true, true, true, true, true, true, true, true, true, true, true, true, true, false, true, true, false, false, false, false, false, false] rfl rfl (any_of HT_.out (by kernel_rfl)) (fun _ _ _ h => h) (Or.inl ⟨by rfl, ?_⟩) ?_ ?_
                          rotate_left
                          · intro w'
                            go_simp
                            with_reducible rfl
                          rotate_left
                          · simp only [Act.put, List.setIfInBounds_toArray, List.set_cons_zero, List.set_cons_succ, i64_w, i32_w]
                            rfl
                          refine pure_ (i := 18) (N := some 81) (v := ?_) (a' := ?_) #[true, true, true, true, true, true, true, true, true, true, true, true, true, true, true, false, true, true, true, false, false, false, false, false] rfl rfl (any_of HT_.out (by kernel_rfl)) (fun _ _ _ h => h) (Or.inl ⟨by rfl, ?_⟩) ?_ ?_
                          rotate_left
                          · intro w'
                            go_simp
                            with_reducible rfl
                          rotate_left
                          · simp only [Act.put, List.setIfInBounds_toArray, List.set_cons_zero, List.set_cons_succ, i64_w, i32_w]
                            rfl
                          refine pure_ (i := 19) (N := some 82) (v := ?_) (a' := ?_) #[true, true, true, true, true, true, true, true, true, true, true, true, true, true, true, false, true, true, true, true, false, false, false, false] rfl rfl (any_of HT_.out (by kernel_rfl)) (fun _ _ _ h => h) (Or.inl ⟨by rfl, ?_⟩) ?_ ?_
                          rotate_left
                          · intro w'
                            go_simp
                            with_reducible rfl
                          rotate_left
                          · simp only [Act.put, List.setIfInBounds_toArray, List.set_cons_zero, List.set_cons_succ, i64_w, i32_w]
                            rfl
                          refine pure_ (i := 20) (N := some 83) (v := ?_) (a' := ?_) #[true, true, true, true, true, true, true, true, true, true, true, true, true, true, true, false, true, true, true, true, true, false, false, false] rfl rfl (any_of HT_.out (by kernel_rfl)) (fun _ _ _ h => h) (Or.inl ⟨by rfl, ?_⟩) ?_ ?_
                          rotate_left
                          · intro w'
                            go_simp
                            with_reducible rfl
                          rotate_left
                          · simp only [Act.put, List.setIfInBounds_toArray, List.set_cons_zero, List.set_cons_succ, i64_w, i32_w]
                            rfl
                          refine take_ (i := 15) (N := some 78) (v := ?_) (a' := ?_) #[true, true, true, true, true, true, true, true, true, true, true, true, true, true, true, true, true, true, true, true, true, false, false, false] rfl rfl (take_ofW HT_.out HW_.out (by kernel_rfl)) (fun _ _ _ h => h) (Or.inl ⟨by rfl, ?_⟩) hHeld ?_ ?_
                          rotate_left
                          · rintro w' ⟨s0, s1, s2, s3, s4, s5, s6, s7, s8, s9, s10, s11, s12, s13, s14, s15, s16, s17, s18, s19, s20, s21, s22, s23⟩
                            go_simp
                            with_reducible rfl
                          rotate_left
                          · simp only [Act.put, List.setIfInBounds_toArray, List.set_cons_zero, List.set_cons_succ, i64_w, i32_w]
                            rfl
                          refine take_ (i := 21) (N := some 84) (v := ?_) (a' := ?_) #[true, true, true, true, true, true, true, true, true, true, true, true, true, true, true, true, true, true, true, true, true, true, false, false] rfl rfl (take_ofW HT_.out HW_.out (by kernel_rfl)) (fun _ _ _ h => h) (Or.inl ⟨by rfl, ?_⟩) hHeld ?_ ?_
                          rotate_left
                          · rintro w' ⟨s0, s1, s2, s3, s4, s5, s6, s7, s8, s9, s10, s11, s12, s13, s14, s15, s16, s17, s18, s19, s20, s21, s22, s23⟩
                            go_simp
                            with_reducible rfl
                          rotate_left
                          · simp only [Act.put, List.setIfInBounds_toArray, List.set_cons_zero, List.set_cons_succ, i64_w, i32_w]
                            rfl
                          refine one_ (i := 22) (N := some 85) #[true, true, true, true, true, true, true, true, true, true, true, true, true, true, true, true, true, true, true, true, true, true, true, false] rfl rfl (one_of HT_.out (by kernel_rfl)) (by decide) (fun K hK => ?_)
                          refine goes_ Tryd.func102 (by kernel_rfl) rfl #[.agg #[.int .i64 ((rd_T27 l0 x8_2).f0.f0), .int .i64 ((rd_T27 l0 x8_2).f0.f1), .int .i64 ((rd_T27 l0 x8_2).f1.f0), .int .i64 ((rd_T27 l0 x8_2).f1.f1), .int .i64 ((rd_T27 l0 x8_2).f2), .int .i64 ((rd_T27 l0 x8_2).f3), .bool ((rd_T27 l0 x8_2).f4)], .int .i64 ((rd_T141 l1 x8_2).f2.f1)] (by rfl) rfl rfl (by (try simp only [List.map_toArray, List.map_cons, List.map_nil]); first | done | rfl | (simp only [List.length_drop, List.length_take]; rfl)) ?_
                          with_reducible refine (metrolabref47_Beyond.calls ((rd_T27 l0 x8_2).f0.f0) ((rd_T27 l0 x8_2).f0.f1) ((rd_T27 l0 x8_2).f1.f0) ((rd_T27 l0 x8_2).f1.f1) ((rd_T27 l0 x8_2).f2) ((rd_T27 l0 x8_2).f3) ((rd_T27 l0 x8_2).f4) ((rd_T141 l1 x8_2).f2.f1) false _ A28.out).mono ?_
                          rintro e w35 ⟨rfl, hb⟩
                          refine ⟨_, rfl, ?_⟩
                          have n0_ := Aside0.mk (below_step (by repeat (first | (with_reducible first | exact HB.out | apply below_alloc | apply pw_below_drewN | apply below_drew1) | exact HB.out)) hb)
                          clear HB
                          have HB := n0_
                          clear n0_
                          (try clear hb)
                          (try clear hb2)
                          (try clear hk)
                          (try clear hi)
                          refine hK.out _ _ ⟨((HB.out.cell (World.block_lt_of_cell? w _ hw289_0)).trans hw289_0), ((HB.out.cell (World.block_lt_of_cell? w _ hw289_1)).trans hw289_1), ((HB.out.cell (World.block_lt_of_cell? w _ hw289_2)).trans hw289_2), ((HB.out.cell (World.block_lt_of_cell? w _ hw289_3)).trans hw289_3), ((HB.out.cell (World.block_lt_of_cell? w _ hw289_4)).trans hw289_4), ((HB.out.cell (World.block_lt_of_cell? w _ hw289_5)).trans hw289_5), ((HB.out.cell (World.block_lt_of_cell? w _ hw289_6)).trans hw289_6), ((HB.out.cell (World.block_lt_of_cell? w _ hw290_0)).trans hw290_0), ((HB.out.cell (World.block_lt_of_cell? w _ hw290_1)).trans hw290_1), ((HB.out.cell (World.block_lt_of_cell? w _ hw290_2)).trans hw290_2), ((HB.out.cell (World.block_lt_of_cell? w _ hw290_3)).trans hw290_3), ((HB.out.cell (World.block_lt_of_cell? w _ hw290_4)).trans hw290_4), ((HB.out.cell (World.block_lt_of_cell? w _ hw292_0)).trans hw292_0), ((HB.out.cell (World.block_lt_of_cell? w _ hw292_1)).trans hw292_1), ((HB.out.cell (World.block_lt_of_cell? w _ hw292_2)).trans hw292_2), ((HB.out.cell (World.block_lt_of_cell? w _ hw292_3)).trans hw292_3), ((HB.out.cell (World.block_lt_of_cell? w _ hw292_4)).trans hw292_4), ((HB.out.cell (World.block_lt_of_cell? w _ hw292_5)).trans hw292_5), ((HB.out.cell (World.block_lt_of_cell? w _ hw292_6)).trans hw292_6), ((HB.out.cell (World.block_lt_of_cell? w _ hw293_0)).trans hw293_0), ((HB.out.cell (World.block_lt_of_cell? w _ hw293_1)).trans hw293_1), ((HB.out.cell (World.block_lt_of_cell? w _ hw293_2)).trans hw293_2), ((HB.out.cell (World.block_lt_of_cell? w _ hw293_3)).trans hw293_3), ((HB.out.cell (World.block_lt_of_cell? w _ hw293_4)).trans hw293_4)⟩ (fun hHeld => ?_)
                          clear hK K
                          refine norm_ (a' := ?_) ?_ ?_
                          rotate_left
                          · show Act.put _ (some 85) _ = _
                            simp only [Act.put, List.setIfInBounds_toArray, List.set_cons_zero, List.set_cons_succ, i64_w, i32_w]
                            rfl
                          refine pure_ (i := 23) (N := some 86) (v := ?_) (a' := ?_) #[true, true, true, true, true, true, true, true, true, true, true, true, true, true, true, true, true, true, true, true, true, true, true, true] rfl rfl (any_of HT_.out (by kernel_rfl)) (fun _ _ _ h => h) (Or.inl ⟨by rfl, ?_⟩) ?_ ?_
                          rotate_left
                          · intro w'
                            go_simp
                            with_reducible rfl
                          rotate_left
                          · simp only [Act.put, List.setIfInBounds_toArray, List.set_cons_zero, List.set_cons_succ, i64_w, i32_w]
                            rfl
                          refine done_ (done_of HT_.out (by kernel_rfl)) ?_
                          try go_wp2
                          go_roundg k2
                          case measure => have := HK1.out; have := HK2.out; omega
                          case rel => exact ⟨(wrap64 (x8_2 + 1)), (by first | rfl | (simp; done) | (simp [*]; done)), H', ⟨by have := HK1.out; have := HK2.out; omega⟩, ⟨by repeat (first | (with_reducible first | exact HB.out | apply below_alloc | apply pw_below_drewN | apply below_drew1) | exact HB.out)⟩⟩
                    · rw [if_neg c23] at H
                      exact absurd H (by simp)
                  · rw [if_neg c22] at H
                    exact absurd H (by simp)
                · rw [if_neg c21] at H
                  have c21b0 : decide (x8_2 < (l1.length : Int)) = false := decide_eq_false c21
                  clear c21
                  obtain rfl := Option.some.inj H
                  go_wp2
                  go_ret
                  exact ⟨by first | rfl | (simp [errW_none, errW_some] <;> rfl) | (simp [*, errW_none, errW_some] <;> rfl), by repeat (first | (with_reducible first | exact HB.out | apply below_alloc | apply pw_below_drewN | apply below_drew1) | exact HB.out)⟩
    · rw [if_neg c5] at H
      have c5b0 : ((l1.length : Int) == (l0.length : Int)) = false := beq_eq_false_iff_ne.mpr c5
      have c5b1 : ((l1.length : Int) != (l0.length : Int)) = true := bne_iff_ne.mpr c5
      have c5b2 : (l1.length == l0.length) = false := by first | simpa using c5 | (simp at c5 ⊢; omega)
      obtain rfl := Option.some.inj H
      go_enter Tryd.func56, Tryd.ntmps56
      go_wp2_with (first | ((with_reducible refine gate_callee (f := 65) rfl ?_); refine goesL_ (some 10) rfl rfl Tryd.func65 (by kernel_rfl) rfl #[.slice A0 l0.length c0] rfl (by (try simp only [List.map_toArray, List.map_cons, List.map_nil]); first | done | rfl | (simp only [List.length_drop, List.length_take]; rfl)) ?_; (with_reducible refine (metrolabref47_Check.calls k _ _ l0 t282 _ ?side1 ?side2 A3.out).mono ?_); (case side1 => repeat (first | exact HR0.out | (with_reducible refine Kd.C_alloc ?_ _) | (with_reducible refine Kd.C_drewN ?_ _) | (with_reducible refine Kd.C_drew ?_))); (case side2 => exact HC0.out); rintro e w36 ⟨rfl, hb⟩; refine ⟨_, rfl, ?_⟩; have n0_ := Aside0.mk (below_step (by repeat (first | (with_reducible first | exact HB.out | apply below_alloc | apply pw_below_drewN | apply below_drew1) | exact HB.out)) hb); clear HB; have HB := n0_; clear n0_; (try clear hb); (try clear hb2); (try clear hk); (try clear hi)))
      go_ret
      exact ⟨by first | rfl | (simp [errW_none, errW_some] <;> rfl) | (simp [*, errW_none, errW_some] <;> rfl), by repeat (first | (with_reducible first | exact HB.out | apply below_alloc | apply pw_below_drewN | apply below_drew1) | exact HB.out)⟩
  · rw [if_neg c4] at H
    have c4b0 : (t282 == 0) = false := beq_eq_false_iff_ne.mpr c4
    have c4b1 : (t282 != 0) = true := bne_iff_ne.mpr c4
    obtain rfl := Option.some.inj H
    go_enter Tryd.func56, Tryd.ntmps56
    go_wp2_with (first | ((with_reducible refine gate_callee (f := 65) rfl ?_); refine goesL_ (some 10) rfl rfl Tryd.func65 (by kernel_rfl) rfl #[.slice A0 l0.length c0] rfl (by (try simp only [List.map_toArray, List.map_cons, List.map_nil]); first | done | rfl | (simp only [List.length_drop, List.length_take]; rfl)) ?_; (with_reducible refine (metrolabref47_Check.calls k _ _ l0 t282 _ ?side1 ?side2 A3.out).mono ?_); (case side1 => repeat (first | exact HR0.out | (with_reducible refine Kd.C_alloc ?_ _) | (with_reducible refine Kd.C_drewN ?_ _) | (with_reducible refine Kd.C_drew ?_))); (case side2 => exact HC0.out); rintro e w37 ⟨rfl, hb⟩; refine ⟨_, rfl, ?_⟩; have n0_ := Aside0.mk (below_step (by repeat (first | (with_reducible first | exact HB.out | apply below_alloc | apply pw_below_drewN | apply below_drew1) | exact HB.out)) hb); clear HB; have HB := n0_; clear n0_; (try clear hb); (try clear hb2); (try clear hk); (try clear hi)))
    go_ret
    exact ⟨by first | rfl | (simp [errW_none, errW_some] <;> rfl) | (simp [*, errW_none, errW_some] <;> rfl), by repeat (first | (with_reducible first | exact HB.out | apply below_alloc | apply pw_below_drewN | apply below_drew1) | exact HB.out)⟩
end Go.Proofs.YtjemaonejkepcaaDoor.G
namespace Go.Proofs.YtjemaonejkepcaaDoor.G
set_option linter.unusedVariables false
set_option linter.unusedSimpArgs false
open Go.Proofs.YtjemaonejkepcaaDoor.B
open Go.RowKit Go.Proofs.YtjemaonejkepcaaDoorW.PrintWords
/-- The error of the limits of an element. -/
def lim (lo hi : Int) : Int := if (1 ≤ lo ∧ lo ≤ 300000) ∧ (1 ≤ hi ∧ hi ≤ 300000) then (if lo > hi then 9 else 0) else 2
theorem granged (a : Int) : gauge_ranged.f a = some (decide (1 ≤ a ∧ a ≤ 300000)) := by
  unfold gauge_ranged.f
  by_cases h : a ≥ 1
  · rw [if_pos h]; simp; omega
  · rw [if_neg h]; simp; omega
theorem glimits (k : Nat) (hk : 1 ≤ k) (lo hi : Int) : gauge_limits.f k lo hi = some (lim lo hi) := by
  obtain ⟨k, rfl⟩ : ∃ m, k = m + 1 := ⟨k - 1, by omega⟩
  unfold gauge_limits.f lim
  simp only [granged, Option.bind_some, decide_eq_true_eq]
  by_cases A : 1 ≤ lo ∧ lo ≤ 300000
  · rw [if_pos A]
    simp only [gauge_limits.j0]
    by_cases B : 1 ≤ hi ∧ hi ≤ 300000
    · rw [if_pos (show (1 ≤ lo ∧ lo ≤ 300000) ∧ (1 ≤ hi ∧ hi ≤ 300000) from ⟨A, B⟩), decide_eq_true B, if_neg (by decide)]
      by_cases C : lo > hi
      · rw [if_pos C, if_pos C]
      · rw [if_neg C, if_neg C]
    · rw [if_neg (show ¬ ((1 ≤ lo ∧ lo ≤ 300000) ∧ (1 ≤ hi ∧ hi ≤ 300000)) from fun h => B h.2), decide_eq_false B, if_pos (by decide)]
  · rw [if_neg A, if_neg (show ¬ ((1 ≤ lo ∧ lo ≤ 300000) ∧ (1 ≤ hi ∧ hi ≤ 300000)) from fun h => A h.1)]
    simp only [gauge_limits.j0]
    rw [if_pos trivial]
theorem rsize47 (a : Int) : metrolabref47_size.f a = some (decide (1 ≤ a ∧ a ≤ 300000)) := by
  unfold metrolabref47_size.f
  by_cases h : a ≥ 1
  · rw [if_pos h]; simp; omega
  · rw [if_neg h]; simp; omega
theorem rlimits (k : Nat) (hk : 1 ≤ k) (x y : Int) (b : Bool) (lo hi : Int) : metrolabref47_limits.f k x y b lo hi = some (lim lo hi) := by
  obtain ⟨k, rfl⟩ : ∃ m, k = m + 1 := ⟨k - 1, by omega⟩
  unfold metrolabref47_limits.f lim
  simp only [rsize47, Option.bind_some, decide_eq_true_eq]
  by_cases A : 1 ≤ lo ∧ lo ≤ 300000
  · rw [if_pos A]
    simp only [metrolabref47_limits.j0]
    by_cases B : 1 ≤ hi ∧ hi ≤ 300000
    · rw [if_pos (show (1 ≤ lo ∧ lo ≤ 300000) ∧ (1 ≤ hi ∧ hi ≤ 300000) from ⟨A, B⟩), decide_eq_true B, if_neg (by decide)]
      by_cases C : lo > hi
      · rw [if_pos C, if_pos C]
      · rw [if_neg C, if_neg C]
    · rw [if_neg (show ¬ ((1 ≤ lo ∧ lo ≤ 300000) ∧ (1 ≤ hi ∧ hi ≤ 300000)) from fun h => B h.2), decide_eq_false B, if_pos (by decide)]
  · rw [if_neg A, if_neg (show ¬ ((1 ≤ lo ∧ lo ≤ 300000) ∧ (1 ≤ hi ∧ hi ≤ 300000)) from fun h => A h.1)]
    simp only [metrolabref47_limits.j0]
    rw [if_pos trivial]
theorem lim_ok {lo hi : Int} (h : lim lo hi = 0) : 1 ≤ lo ∧ lo ≤ hi ∧ hi ≤ 300000 := by
  unfold lim at h
  by_cases h1 : (1 ≤ lo ∧ lo ≤ 300000) ∧ (1 ≤ hi ∧ hi ≤ 300000)
  · rw [if_pos h1] at h
    by_cases h2 : lo > hi
    · rw [if_pos h2] at h; omega
    · omega
  · rw [if_neg h1] at h; omega
/-- The error of an element for a target; its losses. -/
def pe (t : S27) (x : S104) : Int := if lim x.f2.f0 x.f2.f1 = 0 then (if x.f0.f0 = t.f0.f0 ∧ x.f0.f1 = t.f0.f1 ∧ x.f1 = t.f4 then 0 else 16) else lim x.f2.f0 x.f2.f1
def pl (t : S27) (x : S104) : S25 := if x.f1 = true then ⟨tv t - x.f2.f1, tv t - x.f2.f0⟩ else ⟨x.f2.f0 - tv t, x.f2.f1 - tv t⟩
def fp : List S27 → List S104 → Int
  | t :: r, x :: s => if pe t x = 0 then fp r s else pe t x
  | _, _ => 0
theorem fp_ok {t : S27} {r : List S27} {x : S104} {s : List S104} (h : pe t x = 0) : fp (t :: r) (x :: s) = fp r s := by
  show (if pe t x = 0 then fp r s else pe t x) = _; rw [if_pos h]
theorem fp_bad {t : S27} {r : List S27} {x : S104} {s : List S104} (h : ¬ pe t x = 0) : fp (t :: r) (x :: s) = pe t x := by
  show (if pe t x = 0 then fp r s else pe t x) = _; rw [if_neg h]
theorem pe_ok {t : S27} {x : S104} (h : pe t x = 0) : (1 ≤ x.f2.f0 ∧ x.f2.f0 ≤ x.f2.f1 ∧ x.f2.f1 ≤ 300000) ∧ x.f0.f0 = t.f0.f0 ∧ x.f0.f1 = t.f0.f1 ∧ x.f1 = t.f4 := by
  unfold pe at h
  by_cases h1 : lim x.f2.f0 x.f2.f1 = 0
  · rw [if_pos h1] at h
    by_cases h2 : x.f0.f0 = t.f0.f0 ∧ x.f0.f1 = t.f0.f1 ∧ x.f1 = t.f4
    · exact ⟨lim_ok h1, h2⟩
    · rw [if_neg h2] at h; omega
  · rw [if_neg h1] at h; exact absurd h h1
theorem loss_1 (l : List S27) (g : List S104) (hl : ∀ t ∈ l, te t = 0) {i : Int} (h0 : 0 ≤ i) (h1 : i < (l.length : Int)) :
    ∃ a b, @gauge_losses_1.f (Dat109.mk l (l.map tv)) i (rd_T104 g i).f0.f0 (rd_T104 g i).f0.f1 (rd_T104 g i).f1 (rd_T104 g i).f2.f0 (rd_T104 g i).f2.f1 = some (a, b, pe (rd_T27 l i) (rd_T104 g i)) ∧ (pe (rd_T27 l i) (rd_T104 g i) = 0 → (⟨a, b⟩ : S25) = pl (rd_T27 l i) (rd_T104 g i)) := by
  have hs : i < ((l.map tv).length : Int) := by simpa using h1
  have hr : rd (l.map tv) i = tv (rd_T27 l i) := getD_map tv l z27 0 (by omega)
  have hdr : l.drop i.toNat = rd_T27 l i :: l.drop (i + 1).toNat := drop_rd l z27 h0 h1
  have hv := tv_range (hl _ (List.mem_of_mem_drop (by rw [hdr]; exact List.mem_cons_self)))
  unfold gauge_losses_1.f
  rw [if_pos h0]
  simp only
  rw [if_pos h1, if_pos hs, glimits 2 (by omega), hr]
  generalize rd_T27 l i = t at *
  generalize rd_T104 g i = x at *
  simp only [Option.bind_some]
  unfold pe pl
  by_cases hL : lim x.f2.f0 x.f2.f1 = 0
  · have hb := lim_ok hL
    rw [if_pos hL, if_pos hL]
    by_cases hc : x.f0.f0 = t.f0.f0 ∧ x.f0.f1 = t.f0.f1 ∧ x.f1 = t.f4
    · rw [if_pos hc, if_pos hc]
      cases hp : x.f1 with
      | true =>
        rw [if_pos rfl, if_pos rfl, w64 (n := tv t - x.f2.f1) (by omega), w64 (n := tv t - x.f2.f0) (by omega)]
        exact ⟨_, _, rfl, fun _ => rfl⟩
      | false =>
        rw [if_neg Bool.false_ne_true, if_neg Bool.false_ne_true, w64 (n := x.f2.f0 - tv t) (by omega), w64 (n := x.f2.f1 - tv t) (by omega)]
        exact ⟨_, _, rfl, fun _ => rfl⟩
    · rw [if_neg hc, if_neg hc]
      exact ⟨_, _, rfl, fun h => by omega⟩
  · rw [if_neg hL, if_neg hL]
    exact ⟨_, _, rfl, fun h => absurd h hL⟩
theorem lmap_l0 (l : List S27) (g : List S104) (hn : l.length ≤ 1000) (he : g.length = l.length) (hl : ∀ t ∈ l, te t = 0) (d : Nat) : ∀ (k : Nat) (acc : List S25) (i : Int), 0 ≤ i → (g.length : Int) - i = d → acc.length + d ≤ 1000 → d + 4 ≤ k →
    @api_Limits.l0 (Dat109.mk l (l.map tv)) k acc g (g.length : Int) i = some (if fp (l.drop i.toNat) (g.drop i.toNat) = 0 then (acc ++ List.zipWith pl (l.drop i.toNat) (g.drop i.toNat), 0) else ([], fp (l.drop i.toNat) (g.drop i.toNat))) := by
  induction d with
  | zero =>
    intro k acc i h0 hd ha hk
    obtain ⟨k, rfl⟩ : ∃ m, k = m + 1 := ⟨k - 1, by omega⟩
    rw [drop_end l (by omega), drop_end g (by omega)]
    simp only [api_Limits.l0]
    rw [if_neg (by omega)]; simp [fp]
  | succ d ih =>
    intro k acc i h0 hd ha hk
    obtain ⟨k, rfl⟩ : ∃ m, k = m + 1 := ⟨k - 1, by omega⟩
    have h1 : i < (g.length : Int) := by omega
    have h2 : i < (l.length : Int) := by omega
    rw [drop_rd l z27 h0 h2, drop_rd g z104 h0 h1]
    simp only [api_Limits.l0]
    rw [if_pos h1, if_pos h0, if_pos h1]
    obtain ⟨a, b, hv, hp⟩ := loss_1 l g hl h0 h2
    rw [hv]
    simp only [Option.bind_some]
    by_cases ht : pe (rd_T27 l i) (rd_T104 g i) = 0
    · rw [if_pos ht, if_pos (by omega), up64 h0 (by omega), ih k _ (i + 1) (by omega) (by omega) (by simp; omega) (by omega), hp ht, fp_ok (t := l.getD i.toNat z27) (x := g.getD i.toNat z104) ht]
      by_cases hf : fp (l.drop (i + 1).toNat) (g.drop (i + 1).toNat) = 0
      · rw [if_pos hf, if_pos hf]; simp [rd_T27, rd_T104]
      · rw [if_neg hf, if_neg hf]
    · rw [if_neg ht, fp_bad (t := l.getD i.toNat z27) (x := g.getD i.toNat z104) ht, if_neg (show ¬ pe (l.getD i.toNat z27) (g.getD i.toNat z104) = 0 from ht)]; rfl
/-- One of the losses is negative. -/
def neg : List S25 → Bool
  | [] => false
  | x :: r => decide (x.f0 < 0) || neg r
theorem lcheck_l0 (q : List S25) (hn : q.length ≤ 1000) (d : Nat) : ∀ (k : Nat) (i : Int), 0 ≤ i → (q.length : Int) - i = d → d < k →
    gauge_losses.l0 k q (q.length : Int) i = some (if neg (q.drop i.toNat) = true then ([], 15) else (q, 0)) := by
  induction d with
  | zero =>
    intro k i h0 hd hk
    obtain ⟨k, rfl⟩ : ∃ m, k = m + 1 := ⟨k - 1, by omega⟩
    rw [drop_end q (by omega)]
    simp only [gauge_losses.l0]
    rw [if_neg (by omega)]; simp [neg]
  | succ d ih =>
    intro k i h0 hd hk
    obtain ⟨k, rfl⟩ : ∃ m, k = m + 1 := ⟨k - 1, by omega⟩
    have h1 : i < (q.length : Int) := by omega
    rw [drop_rd q z25 h0 h1]
    simp only [gauge_losses.l0]
    rw [if_pos h1, if_pos h0, if_pos h1]
    have hd1 : neg (q.getD i.toNat z25 :: q.drop (i + 1).toNat) = (decide ((rd_T25 q i).f0 < 0) || neg (q.drop (i + 1).toNat)) := rfl
    rw [hd1]
    by_cases hL : (rd_T25 q i).f0 < 0
    · rw [if_pos hL, decide_eq_true hL]; simp
    · rw [if_neg hL, decide_eq_false hL, up64 h0 (by omega), ih k (i + 1) (by omega) (by omega) (by omega)]; simp
/-- The error of the losses. -/
def lz (l : List S27) (g : List S104) : Int := if ce l = 0 then (if g.length = l.length then (if fp l g = 0 then (if neg (List.zipWith pl l g) = true then 15 else 0) else fp l g) else 8) else ce l
theorem glosses (k : Nat) (hk : 40 ≤ k) (l : List S27) (g : List S104) : gauge_losses.f k l g = some (if lz l g = 0 then List.zipWith pl l g else [], lz l g) := by
  unfold gauge_losses.f lz
  rw [gvirtual k hk]
  by_cases hc : ce l = 0
  · rw [if_pos hc, if_pos hc]
    simp only [Option.bind_some, if_true]
    obtain ⟨hn1, hn2, hl⟩ := ce_ok hc
    by_cases he : g.length = l.length
    · rw [if_pos (by omega), if_pos he]
      simp only [api_Limits.f]
      rw [lmap_l0 l g (by omega) he hl g.length k [] 0 (by omega) (by omega) (by simp; omega) (by omega)]
      simp only [Int.toNat_zero, List.drop_zero, List.nil_append, Option.bind_some]
      by_cases hf : fp l g = 0
      · rw [if_pos hf, if_pos hf]
        simp only [if_true]
        rw [lcheck_l0 _ (by simp; omega) (List.zipWith pl l g).length k 0 (by omega) (by omega) (by simp; omega)]
        simp only [Int.toNat_zero, List.drop_zero]
        by_cases hg : neg (List.zipWith pl l g) = true
        · rw [if_pos hg, if_pos hg]; rfl
        · rw [if_neg hg, if_neg hg]; rfl
      · rw [if_neg hf, if_neg hf]
        simp only
        rw [if_neg hf, if_neg hf]
    · rw [if_neg (by omega), if_neg he]; rfl
  · rw [if_neg hc, if_neg hc]
    simp only [Option.bind_some]
    rw [if_neg hc, if_neg hc]
theorem gsafe (k : Nat) (hk : 40 ≤ k) (l : List S27) (g : List S104) : gauge_Safe.f k l g = some (lz l g) := by
  unfold gauge_Safe.f
  rw [glosses k hk]; rfl
end Go.Proofs.YtjemaonejkepcaaDoor.G
namespace Go.Proofs.YtjemaonejkepcaaDoor.G
open Go.Proofs.YtjemaonejkepcaaDoor.B
open Go.RowKit Go.Proofs.YtjemaonejkepcaaDoorW.PrintWords Go.Proofs.YtjemaonejkepcaaDoorW.PrintLast Go.Proofs.YtjemaonejkepcaaDoorW.PrintMore
attribute [local go_sem] max2_int min2_int max_two min_two max_three min_three max_four min_four   -- for this text's walks alone
set_option linter.unusedVariables false
set_option linter.unusedSimpArgs false
def metrolablaw47_GaugeGuards.j0 : Nat → List (S27) → List (S104) → Bool → Option (Bool)
  | 0, _, _, _ => none
  | k + 1, x0, x1, x12 => if x12 = true then ((metrolablaw47_awake.f k).bind fun t301 => (some t301)) else ((gauge_Safe.f k x0 x1).bind fun t302 => ((metrolablaw47_elements.f k x1).bind fun t303 => ((metrolabref47_Safe.f k x0 t303).bind fun t306 => (if t302 = t306 then ((metrolablaw47_awake.f k).bind fun t307 => (some t307)) else (some false)))))
def metrolablaw47_GaugeGuards.f (k : Nat) (l0 : List (S27)) (l1 : List (S104)) : Option (Bool) := (metrolablaw47_few.f l0).bind fun t300 => (if t300 = true then (metrolablaw47_GaugeGuards.j0 k l0 l1 (decide ((l1.length : Int) > 40))) else (metrolablaw47_GaugeGuards.j0 k l0 l1 true))
theorem metrolablaw47_GaugeGuards.mono_l : ∀ k, (∀ y0 y1 y2, LeO (metrolablaw47_GaugeGuards.j0 k y0 y1 y2) (metrolablaw47_GaugeGuards.j0 (k + 1) y0 y1 y2))
  | 0 => fun _ _ _ r h => by simp [metrolablaw47_GaugeGuards.j0] at h
  | k + 1 => by
    have ih0 := metrolablaw47_GaugeGuards.mono_l k
    · intro y0 y1 y2
      unfold metrolablaw47_GaugeGuards.j0
      repeat' first
      | (with_reducible exact ih0 _ _ _)
      | (with_reducible exact gauge_Safe.mono _ _ _)
      | (with_reducible exact metrolablaw47_awake.mono _)
      | (with_reducible exact metrolablaw47_elements.mono _ _)
      | (with_reducible exact metrolabref47_Safe.mono _ _ _)
      | (with_reducible exact LeO.refl _)
      | (with_reducible exact LeO.none _)
      | (with_reducible refine LeO.ite ?_ ?_)
      | (with_reducible refine LeO.bind ?_ (fun _ => ?_))
      | exact ih0 _ _ _
      | exact gauge_Safe.mono _ _ _
      | exact metrolablaw47_awake.mono _
      | exact metrolablaw47_elements.mono _ _
      | exact metrolabref47_Safe.mono _ _ _
      | exact LeO.none _
      | refine LeO.ite ?_ ?_
      | refine LeO.bind ?_ (fun _ => ?_)
theorem metrolablaw47_GaugeGuards.mono : ∀ a0 a1 k, LeO (metrolablaw47_GaugeGuards.f k a0 a1) (metrolablaw47_GaugeGuards.f (k + 1) a0 a1) := by
  intro a0 a1 k
  have ih0 := metrolablaw47_GaugeGuards.mono_l k
  unfold metrolablaw47_GaugeGuards.f
  repeat' first
      | (with_reducible exact ih0 _ _ _)
      | (with_reducible exact gauge_Safe.mono _ _ _)
      | (with_reducible exact metrolablaw47_awake.mono _)
      | (with_reducible exact metrolablaw47_elements.mono _ _)
      | (with_reducible exact metrolabref47_Safe.mono _ _ _)
      | (with_reducible exact LeO.refl _)
      | (with_reducible exact LeO.none _)
      | (with_reducible refine LeO.ite ?_ ?_)
      | (with_reducible refine LeO.bind ?_ (fun _ => ?_))
      | exact ih0 _ _ _
      | exact gauge_Safe.mono _ _ _
      | exact metrolablaw47_awake.mono _
      | exact metrolablaw47_elements.mono _ _
      | exact metrolabref47_Safe.mono _ _ _
      | exact LeO.none _
      | refine LeO.ite ?_ ?_
      | refine LeO.bind ?_ (fun _ => ?_)
set_option maxHeartbeats 8000000 in
set_option maxRecDepth 100000 in
theorem metrolablaw47_GaugeGuards.calls (k : Nat) (A0 : Option Addr) (c0 : Nat) (l0 : List (S27)) (A1 : Option Addr) (c1 : Nat) (l1 : List (S104)) (r : Bool) (w : World) (hr0 : Kd.C k27 w A0 l0.length l0) (hc0 : l0.length ≤ c0) (hr1 : Kd.C k104 w A1 l1.length l1) (hc1 : l1.length ≤ c1) (h : metrolablaw47_GaugeGuards.f k l0 l1 = some r) (hS : SignsAt w) :
    Calls Tryd.prog 13 #[.slice A0 l0.length c0, .slice A1 l1.length c1] w fun e w' => e = .returned (.bool r) ∧ Below w.heap.size w w' := by
  have HS := Aside0.mk hS
  clear hS
  have HR0 := Aside0.mk hr0
  have HC0 := Aside0.mk hc0
  clear hr0 hc0
  have HR1 := Aside0.mk hr1
  have HC1 := Aside0.mk hc1
  clear hr1 hc1
  have HB := Aside0.mk (Below.refl w.heap.size w)
  have H : ((metrolablaw47_few.f l0).bind fun t300 => (if t300 = true then (metrolablaw47_GaugeGuards.j0 k l0 l1 (decide ((l1.length : Int) > 40))) else (metrolablaw47_GaugeGuards.j0 k l0 l1 true))) = some r := h
  clear h
  have HC3 := Aside0.mk H
  clear H
  go_enter Tryd.func13, Tryd.ntmps13
  go_upto_region 1 with (fail)
  go_cut [12] (fun v12 wc => ∃ (kq : Nat) (x12_2 : Bool), v12 = .bool x12_2 ∧ Aside0 (metrolablaw47_GaugeGuards.j0 kq l0 l1 x12_2 = some r) ∧ Aside0 (kq ≤ k) ∧ Aside0 (Below w.heap.size w wc))
  case first =>
    have H := HC3.out
    clear HC3
    replace H := Option.bind_eq_some_iff.mp H
    obtain ⟨t300, A40, H⟩ := H
    replace H : (if t300 = true then (metrolablaw47_GaugeGuards.j0 k l0 l1 (decide ((l1.length : Int) > 40))) else (metrolablaw47_GaugeGuards.j0 k l0 l1 true)) = some r := H
    have A4 := Aside0.mk A40
    clear A40
    by_cases c5 : t300 = true
    · subst c5
      have H1 : (metrolablaw47_GaugeGuards.j0 k l0 l1 (decide ((l1.length : Int) > 40))) = some r := by rw [if_pos rfl] at H; exact H
      clear H
      have H := H1
      clear H1
      have H' := Aside0.mk H
      clear H
      go_wp2_with (first | ((with_reducible refine gate_callee (f := 29) rfl ?_); refine goesL_ (some 6) rfl rfl Tryd.func29 (by kernel_rfl) rfl #[.slice A0 l0.length c0] rfl (by (try simp only [List.map_toArray, List.map_cons, List.map_nil]); first | done | rfl | (simp only [List.length_drop, List.length_take]; rfl)) ?_; (with_reducible refine (metrolablaw47_few.calls _ _ l0 true _ ?side1 ?side2 A4.out).mono ?_); (case side1 => repeat (first | exact (Kd.C_below HR0.out HB.out) | (with_reducible refine Kd.C_alloc ?_ _) | (with_reducible refine Kd.C_drewN ?_ _) | (with_reducible refine Kd.C_drew ?_))); (case side2 => exact HC0.out); rintro e w' ⟨rfl, ⟨nd, rfl⟩⟩; refine ⟨_, rfl, ?_⟩))
      go_meet
      case rel => exact ⟨_, (decide ((l1.length : Int) > 40)), (by first | rfl | (simp; done) | (simp [*]; done)), H', ⟨by first | omega | exact Nat.le_refl _⟩, ⟨by repeat (first | (with_reducible first | exact HB.out | apply below_alloc | apply pw_below_drewN | apply below_drew1) | exact HB.out)⟩⟩
    · replace c5 := Bool.eq_false_iff.mpr c5
      subst c5
      have H1 : (metrolablaw47_GaugeGuards.j0 k l0 l1 true) = some r := by rw [if_neg (show ¬ (false = true) by decide)] at H; exact H
      clear H
      have H := H1
      clear H1
      have H' := Aside0.mk H
      clear H
      go_wp2_with (first | ((with_reducible refine gate_callee (f := 29) rfl ?_); refine goesL_ (some 6) rfl rfl Tryd.func29 (by kernel_rfl) rfl #[.slice A0 l0.length c0] rfl (by (try simp only [List.map_toArray, List.map_cons, List.map_nil]); first | done | rfl | (simp only [List.length_drop, List.length_take]; rfl)) ?_; (with_reducible refine (metrolablaw47_few.calls _ _ l0 false _ ?side1 ?side2 A4.out).mono ?_); (case side1 => repeat (first | exact (Kd.C_below HR0.out HB.out) | (with_reducible refine Kd.C_alloc ?_ _) | (with_reducible refine Kd.C_drewN ?_ _) | (with_reducible refine Kd.C_drew ?_))); (case side2 => exact HC0.out); rintro e w' ⟨rfl, ⟨nd, rfl⟩⟩; refine ⟨_, rfl, ?_⟩))
      go_meet
      case rel => exact ⟨_, (true), (by first | rfl | (simp; done) | (simp [*]; done)), H', ⟨by first | omega | exact Nat.le_refl _⟩, ⟨by repeat (first | (with_reducible first | exact HB.out | apply below_alloc | apply pw_below_drewN | apply below_drew1) | exact HB.out)⟩⟩
  case rest =>
    clear HC3
    try clear c1
    try clear c2
    try clear p2
    try clear c5
    obtain ⟨kq, x12_2, rfl, HA, HJ2, HB⟩ := hcut
    cases kq with
    | zero => exact absurd HA.out (by simp [metrolablaw47_GaugeGuards.j0])
    | succ kj2 =>
      have H := HA.out
      clear HA
      simp only [metrolablaw47_GaugeGuards.j0] at H
      by_cases c6 : x12_2 = true
      · subst c6
        have H1 : ((metrolablaw47_awake.f kj2).bind fun t301 => (some t301)) = some r := by rw [if_pos rfl] at H; exact H
        clear H
        have H := H1
        clear H1
        replace H := Option.bind_eq_some_iff.mp H
        obtain ⟨t301, A70, H⟩ := H
        replace H : (some t301) = some r := H
        have A7 := Aside0.mk A70
        clear A70
        obtain rfl := Option.some.inj H
        go_wp2_with (first | ((with_reducible refine gate_callee (f := 30) rfl ?_); refine goesL_ (some 13) rfl rfl Tryd.func30 (by kernel_rfl) rfl #[] rfl (by (try simp only [List.map_toArray, List.map_cons, List.map_nil]); first | done | rfl | (simp only [List.length_drop, List.length_take]; rfl)) ?_; (with_reducible refine (metrolablaw47_awake.calls kj2  t301 _ A7.out (by exact sig_below HS.out (by repeat (first | (with_reducible first | exact HB.out | apply below_alloc | apply pw_below_drewN | apply below_drew1 | fail) | exact HB.out)))).mono ?_); rintro e w8 ⟨rfl, hb⟩; refine ⟨_, rfl, ?_⟩; have n0_ := Aside0.mk (below_step (by repeat (first | (with_reducible first | exact HB.out | apply below_alloc | apply pw_below_drewN | apply below_drew1) | exact HB.out)) hb); clear HB; have HB := n0_; clear n0_; (try clear hb); (try clear hb2); (try clear hk); (try clear hi)))
        go_ret
        exact ⟨by first | rfl | (simp [errW_none, errW_some] <;> rfl) | (simp [*, errW_none, errW_some] <;> rfl), by repeat (first | (with_reducible first | exact HB.out | apply below_alloc | apply pw_below_drewN | apply below_drew1) | exact HB.out)⟩
      · replace c6 := Bool.eq_false_iff.mpr c6
        subst c6
        have H1 : ((gauge_Safe.f kj2 l0 l1).bind fun t302 => ((metrolablaw47_elements.f kj2 l1).bind fun t303 => ((metrolabref47_Safe.f kj2 l0 t303).bind fun t306 => (if t302 = t306 then ((metrolablaw47_awake.f kj2).bind fun t307 => (some t307)) else (some false))))) = some r := by rw [if_neg (show ¬ (false = true) by decide)] at H; exact H
        clear H
        have H := H1
        clear H1
        replace H := Option.bind_eq_some_iff.mp H
        obtain ⟨t302, A90, H⟩ := H
        replace H : ((metrolablaw47_elements.f kj2 l1).bind fun t303 => ((metrolabref47_Safe.f kj2 l0 t303).bind fun t306 => (if t302 = t306 then ((metrolablaw47_awake.f kj2).bind fun t307 => (some t307)) else (some false)))) = some r := H
        have A9 := Aside0.mk A90
        clear A90
        replace H := Option.bind_eq_some_iff.mp H
        obtain ⟨t303, A100, H⟩ := H
        replace H : ((metrolabref47_Safe.f kj2 l0 t303).bind fun t306 => (if t302 = t306 then ((metrolablaw47_awake.f kj2).bind fun t307 => (some t307)) else (some false))) = some r := H
        have A10 := Aside0.mk A100
        clear A100
        replace H := Option.bind_eq_some_iff.mp H
        obtain ⟨t306, A110, H⟩ := H
        replace H : (if t302 = t306 then ((metrolablaw47_awake.f kj2).bind fun t307 => (some t307)) else (some false)) = some r := H
        have A11 := Aside0.mk A110
        clear A110
        by_cases c12 : t302 = t306
        · rw [if_pos c12] at H
          have c12b0 : (t302 == t306) = true := beq_iff_eq.mpr c12
          have c12b1 : (t302 != t306) = false := bne_eq_false_iff_eq.mpr c12
          clear c12
          replace H := Option.bind_eq_some_iff.mp H
          obtain ⟨t307, A130, H⟩ := H
          replace H : (some t307) = some r := H
          have A13 := Aside0.mk A130
          clear A130
          obtain rfl := Option.some.inj H
          go_wp2_with (first | ((with_reducible refine gate_callee (f := 33) rfl ?_); refine goesL_ (some 16) rfl rfl Tryd.func33 (by kernel_rfl) rfl #[.slice A0 l0.length c0, .slice A1 l1.length c1] rfl (by (try simp only [List.map_toArray, List.map_cons, List.map_nil]); first | done | rfl | (simp only [List.length_drop, List.length_take]; rfl)) ?_; (with_reducible refine (gauge_Safe.calls kj2 _ _ l0 _ _ l1 t302 _ ?side1 ?side2 ?side3 ?side4 A9.out (by exact sig_below HS.out (by repeat (first | (with_reducible first | exact HB.out | apply below_alloc | apply pw_below_drewN | apply below_drew1 | fail) | exact HB.out)))).mono ?_); (case side1 => repeat (first | exact (Kd.C_below HR0.out HB.out) | (with_reducible refine Kd.C_alloc ?_ _) | (with_reducible refine Kd.C_drewN ?_ _) | (with_reducible refine Kd.C_drew ?_))); (case side2 => exact HC0.out); (case side3 => repeat (first | exact (Kd.C_below HR1.out HB.out) | (with_reducible refine Kd.C_alloc ?_ _) | (with_reducible refine Kd.C_drewN ?_ _) | (with_reducible refine Kd.C_drew ?_))); (case side4 => exact HC1.out); rintro e w14 ⟨rfl, hb⟩; refine ⟨_, rfl, ?_⟩; have n0_ := Aside0.mk (below_step (by repeat (first | (with_reducible first | exact HB.out | apply below_alloc | apply pw_below_drewN | apply below_drew1) | exact HB.out)) hb); clear HB; have HB := n0_; clear n0_; (try clear hb); (try clear hb2); (try clear hk); (try clear hi)) | ((with_reducible refine gate_callee (f := 57) rfl ?_); refine goesL_ (some 19) rfl rfl Tryd.func57 (by kernel_rfl) rfl #[.slice A1 l1.length c1] rfl (by (try simp only [List.map_toArray, List.map_cons, List.map_nil]); first | done | rfl | (simp only [List.length_drop, List.length_take]; rfl)) ?_; (with_reducible refine (metrolablaw47_elements.calls kj2 _ _ l1 t303 _ ?side1 ?side2 A10.out).mono ?_); (case side1 => repeat (first | exact (Kd.C_below HR1.out HB.out) | (with_reducible refine Kd.C_alloc ?_ _) | (with_reducible refine Kd.C_drewN ?_ _) | (with_reducible refine Kd.C_drew ?_))); (case side2 => exact HC1.out); rintro e w15 ⟨v304, rfl, ho0, hb⟩; refine ⟨_, rfl, ?_⟩; have n0_ := Aside0.mk (Kd.R_lower ho0 (below_size (by repeat (first | (with_reducible first | exact HB.out | apply below_alloc | apply pw_below_drewN | apply below_drew1) | exact HB.out)))); have n1_ := Aside0.mk (below_step (by repeat (first | (with_reducible first | exact HB.out | apply below_alloc | apply pw_below_drewN | apply below_drew1) | exact HB.out)) hb); clear HB; have HO305 := n0_; have HB := n1_; clear n0_ n1_; (try clear hb); (try clear hb2); (try clear hk); (try clear hi); (try clear ho0); obtain ⟨Ao16, co16, eo16⟩ := Kd.R_slice HO305.out; subst eo16) | ((with_reducible refine gate_callee (f := 56) rfl ?_); refine goesL_ (some 20) rfl rfl Tryd.func56 (by kernel_rfl) rfl #[.slice A0 l0.length c0, .slice Ao16 t303.length co16] rfl (by (try simp only [List.map_toArray, List.map_cons, List.map_nil]); first | done | rfl | (simp only [List.length_drop, List.length_take]; rfl)) ?_; (with_reducible refine (metrolabref47_Safe.calls kj2 _ _ l0 _ _ t303 t306 _ ?side1 ?side2 ?side3 ?side4 A11.out).mono ?_); (case side1 => repeat (first | exact (Kd.C_below HR0.out HB.out) | (with_reducible refine Kd.C_alloc ?_ _) | (with_reducible refine Kd.C_drewN ?_ _) | (with_reducible refine Kd.C_drew ?_))); (case side2 => exact HC0.out); (case side3 => repeat (first | exact (Kd.R_reads' HO305.out).2.2 | (with_reducible refine Kd.C_alloc ?_ _) | (with_reducible refine Kd.C_drewN ?_ _) | (with_reducible refine Kd.C_drew ?_))); (case side4 => exact (Kd.R_reads' HO305.out).2.1); rintro e w17 ⟨rfl, hb⟩; refine ⟨_, rfl, ?_⟩; have n0_ := Aside0.mk (Kd.R_below (by (with_reducible repeat (first | apply Kd.R_alloc | apply Kd.R_drewN | apply Kd.R_drew)); exact HO305.out) hb); have n1_ := Aside0.mk (below_step (by repeat (first | (with_reducible first | exact HB.out | apply below_alloc | apply pw_below_drewN | apply below_drew1) | exact HB.out)) hb); clear HO305; clear HB; have HO305 := n0_; have HB := n1_; clear n0_ n1_; (try clear hb); (try clear hb2); (try clear hk); (try clear hi)) | (go_at_call 30; (with_reducible refine (metrolablaw47_awake.calls kj2  t307 _ A13.out (by exact sig_below HS.out (by repeat (first | (with_reducible first | exact HB.out | apply below_alloc | apply pw_below_drewN | apply below_drew1 | fail) | exact HB.out)))).mono ?_); rintro e w18 ⟨rfl, hb⟩; have n0_ := Aside0.mk (Kd.R_below (by (with_reducible repeat (first | apply Kd.R_alloc | apply Kd.R_drewN | apply Kd.R_drew)); exact HO305.out) hb); have n1_ := Aside0.mk (below_step (by repeat (first | (with_reducible first | exact HB.out | apply below_alloc | apply pw_below_drewN | apply below_drew1) | exact HB.out)) hb); clear HO305; clear HB; have HO305 := n0_; have HB := n1_; clear n0_ n1_; (try clear hb); (try clear hb2); (try clear hk); (try clear hi)))
          go_ret
          exact ⟨by first | rfl | (simp [errW_none, errW_some] <;> rfl) | (simp [*, errW_none, errW_some] <;> rfl), by repeat (first | (with_reducible first | exact HB.out | apply below_alloc | apply pw_below_drewN | apply below_drew1) | exact HB.out)⟩
        · rw [if_neg c12] at H
          have c12b0 : (t302 == t306) = false := beq_eq_false_iff_ne.mpr c12
          have c12b1 : (t302 != t306) = true := bne_iff_ne.mpr c12
          obtain rfl := Option.some.inj H
          go_wp2_with (first | ((with_reducible refine gate_callee (f := 33) rfl ?_); refine goesL_ (some 16) rfl rfl Tryd.func33 (by kernel_rfl) rfl #[.slice A0 l0.length c0, .slice A1 l1.length c1] rfl (by (try simp only [List.map_toArray, List.map_cons, List.map_nil]); first | done | rfl | (simp only [List.length_drop, List.length_take]; rfl)) ?_; (with_reducible refine (gauge_Safe.calls kj2 _ _ l0 _ _ l1 t302 _ ?side1 ?side2 ?side3 ?side4 A9.out (by exact sig_below HS.out (by repeat (first | (with_reducible first | exact HB.out | apply below_alloc | apply pw_below_drewN | apply below_drew1 | fail) | exact HB.out)))).mono ?_); (case side1 => repeat (first | exact (Kd.C_below HR0.out HB.out) | (with_reducible refine Kd.C_alloc ?_ _) | (with_reducible refine Kd.C_drewN ?_ _) | (with_reducible refine Kd.C_drew ?_))); (case side2 => exact HC0.out); (case side3 => repeat (first | exact (Kd.C_below HR1.out HB.out) | (with_reducible refine Kd.C_alloc ?_ _) | (with_reducible refine Kd.C_drewN ?_ _) | (with_reducible refine Kd.C_drew ?_))); (case side4 => exact HC1.out); rintro e w19 ⟨rfl, hb⟩; refine ⟨_, rfl, ?_⟩; have n0_ := Aside0.mk (below_step (by repeat (first | (with_reducible first | exact HB.out | apply below_alloc | apply pw_below_drewN | apply below_drew1) | exact HB.out)) hb); clear HB; have HB := n0_; clear n0_; (try clear hb); (try clear hb2); (try clear hk); (try clear hi)) | ((with_reducible refine gate_callee (f := 57) rfl ?_); refine goesL_ (some 19) rfl rfl Tryd.func57 (by kernel_rfl) rfl #[.slice A1 l1.length c1] rfl (by (try simp only [List.map_toArray, List.map_cons, List.map_nil]); first | done | rfl | (simp only [List.length_drop, List.length_take]; rfl)) ?_; (with_reducible refine (metrolablaw47_elements.calls kj2 _ _ l1 t303 _ ?side1 ?side2 A10.out).mono ?_); (case side1 => repeat (first | exact (Kd.C_below HR1.out HB.out) | (with_reducible refine Kd.C_alloc ?_ _) | (with_reducible refine Kd.C_drewN ?_ _) | (with_reducible refine Kd.C_drew ?_))); (case side2 => exact HC1.out); rintro e w20 ⟨v304, rfl, ho0, hb⟩; refine ⟨_, rfl, ?_⟩; have n0_ := Aside0.mk (Kd.R_lower ho0 (below_size (by repeat (first | (with_reducible first | exact HB.out | apply below_alloc | apply pw_below_drewN | apply below_drew1) | exact HB.out)))); have n1_ := Aside0.mk (below_step (by repeat (first | (with_reducible first | exact HB.out | apply below_alloc | apply pw_below_drewN | apply below_drew1) | exact HB.out)) hb); clear HB; have HO305 := n0_; have HB := n1_; clear n0_ n1_; (try clear hb); (try clear hb2); (try clear hk); (try clear hi); (try clear ho0); obtain ⟨Ao21, co21, eo21⟩ := Kd.R_slice HO305.out; subst eo21) | ((with_reducible refine gate_callee (f := 56) rfl ?_); refine goesL_ (some 20) rfl rfl Tryd.func56 (by kernel_rfl) rfl #[.slice A0 l0.length c0, .slice Ao21 t303.length co21] rfl (by (try simp only [List.map_toArray, List.map_cons, List.map_nil]); first | done | rfl | (simp only [List.length_drop, List.length_take]; rfl)) ?_; (with_reducible refine (metrolabref47_Safe.calls kj2 _ _ l0 _ _ t303 t306 _ ?side1 ?side2 ?side3 ?side4 A11.out).mono ?_); (case side1 => repeat (first | exact (Kd.C_below HR0.out HB.out) | (with_reducible refine Kd.C_alloc ?_ _) | (with_reducible refine Kd.C_drewN ?_ _) | (with_reducible refine Kd.C_drew ?_))); (case side2 => exact HC0.out); (case side3 => repeat (first | exact (Kd.R_reads' HO305.out).2.2 | (with_reducible refine Kd.C_alloc ?_ _) | (with_reducible refine Kd.C_drewN ?_ _) | (with_reducible refine Kd.C_drew ?_))); (case side4 => exact (Kd.R_reads' HO305.out).2.1); rintro e w22 ⟨rfl, hb⟩; refine ⟨_, rfl, ?_⟩; have n0_ := Aside0.mk (Kd.R_below (by (with_reducible repeat (first | apply Kd.R_alloc | apply Kd.R_drewN | apply Kd.R_drew)); exact HO305.out) hb); have n1_ := Aside0.mk (below_step (by repeat (first | (with_reducible first | exact HB.out | apply below_alloc | apply pw_below_drewN | apply below_drew1) | exact HB.out)) hb); clear HO305; clear HB; have HO305 := n0_; have HB := n1_; clear n0_ n1_; (try clear hb); (try clear hb2); (try clear hk); (try clear hi)))
          go_ret
          exact ⟨by first | rfl | (simp [errW_none, errW_some] <;> rfl) | (simp [*, errW_none, errW_some] <;> rfl), by repeat (first | (with_reducible first | exact HB.out | apply below_alloc | apply pw_below_drewN | apply below_drew1) | exact HB.out)⟩
end Go.Proofs.YtjemaonejkepcaaDoor.G
namespace Go.Proofs.YtjemaonejkepcaaDoor.G
set_option linter.unusedVariables false
set_option linter.unusedSimpArgs false
open Go.Proofs.YtjemaonejkepcaaDoor.B
open Go.RowKit Go.Proofs.YtjemaonejkepcaaDoorW.PrintWords
theorem beyond_ok {t : S27} (h : te t = 0) (n : Int) : metrolabref47_Beyond.f t.f0.f0 t.f0.f1 t.f1.f0 t.f1.f1 t.f2 t.f3 t.f4 n = some (if t.f4 = true then decide (tv t < n) else decide (n < tv t)) := by
  unfold metrolabref47_Beyond.f
  rw [gauge_ok (te_ok h).1]
  simp only [Option.bind_some, gt_iff_lt]
  rw [show vir t.f1.f0 t.f1.f1 t.f2 t.f3 t.f4 = tv t from rfl]
  split <;> rfl
theorem el_at (g : List S104) {i : Int} (h1 : i.toNat < g.length) : rd_T141 (g.map el) i = el (rd_T104 g i) := getD_map el g z104 z141 h1
theorem rsafe_l1 (l : List S27) (g : List S104) (hn : l.length ≤ 1000) (he : g.length = l.length) (hl : ∀ t ∈ l, te t = 0) (d : Nat) : ∀ (k : Nat) (i : Int), 0 ≤ i → (g.length : Int) - i = d → d + 4 ≤ k → fp (l.drop i.toNat) (g.drop i.toNat) = 0 →
    metrolabref47_Safe.l1 k l (g.map el) i = some (if neg (List.zipWith pl (l.drop i.toNat) (g.drop i.toNat)) = true then 15 else 0) := by
  induction d with
  | zero =>
    intro k i h0 hd hk hf
    obtain ⟨k, rfl⟩ : ∃ m, k = m + 1 := ⟨k - 1, by omega⟩
    rw [drop_end l (by omega), drop_end g (by omega)]
    simp only [metrolabref47_Safe.l1]
    rw [if_neg (by simp; omega)]; simp [neg]
  | succ d ih =>
    intro k i h0 hd hk hf
    obtain ⟨k, rfl⟩ : ∃ m, k = m + 1 := ⟨k - 1, by omega⟩
    have h1 : i < (g.length : Int) := by omega
    have h2 : i < (l.length : Int) := by omega
    have hdr : l.drop i.toNat = rd_T27 l i :: l.drop (i + 1).toNat := drop_rd l z27 h0 h2
    have hdg : g.drop i.toNat = rd_T104 g i :: g.drop (i + 1).toNat := drop_rd g z104 h0 h1
    have hm : te (rd_T27 l i) = 0 := hl _ (List.mem_of_mem_drop (by rw [hdr]; exact List.mem_cons_self))
    rw [hdr, hdg] at hf ⊢
    have hp : pe (rd_T27 l i) (rd_T104 g i) = 0 := by
      by_cases hp : pe (rd_T27 l i) (rd_T104 g i) = 0
      · exact hp
      · rw [fp_bad hp] at hf; exact hf
    rw [fp_ok hp] at hf
    have hih := ih k (i + 1) (by omega) (by omega) (by omega) hf
    have hg1 : i < ((g.map el).length : Int) := by simpa using h1
    simp only [metrolabref47_Safe.l1]
    rw [if_pos hg1, if_pos h0, if_pos h2, el_at g (by omega), beyond_ok hm, beyond_ok hm, up64 h0 (by omega), hih]
    simp only [Option.bind_some]
    have hz : neg (List.zipWith pl (rd_T27 l i :: l.drop (i + 1).toNat) (rd_T104 g i :: g.drop (i + 1).toNat)) = (decide ((pl (rd_T27 l i) (rd_T104 g i)).f0 < 0) || neg (List.zipWith pl (l.drop (i + 1).toNat) (g.drop (i + 1).toNat))) := rfl
    rw [hz]
    obtain ⟨hb, _, _, hh⟩ := pe_ok hp
    generalize rd_T27 l i = t at *
    generalize rd_T104 g i = x at *
    generalize neg (List.zipWith pl (l.drop (i + 1).toNat) (g.drop (i + 1).toNat)) = b
    rw [show (el x).f2.f0 = x.f2.f0 from rfl, show (el x).f2.f1 = x.f2.f1 from rfl]
    cases hp4 : t.f4 with
    | true =>
      have hq : (pl t x).f0 = tv t - x.f2.f1 := by unfold pl; rw [if_pos (hh.trans hp4)]
      rw [hq]
      simp only [if_true]
      by_cases c1 : tv t < x.f2.f1
      · rw [decide_eq_true (show tv t - x.f2.f1 < 0 by omega), decide_eq_true c1]
        split <;> simp
      · rw [decide_eq_false (show ¬ tv t - x.f2.f1 < 0 by omega), decide_eq_false c1, decide_eq_false (show ¬ tv t < x.f2.f0 by omega)]
        simp
    | false =>
      have hq : (pl t x).f0 = x.f2.f0 - tv t := by unfold pl; rw [hh, hp4, if_neg Bool.false_ne_true]
      rw [hq]
      simp only [Bool.false_eq_true, if_false]
      by_cases c1 : x.f2.f0 < tv t
      · rw [decide_eq_true (show x.f2.f0 - tv t < 0 by omega), decide_eq_true c1]
        simp
      · rw [decide_eq_false (show ¬ x.f2.f0 - tv t < 0 by omega), decide_eq_false c1, decide_eq_false (show ¬ x.f2.f1 < tv t by omega)]
        simp
theorem rsafe_l0 (l : List S27) (g : List S104) (hn : l.length ≤ 1000) (he : g.length = l.length) (hl : ∀ t ∈ l, te t = 0) (d : Nat) : ∀ (k : Nat) (i : Int), 0 ≤ i → (g.length : Int) - i = d → d + 1010 ≤ k →
    (∀ j, fp (l.drop i.toNat) (g.drop i.toNat) = 0 → metrolabref47_Safe.l1 (1005 + j) l (g.map el) 0 = some (if neg (List.zipWith pl l g) = true then 15 else 0)) →
    metrolabref47_Safe.l0 k l (g.map el) i = some (if fp (l.drop i.toNat) (g.drop i.toNat) = 0 then (if neg (List.zipWith pl l g) = true then 15 else 0) else fp (l.drop i.toNat) (g.drop i.toNat)) := by
  induction d with
  | zero =>
    intro k i h0 hd hk hq
    obtain ⟨k, rfl⟩ : ∃ m, k = m + 1 := ⟨k - 1, by omega⟩
    rw [drop_end l (by omega), drop_end g (by omega)] at hq ⊢
    simp only [metrolabref47_Safe.l0]
    rw [if_neg (by simp; omega)]
    have := hq (k - 1005) rfl
    rw [show 1005 + (k - 1005) = k by omega] at this
    rw [this]; rfl
  | succ d ih =>
    intro k i h0 hd hk hq
    obtain ⟨k, rfl⟩ : ∃ m, k = m + 1 := ⟨k - 1, by omega⟩
    have h1 : i < (g.length : Int) := by omega
    have h2 : i < (l.length : Int) := by omega
    have hdr : l.drop i.toNat = rd_T27 l i :: l.drop (i + 1).toNat := drop_rd l z27 h0 h2
    have hdg : g.drop i.toNat = rd_T104 g i :: g.drop (i + 1).toNat := drop_rd g z104 h0 h1
    rw [hdr, hdg] at hq ⊢
    have hg1 : i < ((g.map el).length : Int) := by simpa using h1
    simp only [metrolabref47_Safe.l0]
    rw [if_pos hg1, if_pos h0, el_at g (by omega), rlimits k (by omega)]
    simp only [Option.bind_some]
    have hih := fun hh => ih k (i + 1) (by omega) (by omega) (by omega) hh
    generalize rd_T27 l i = t at *
    generalize rd_T104 g i = x at *
    have hpe : pe t x = if lim x.f2.f0 x.f2.f1 = 0 then (if x.f0.f0 = t.f0.f0 ∧ x.f0.f1 = t.f0.f1 ∧ x.f1 = t.f4 then 0 else 16) else lim x.f2.f0 x.f2.f1 := rfl
    rw [show (el x).f0.f0 = x.f0.f0 from rfl, show (el x).f0.f1 = x.f0.f1 from rfl, show (el x).f1 = x.f1 from rfl, show (el x).f2.f0 = x.f2.f0 from rfl, show (el x).f2.f1 = x.f2.f1 from rfl]
    by_cases hL : lim x.f2.f0 x.f2.f1 = 0
    · rw [if_pos hL] at hpe ⊢
      rw [if_pos h2]
      by_cases hc : x.f0.f0 = t.f0.f0 ∧ x.f0.f1 = t.f0.f1 ∧ x.f1 = t.f4
      · rw [if_pos hc] at hpe
        rw [fp_ok hpe] at hq ⊢
        obtain ⟨e1, e2, e3⟩ := hc
        rw [e1, e2, e3, up64 h0 (by omega)]
        simp only [beq_self_eq_true, Bool.not_true, Bool.or_self, Bool.false_eq_true, if_false, bne_self_eq_false]
        exact hih hq
      · rw [if_neg hc] at hpe
        rw [fp_bad (by rw [hpe]; decide), hpe]
        by_cases hA : (!(x.f0.f0 == t.f0.f0) || (!(x.f0.f1 == t.f0.f1))) = true
        · rw [if_pos hA]; rfl
        · rw [if_neg hA]
          by_cases hB : (x.f1 != t.f4) = true
          · rw [if_pos hB]; rfl
          · exfalso; apply hc
            simp at hA hB
            exact ⟨hA.1, hA.2, hB⟩
    · rw [if_neg hL] at hpe ⊢
      rw [fp_bad (by rw [hpe]; exact hL), hpe, if_neg hL]
theorem rsafe (k : Nat) (hk : 2500 ≤ k) (l : List S27) (g : List S104) : metrolabref47_Safe.f k l (g.map el) = some (lz l g) := by
  unfold metrolabref47_Safe.f lz
  rw [rcheck47 k (by omega)]
  simp only [Option.bind_some]
  by_cases hc : ce l = 0
  · rw [if_pos hc, if_pos hc]
    obtain ⟨hn1, hn2, hl⟩ := ce_ok hc
    by_cases he : g.length = l.length
    · rw [if_pos (by simp; omega), if_pos he]
      exact rsafe_l0 l g (by omega) he hl g.length k 0 (by omega) (by omega) (by omega) (fun j hf => rsafe_l1 l g (by omega) he hl g.length (1005 + j) 0 (by omega) (by omega) (by omega) hf)
    · rw [if_neg (by simp; omega), if_neg he]
  · rw [if_neg hc, if_neg hc]
theorem guards_pure (l : List S27) (g : List S104) : ∃ k, metrolablaw47_GaugeGuards.f k l g = some true := by
  refine ⟨4000, ?_⟩
  unfold metrolablaw47_GaugeGuards.f
  simp only [metrolablaw47_few.f, Option.bind_some, decide_eq_true_eq]
  by_cases hn : (l.length : Int) ≤ 32
  · rw [if_pos hn]
    simp only [metrolablaw47_GaugeGuards.j0, decide_eq_true_eq]
    by_cases hg : (g.length : Int) > 40
    · rw [if_pos hg, awake_ok 3999 (by omega)]; rfl
    · rw [if_neg hg, gsafe 3999 (by omega), elements_ok 3999 g (by omega) (by omega)]
      simp only [Option.bind_some]
      rw [rsafe 3999 (by omega)]
      simp only [Option.bind_some, if_true]
      rw [awake_ok 3999 (by omega)]; rfl
  · rw [if_neg hn]
    simp only [metrolablaw47_GaugeGuards.j0, if_true]
    rw [awake_ok 3999 (by omega)]; rfl
end Go.Proofs.YtjemaonejkepcaaDoor.G
