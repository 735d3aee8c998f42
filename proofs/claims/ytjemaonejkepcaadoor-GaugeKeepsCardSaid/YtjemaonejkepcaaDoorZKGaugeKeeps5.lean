/- Texts of the law GaugeKeeps, laid together by a program of this session; what is not reached is cut. In it: words that the kit's print.sh printed, contracts of Go functions printed over the kit's printer, our own laws. Not trusted: Lean checks them. -/
import Derived.Test.YtjemaonejkepcaaDoorZKGaugeKeeps4
namespace Go.Proofs.YtjemaonejkepcaaDoor.B
open Go.RowKit Go.Proofs.YtjemaonejkepcaaDoorW.PrintWords Go.Proofs.YtjemaonejkepcaaDoorW.PrintLast Go.Proofs.YtjemaonejkepcaaDoorW.PrintMore
attribute [local go_sem] max2_int min2_int max_two min_two max_three min_three max_four min_four   -- for this text's walks alone
set_option linter.unusedVariables false
set_option linter.unusedSimpArgs false
def bonus_KeepsBox.f (k : Nat) (a0_0 : Int) (a0_1 : Int) (a0_2 : Int) (a0_3 : Int) (a0_4 : Int) (a0_5 : Int) (a0_6 : Bool) (a1_0 : Int) (a1_1 : Int) (a1_2 : Int) : Option (Bool × Int) := (bonus_both.f k a0_0 a0_1 a0_2 a0_3 a0_4 a0_5 a0_6 a1_0 a1_1 a1_2).bind fun t195 => (if t195 = 0 then ((bonus_gap.f a0_0 a0_1 a0_2 a0_3 a0_4 a0_5 a0_6 a1_0 a1_1 a1_2).bind fun bt196 => ((bonus_of.f a0_0 a0_1 a0_2 a0_3 a0_4 a0_5 a0_6).bind fun bt198 => ((bonus_condition_extra.f bt198.1 bt198.2.1 bt198.2.2.1 bt198.2.2.2.1 bt198.2.2.2.2.1 bt198.2.2.2.2.2.1 bt198.2.2.2.2.2.2.1 bt198.2.2.2.2.2.2.2 a1_2).bind fun t206 => ((bonus_within.f a0_0 a0_1 a0_2 a0_3 a0_4 a0_5 a0_6 a1_2).bind fun t207 => (if t207 = true then (some (decide ((wrap64 (2 * (mx (mx (mx bt196.1 (wrap64 (-bt196.1))) bt196.2) (wrap64 (-bt196.2))))) ≤ (wrap64 (a0_4 + t206))), 0)) else (some (false, 0))))))) else (some (false, t195)))
theorem bonus_KeepsBox.mono : ∀ a0 a1 a2 a3 a4 a5 a6 a7 a8 a9 k, LeO (bonus_KeepsBox.f k a0 a1 a2 a3 a4 a5 a6 a7 a8 a9) (bonus_KeepsBox.f (k + 1) a0 a1 a2 a3 a4 a5 a6 a7 a8 a9) := by
  intro a0 a1 a2 a3 a4 a5 a6 a7 a8 a9 k
  unfold bonus_KeepsBox.f
  repeat' first
      | (with_reducible exact bonus_both.mono _ _ _ _ _ _ _ _ _ _ _)
      | (with_reducible exact LeO.refl _)
      | (with_reducible exact LeO.none _)
      | (with_reducible refine LeO.ite ?_ ?_)
      | (with_reducible refine LeO.bind ?_ (fun _ => ?_))
      | exact bonus_both.mono _ _ _ _ _ _ _ _ _ _ _
      | exact LeO.none _
      | refine LeO.ite ?_ ?_
      | refine LeO.bind ?_ (fun _ => ?_)
def bonus_KeepsBox.T5 : Bool × List (List Nat × List Nat) := (true, [([], []), ([0], [0]), ([], []), ([2], [2]), ([], []), ([4], [4]), ([3, 5, 3], [3, 5]), ([1, 6], [1, 6]), ([7, 6, 0, 1, 2, 3, 4, 5, 6, 7], [7])])
def bonus_KeepsBox.B5 : List Nat := [0, 1, 0, 4, 0, 16, 60, 127, 255]
theorem bonus_KeepsBox.tab5 : rtab .any (opsOf Tryd.f46 5) = bonus_KeepsBox.T5 := by kernel_rfl
theorem bonus_KeepsBox.bits5 : waitsOk bonus_KeepsBox.T5.2 bonus_KeepsBox.B5 = true := by kernel_rfl
set_option maxHeartbeats 8000000 in
set_option maxRecDepth 100000 in
theorem bonus_KeepsBox.calls (k : Nat) (a0_0 : Int) (a0_1 : Int) (a0_2 : Int) (a0_3 : Int) (a0_4 : Int) (a0_5 : Int) (a0_6 : Bool) (a1_0 : Int) (a1_1 : Int) (a1_2 : Int) (r1 : Bool) (r2 : Int) (w : World) (h : bonus_KeepsBox.f k a0_0 a0_1 a0_2 a0_3 a0_4 a0_5 a0_6 a1_0 a1_1 a1_2 = some (r1, r2)) (hS : SignsAt w) :
    Calls Tryd.prog 46 #[.agg #[.int .i64 a0_0, .int .i64 a0_1, .int .i64 a0_2, .int .i64 a0_3, .int .i64 a0_4, .int .i64 a0_5, .bool a0_6], .agg #[.int .i64 a1_0, .int .i64 a1_1, .int .i64 a1_2]] w fun e w' => e = .returned (.tuple #[.bool r1, .int .i64 r2]) ∧ Below w.heap.size w w' := by
  have HS := Aside0.mk hS
  clear hS
  have hu27 := Tryd.underlying27
  have hu68 := Tryd.underlying68
  have HB := Aside0.mk (Below.refl w.heap.size w)
  have H : ((bonus_both.f k a0_0 a0_1 a0_2 a0_3 a0_4 a0_5 a0_6 a1_0 a1_1 a1_2).bind fun t195 => (if t195 = 0 then ((bonus_gap.f a0_0 a0_1 a0_2 a0_3 a0_4 a0_5 a0_6 a1_0 a1_1 a1_2).bind fun bt196 => ((bonus_of.f a0_0 a0_1 a0_2 a0_3 a0_4 a0_5 a0_6).bind fun bt198 => ((bonus_condition_extra.f bt198.1 bt198.2.1 bt198.2.2.1 bt198.2.2.2.1 bt198.2.2.2.2.1 bt198.2.2.2.2.2.1 bt198.2.2.2.2.2.2.1 bt198.2.2.2.2.2.2.2 a1_2).bind fun t206 => ((bonus_within.f a0_0 a0_1 a0_2 a0_3 a0_4 a0_5 a0_6 a1_2).bind fun t207 => (if t207 = true then (some (decide ((wrap64 (2 * (mx (mx (mx bt196.1 (wrap64 (-bt196.1))) bt196.2) (wrap64 (-bt196.2))))) ≤ (wrap64 (a0_4 + t206))), 0)) else (some (false, 0))))))) else (some (false, t195)))) = some (r1, r2) := h
  clear h
  replace H := Option.bind_eq_some_iff.mp H
  obtain ⟨t195, A30, H⟩ := H
  replace H : (if t195 = 0 then ((bonus_gap.f a0_0 a0_1 a0_2 a0_3 a0_4 a0_5 a0_6 a1_0 a1_1 a1_2).bind fun bt196 => ((bonus_of.f a0_0 a0_1 a0_2 a0_3 a0_4 a0_5 a0_6).bind fun bt198 => ((bonus_condition_extra.f bt198.1 bt198.2.1 bt198.2.2.1 bt198.2.2.2.1 bt198.2.2.2.2.1 bt198.2.2.2.2.2.1 bt198.2.2.2.2.2.2.1 bt198.2.2.2.2.2.2.2 a1_2).bind fun t206 => ((bonus_within.f a0_0 a0_1 a0_2 a0_3 a0_4 a0_5 a0_6 a1_2).bind fun t207 => (if t207 = true then (some (decide ((wrap64 (2 * (mx (mx (mx bt196.1 (wrap64 (-bt196.1))) bt196.2) (wrap64 (-bt196.2))))) ≤ (wrap64 (a0_4 + t206))), 0)) else (some (false, 0))))))) else (some (false, t195))) = some (r1, r2) := H
  have A3 := Aside0.mk A30
  clear A30
  by_cases c4 : t195 = 0
  · rw [if_pos c4] at H
    have c4b0 : (t195 == 0) = true := beq_iff_eq.mpr c4
    have c4b1 : (t195 != 0) = false := bne_eq_false_iff_eq.mpr c4
    clear c4
    replace H := Option.bind_eq_some_iff.mp H
    obtain ⟨⟨t196, t197⟩, A50, H⟩ := H
    replace H : ((bonus_of.f a0_0 a0_1 a0_2 a0_3 a0_4 a0_5 a0_6).bind fun bt198 => ((bonus_condition_extra.f bt198.1 bt198.2.1 bt198.2.2.1 bt198.2.2.2.1 bt198.2.2.2.2.1 bt198.2.2.2.2.2.1 bt198.2.2.2.2.2.2.1 bt198.2.2.2.2.2.2.2 a1_2).bind fun t206 => ((bonus_within.f a0_0 a0_1 a0_2 a0_3 a0_4 a0_5 a0_6 a1_2).bind fun t207 => (if t207 = true then (some (decide ((wrap64 (2 * (mx (mx (mx t196 (wrap64 (-t196))) t197) (wrap64 (-t197))))) ≤ (wrap64 (a0_4 + t206))), 0)) else (some (false, 0)))))) = some (r1, r2) := H
    have A5 := Aside0.mk A50
    clear A50
    replace H := Option.bind_eq_some_iff.mp H
    obtain ⟨⟨t198, t199, t200, t201, t202, t203, t204, t205⟩, A60, H⟩ := H
    replace H : ((bonus_condition_extra.f t198 t199 t200 t201 t202 t203 t204 t205 a1_2).bind fun t206 => ((bonus_within.f a0_0 a0_1 a0_2 a0_3 a0_4 a0_5 a0_6 a1_2).bind fun t207 => (if t207 = true then (some (decide ((wrap64 (2 * (mx (mx (mx t196 (wrap64 (-t196))) t197) (wrap64 (-t197))))) ≤ (wrap64 (a0_4 + t206))), 0)) else (some (false, 0))))) = some (r1, r2) := H
    have A6 := Aside0.mk A60
    clear A60
    replace H := Option.bind_eq_some_iff.mp H
    obtain ⟨t206, A70, H⟩ := H
    replace H : ((bonus_within.f a0_0 a0_1 a0_2 a0_3 a0_4 a0_5 a0_6 a1_2).bind fun t207 => (if t207 = true then (some (decide ((wrap64 (2 * (mx (mx (mx t196 (wrap64 (-t196))) t197) (wrap64 (-t197))))) ≤ (wrap64 (a0_4 + t206))), 0)) else (some (false, 0)))) = some (r1, r2) := H
    have A7 := Aside0.mk A70
    clear A70
    replace H := Option.bind_eq_some_iff.mp H
    obtain ⟨t207, A80, H⟩ := H
    replace H : (if t207 = true then (some (decide ((wrap64 (2 * (mx (mx (mx t196 (wrap64 (-t196))) t197) (wrap64 (-t197))))) ≤ (wrap64 (a0_4 + t206))), 0)) else (some (false, 0))) = some (r1, r2) := H
    have A8 := Aside0.mk A80
    clear A80
    by_cases c9 : t207 = true
    · subst c9
      have H1 : (some (decide ((wrap64 (2 * (mx (mx (mx t196 (wrap64 (-t196))) t197) (wrap64 (-t197))))) ≤ (wrap64 (a0_4 + t206))), 0)) = some (r1, r2) := by rw [if_pos rfl] at H; exact H
      clear H
      have H := H1
      clear H1
      obtain ⟨ji10, hji10⟩ : ∃ j_ : Int, (mx t196 (wrap64 (-t196))) = j_ := ⟨_, rfl⟩
      replace H : (some (decide ((wrap64 (2 * (mx (mx (ji10) t197) (wrap64 (-t197))))) ≤ (wrap64 (a0_4 + t206))), 0)) = some (r1, r2) := by first | (rw [hji10] at H; exact H) | (simp only [hji10] at H ⊢; exact H)
      (try rw [hji10] at A3)
      (try rw [hji10] at A5)
      (try rw [hji10] at A6)
      (try rw [hji10] at A7)
      (try rw [hji10] at A8)
      have hji10_ : (if t196 < (wrap64 (-t196)) then (wrap64 (-t196)) else t196) = ji10 := hji10
      obtain ⟨ji11, hji11⟩ : ∃ j_ : Int, (mx (ji10) t197) = j_ := ⟨_, rfl⟩
      replace H : (some (decide ((wrap64 (2 * (mx (ji11) (wrap64 (-t197))))) ≤ (wrap64 (a0_4 + t206))), 0)) = some (r1, r2) := by first | (rw [hji11] at H; exact H) | (simp only [hji11] at H ⊢; exact H)
      (try rw [hji11] at A3)
      (try rw [hji11] at A5)
      (try rw [hji11] at A6)
      (try rw [hji11] at A7)
      (try rw [hji11] at A8)
      have hji11_ : (if (ji10) < t197 then t197 else (ji10)) = ji11 := hji11
      obtain ⟨ji12, hji12⟩ : ∃ j_ : Int, (mx (ji11) (wrap64 (-t197))) = j_ := ⟨_, rfl⟩
      replace H : (some (decide ((wrap64 (2 * (ji12))) ≤ (wrap64 (a0_4 + t206))), 0)) = some (r1, r2) := by first | (rw [hji12] at H; exact H) | (simp only [hji12] at H ⊢; exact H)
      (try rw [hji12] at A3)
      (try rw [hji12] at A5)
      (try rw [hji12] at A6)
      (try rw [hji12] at A7)
      (try rw [hji12] at A8)
      have hji12_ : (if (ji11) < (wrap64 (-t197)) then (wrap64 (-t197)) else (ji11)) = ji12 := hji12
      simp only [Option.some.injEq, Prod.mk.injEq] at H
      obtain ⟨rfl, rfl⟩ := H
      go_enter Tryd.func46, Tryd.ntmps46
      try go_wp2_with (first | ((with_reducible refine gate_dst (N := 2) rfl ?_); (try (refine gate_guard (by rfl) ?_; dsimp only)); refine box_event ?hg (N := 2) ?hd (cs := #[.int .i64 a0_0, .int .i64 a0_1, .int .i64 a0_2, .int .i64 a0_3, .int .i64 a0_4, .int .i64 a0_5, .bool a0_6]) (t := 27) ?hr ?_; (case hd => rfl); (case hg => rfl); (case hr => first | (go_simp; done) | (go_simp; rfl)); intro gb193 hg w13 hbox hb; have n0_ := Aside0.mk (below_step (by repeat (first | (with_reducible first | exact HB.out | apply below_alloc | apply pw_below_drewN | apply below_drew1) | exact HB.out)) hb); have n1_ := Aside0.mk (hbox); have n2_ := Aside0.mk ((by rw [hg]; exact (below_size (by repeat (first | (with_reducible first | exact HB.out | apply below_alloc | apply pw_below_drewN | apply below_drew1) | exact HB.out))) : w.heap.size ≤ gb193)); have n3_ := Aside0.mk ((by rw [hg]; exact (below_size (by repeat (first | (with_reducible first | exact HB.out | apply below_alloc | apply pw_below_drewN | apply below_drew1) | exact HB.out))) : w.heap.size ≤ gb193)); clear HB; have HB := n0_; have BK193 := n1_; have GW193 := n2_; have GE193 := n3_; clear n0_ n1_ n2_ n3_; clear hb hbox hg) | ((with_reducible refine gate_dst (N := 3) rfl ?_); (try (refine gate_guard (by rfl) ?_; dsimp only)); refine box_event ?hg (N := 3) ?hd (cs := #[.int .i64 a1_0, .int .i64 a1_1, .int .i64 a1_2]) (t := 68) ?hr ?_; (case hd => rfl); (case hg => rfl); (case hr => first | (go_simp; done) | (go_simp; rfl)); intro gb194 hg w14 hbox hb; have n0_ := Aside0.mk (blk_below (g := gb193) (o := .cells #[.int .i64 a0_0, .int .i64 a0_1, .int .i64 a0_2, .int .i64 a0_3, .int .i64 a0_4, .int .i64 a0_5, .bool a0_6] 27 (0, 0)) (by (with_reducible repeat (first | refine blk_drewN ?_ _ | refine blk_drew ?_ | refine blk_alloc ?_ _)); exact BK193.out) hb); have n1_ := Aside0.mk (below_step (by repeat (first | (with_reducible first | exact HB.out | apply below_alloc | apply pw_below_drewN | apply below_drew1 | refine below_set ?_ GE193.out) | exact HB.out)) hb); have n2_ := Aside0.mk (hbox); have n3_ := Aside0.mk ((by rw [hg]; exact (below_size (by repeat (first | (with_reducible first | exact HB.out | apply below_alloc | apply pw_below_drewN | apply below_drew1 | refine below_set ?_ GE193.out) | exact HB.out))) : w.heap.size ≤ gb194)); have n4_ := Aside0.mk ((by rw [hg]; exact (below_size (by repeat (first | (with_reducible first | exact HB.out | apply below_alloc | apply pw_below_drewN | apply below_drew1 | refine below_set ?_ GE193.out) | exact HB.out))) : w.heap.size ≤ gb194)); have n5_ := Aside0.mk ((by rw [hg]; exact Nat.ne_of_lt (blk_lt (g := gb193) (o := .cells #[.int .i64 a0_0, .int .i64 a0_1, .int .i64 a0_2, .int .i64 a0_3, .int .i64 a0_4, .int .i64 a0_5, .bool a0_6] 27 (0, 0)) (by (with_reducible repeat (first | refine blk_drewN ?_ _ | refine blk_drew ?_ | refine blk_alloc ?_ _)); exact BK193.out)) : gb193 ≠ gb194)); have n6_ := Aside0.mk ((by rw [hg]; exact Nat.ne_of_gt (blk_lt (g := gb193) (o := .cells #[.int .i64 a0_0, .int .i64 a0_1, .int .i64 a0_2, .int .i64 a0_3, .int .i64 a0_4, .int .i64 a0_5, .bool a0_6] 27 (0, 0)) (by (with_reducible repeat (first | refine blk_drewN ?_ _ | refine blk_drew ?_ | refine blk_alloc ?_ _)); exact BK193.out)) : gb194 ≠ gb193)); clear BK193; clear HB; have BK193 := n0_; have HB := n1_; have BK194 := n2_; have GW194 := n3_; have GE194 := n4_; have NB193_194 := n5_; have NB194_193 := n6_; clear n0_ n1_ n2_ n3_ n4_ n5_ n6_; clear hb hbox hg; have hnb15 := NB193_194.out; have hnc15 := NB194_193.out; have hcz16_0 : w14.cell? ⟨gb193, 0, none⟩ = some (.int .i64 a0_0) := (blk_cell BK193.out 0).trans rfl; have hcz16_1 : w14.cell? ⟨gb193, 1, none⟩ = some (.int .i64 a0_1) := (blk_cell BK193.out 1).trans rfl; have hcz16_2 : w14.cell? ⟨gb193, 2, none⟩ = some (.int .i64 a0_2) := (blk_cell BK193.out 2).trans rfl; have hcz16_3 : w14.cell? ⟨gb193, 3, none⟩ = some (.int .i64 a0_3) := (blk_cell BK193.out 3).trans rfl; have hcz16_4 : w14.cell? ⟨gb193, 4, none⟩ = some (.int .i64 a0_4) := (blk_cell BK193.out 4).trans rfl; have hcz16_5 : w14.cell? ⟨gb193, 5, none⟩ = some (.int .i64 a0_5) := (blk_cell BK193.out 5).trans rfl; have hcz16_6 : w14.cell? ⟨gb193, 6, none⟩ = some (.bool a0_6) := (blk_cell BK193.out 6).trans rfl; have hfz16_0 := blk_frozen BK193.out 0; have hfz16_1 := blk_frozen BK193.out 1; have hfz16_2 := blk_frozen BK193.out 2; have hfz16_3 := blk_frozen BK193.out 3; have hfz16_4 := blk_frozen BK193.out 4; have hfz16_5 := blk_frozen BK193.out 5; have hfz16_6 := blk_frozen BK193.out 6; have hcz17_0 : w14.cell? ⟨gb194, 0, none⟩ = some (.int .i64 a1_0) := (blk_cell BK194.out 0).trans rfl; have hcz17_1 : w14.cell? ⟨gb194, 1, none⟩ = some (.int .i64 a1_1) := (blk_cell BK194.out 1).trans rfl; have hcz17_2 : w14.cell? ⟨gb194, 2, none⟩ = some (.int .i64 a1_2) := (blk_cell BK194.out 2).trans rfl; have hfz17_0 := blk_frozen BK194.out 0; have hfz17_1 := blk_frozen BK194.out 1; have hfz17_2 := blk_frozen BK194.out 2) | ((with_reducible refine gate_callee (f := 93) rfl ?_); refine goesL_ (some 12) rfl rfl Tryd.func93 (by kernel_rfl) rfl #[.agg #[.int .i64 a0_0, .int .i64 a0_1, .int .i64 a0_2, .int .i64 a0_3, .int .i64 a0_4, .int .i64 a0_5, .bool a0_6], .agg #[.int .i64 a1_0, .int .i64 a1_1, .int .i64 a1_2]] rfl (by (try simp only [List.map_toArray, List.map_cons, List.map_nil]); first | done | rfl | (simp only [List.length_drop, List.length_take]; rfl)) ?_; (with_reducible refine (bonus_both.calls k a0_0 a0_1 a0_2 a0_3 a0_4 a0_5 a0_6 a1_0 a1_1 a1_2 t195 _ A3.out).mono ?_); rintro e w18 ⟨rfl, hb⟩; refine ⟨_, rfl, ?_⟩; have n0_ := Aside0.mk (blk_below (g := gb193) (o := .cells #[.int .i64 a0_0, .int .i64 a0_1, .int .i64 a0_2, .int .i64 a0_3, .int .i64 a0_4, .int .i64 a0_5, .bool a0_6] 27 (0, 0)) (by (with_reducible repeat (first | refine blk_drewN ?_ _ | refine blk_drew ?_ | refine blk_alloc ?_ _)); exact BK193.out) hb); have n1_ := Aside0.mk (blk_below (g := gb194) (o := .cells #[.int .i64 a1_0, .int .i64 a1_1, .int .i64 a1_2] 68 (0, 0)) (by (with_reducible repeat (first | refine blk_drewN ?_ _ | refine blk_drew ?_ | refine blk_alloc ?_ _)); exact BK194.out) hb); have n2_ := Aside0.mk (below_step (by repeat (first | (with_reducible first | exact HB.out | apply below_alloc | apply pw_below_drewN | apply below_drew1 | refine below_set ?_ GE193.out | refine below_set ?_ GE194.out) | exact HB.out)) hb); clear BK193; clear BK194; clear HB; have BK193 := n0_; have BK194 := n1_; have HB := n2_; clear n0_ n1_ n2_; (try clear hb); (try clear hb2); (try clear hk); (try clear hi); have hcz19_0 : w18.cell? ⟨gb193, 0, none⟩ = some (.int .i64 a0_0) := (blk_cell BK193.out 0).trans rfl; have hcz19_1 : w18.cell? ⟨gb193, 1, none⟩ = some (.int .i64 a0_1) := (blk_cell BK193.out 1).trans rfl; have hcz19_2 : w18.cell? ⟨gb193, 2, none⟩ = some (.int .i64 a0_2) := (blk_cell BK193.out 2).trans rfl; have hcz19_3 : w18.cell? ⟨gb193, 3, none⟩ = some (.int .i64 a0_3) := (blk_cell BK193.out 3).trans rfl; have hcz19_4 : w18.cell? ⟨gb193, 4, none⟩ = some (.int .i64 a0_4) := (blk_cell BK193.out 4).trans rfl; have hcz19_5 : w18.cell? ⟨gb193, 5, none⟩ = some (.int .i64 a0_5) := (blk_cell BK193.out 5).trans rfl; have hcz19_6 : w18.cell? ⟨gb193, 6, none⟩ = some (.bool a0_6) := (blk_cell BK193.out 6).trans rfl; have hfz19_0 := blk_frozen BK193.out 0; have hfz19_1 := blk_frozen BK193.out 1; have hfz19_2 := blk_frozen BK193.out 2; have hfz19_3 := blk_frozen BK193.out 3; have hfz19_4 := blk_frozen BK193.out 4; have hfz19_5 := blk_frozen BK193.out 5; have hfz19_6 := blk_frozen BK193.out 6; have hcz20_0 : w18.cell? ⟨gb194, 0, none⟩ = some (.int .i64 a1_0) := (blk_cell BK194.out 0).trans rfl; have hcz20_1 : w18.cell? ⟨gb194, 1, none⟩ = some (.int .i64 a1_1) := (blk_cell BK194.out 1).trans rfl; have hcz20_2 : w18.cell? ⟨gb194, 2, none⟩ = some (.int .i64 a1_2) := (blk_cell BK194.out 2).trans rfl; have hfz20_0 := blk_frozen BK194.out 0; have hfz20_1 := blk_frozen BK194.out 1; have hfz20_2 := blk_frozen BK194.out 2) | ((with_reducible refine gate_callee (f := 94) rfl ?_); refine goesL_ (some 19) rfl rfl Tryd.func94 (by kernel_rfl) rfl #[.agg #[.int .i64 a0_0, .int .i64 a0_1, .int .i64 a0_2, .int .i64 a0_3, .int .i64 a0_4, .int .i64 a0_5, .bool a0_6], .agg #[.int .i64 a1_0, .int .i64 a1_1, .int .i64 a1_2]] rfl (by (try simp only [List.map_toArray, List.map_cons, List.map_nil]); first | done | rfl | (simp only [List.length_drop, List.length_take]; rfl)) ?_; (with_reducible refine (bonus_gap.calls a0_0 a0_1 a0_2 a0_3 a0_4 a0_5 a0_6 a1_0 a1_1 a1_2 t196 t197 _ A5.out).mono ?_); rintro e w21 ⟨rfl, hb⟩; refine ⟨_, rfl, ?_⟩; have n0_ := Aside0.mk (blk_below (g := gb193) (o := .cells #[.int .i64 a0_0, .int .i64 a0_1, .int .i64 a0_2, .int .i64 a0_3, .int .i64 a0_4, .int .i64 a0_5, .bool a0_6] 27 (0, 0)) (by (with_reducible repeat (first | refine blk_drewN ?_ _ | refine blk_drew ?_ | refine blk_alloc ?_ _)); exact BK193.out) hb); have n1_ := Aside0.mk (blk_below (g := gb194) (o := .cells #[.int .i64 a1_0, .int .i64 a1_1, .int .i64 a1_2] 68 (0, 0)) (by (with_reducible repeat (first | refine blk_drewN ?_ _ | refine blk_drew ?_ | refine blk_alloc ?_ _)); exact BK194.out) hb); have n2_ := Aside0.mk (below_step (by repeat (first | (with_reducible first | exact HB.out | apply below_alloc | apply pw_below_drewN | apply below_drew1 | refine below_set ?_ GE193.out | refine below_set ?_ GE194.out) | exact HB.out)) hb); clear BK193; clear BK194; clear HB; have BK193 := n0_; have BK194 := n1_; have HB := n2_; clear n0_ n1_ n2_; (try clear hb); (try clear hb2); (try clear hk); (try clear hi)))
      have n0_ := Aside0.mk (blk_drew BK193.out)
      have n1_ := Aside0.mk (blk_drew BK194.out)
      have n2_ := Aside0.mk (below_drew1 HB.out)
      clear BK193
      clear BK194
      clear HB
      have BK193 := n0_
      have BK194 := n1_
      have HB := n2_
      clear n0_ n1_ n2_
      refine start_ (n := 9) (S := fun w' => w'.cell? ⟨gb193, 0, none⟩ = some (.int .i64 a0_0) ∧ w'.cell? ⟨gb193, 1, none⟩ = some (.int .i64 a0_1) ∧ w'.cell? ⟨gb193, 2, none⟩ = some (.int .i64 a0_2) ∧ w'.cell? ⟨gb193, 3, none⟩ = some (.int .i64 a0_3) ∧ w'.cell? ⟨gb193, 4, none⟩ = some (.int .i64 a0_4) ∧ w'.cell? ⟨gb193, 5, none⟩ = some (.int .i64 a0_5) ∧ w'.cell? ⟨gb193, 6, none⟩ = some (.bool a0_6) ∧ w'.cell? ⟨gb194, 0, none⟩ = some (.int .i64 a1_0) ∧ w'.cell? ⟨gb194, 1, none⟩ = some (.int .i64 a1_1) ∧ w'.cell? ⟨gb194, 2, none⟩ = some (.int .i64 a1_2)) (ds := []) #[false, false, false, false, false, false, false, false, false] (by kernel_rfl) rfl rfl ⟨(blk_cell BK193.out 0).trans rfl, (blk_cell BK193.out 1).trans rfl, (blk_cell BK193.out 2).trans rfl, (blk_cell BK193.out 3).trans rfl, (blk_cell BK193.out 4).trans rfl, (blk_cell BK193.out 5).trans rfl, (blk_cell BK193.out 6).trans rfl, (blk_cell BK194.out 0).trans rfl, (blk_cell BK194.out 1).trans rfl, (blk_cell BK194.out 2).trans rfl⟩ (fun hHeld => ?_); refine with_tabW bonus_KeepsBox.tab5 bonus_KeepsBox.bits5 (fun HT_ HW_ => ?_)
      generalize w21.drew = w22 at BK193 BK194 HB hHeld ⊢
      refine pure_ (i := 0) (N := some 22) (v := ?_) (a' := ?_) #[true, false, false, false, false, false, false, false, false] rfl rfl (any_of HT_.out (by kernel_rfl)) (fun _ _ _ h => h) (Or.inl ⟨by rfl, ?_⟩) ?_ ?_
      rotate_left
      · intro w'
        go_simp
        with_reducible rfl
      rotate_left
      · simp only [Act.put, List.setIfInBounds_toArray, List.set_cons_zero, List.set_cons_succ, i64_w, i32_w]
        rfl
      refine pure_ (i := 4) (N := some 26) (v := ?_) (a' := ?_) #[true, false, false, false, true, false, false, false, false] rfl rfl (any_of HT_.out (by kernel_rfl)) (fun _ _ _ h => h) (Or.inl ⟨by rfl, ?_⟩) ?_ ?_
      rotate_left
      · intro w'
        go_simp
        with_reducible rfl
      rotate_left
      · simp only [Act.put, List.setIfInBounds_toArray, List.set_cons_zero, List.set_cons_succ, i64_w, i32_w]
        rfl
      refine take_ (i := 1) (N := some 23) (v := ?_) (a' := ?_) #[true, true, false, false, true, false, false, false, false] rfl rfl (take_ofW HT_.out HW_.out (by kernel_rfl)) (fun _ _ _ h => h) (Or.inl ⟨by rfl, ?_⟩) hHeld ?_ ?_
      rotate_left
      · rintro w' ⟨s0, s1, s2, s3, s4, s5, s6, s7, s8, s9⟩
        go_simp
        with_reducible rfl
      rotate_left
      · simp only [Act.put, List.setIfInBounds_toArray, List.set_cons_zero, List.set_cons_succ, i64_w, i32_w]
        rfl
      refine take_ (i := 2) (N := some 24) (v := ?_) (a' := ?_) #[true, true, true, false, true, false, false, false, false] rfl rfl (take_ofW HT_.out HW_.out (by kernel_rfl)) (fun _ _ _ h => h) (Or.inl ⟨by rfl, ?_⟩) hHeld ?_ ?_
      rotate_left
      · rintro w' ⟨s0, s1, s2, s3, s4, s5, s6, s7, s8, s9⟩
        go_simp
        with_reducible rfl
      rotate_left
      · simp only [Act.put, List.setIfInBounds_toArray, List.set_cons_zero, List.set_cons_succ, i64_w, i32_w]
        rfl
      refine take_ (i := 5) (N := some 27) (v := ?_) (a' := ?_) #[true, true, true, false, true, true, false, false, false] rfl rfl (take_ofW HT_.out HW_.out (by kernel_rfl)) (fun _ _ _ h => h) (Or.inl ⟨by rfl, ?_⟩) hHeld ?_ ?_
      rotate_left
      · rintro w' ⟨s0, s1, s2, s3, s4, s5, s6, s7, s8, s9⟩
        go_simp
        with_reducible rfl
      rotate_left
      · simp only [Act.put, List.setIfInBounds_toArray, List.set_cons_zero, List.set_cons_succ, i64_w, i32_w]
        rfl
      refine one_ (i := 3) (N := some 25) #[true, true, true, true, true, true, false, false, false] rfl rfl (one_of HT_.out (by kernel_rfl)) (by decide) (fun K hK => ?_)
      refine goes_ Tryd.func67 (by kernel_rfl) rfl #[.agg #[.int .i64 a0_0, .int .i64 a0_1, .int .i64 a0_2, .int .i64 a0_3, .int .i64 a0_4, .int .i64 a0_5, .bool a0_6]] (by rfl) rfl rfl (by (try simp only [List.map_toArray, List.map_cons, List.map_nil]); first | done | rfl | (simp only [List.length_drop, List.length_take]; rfl)) ?_
      with_reducible refine (bonus_of.calls a0_0 a0_1 a0_2 a0_3 a0_4 a0_5 a0_6 t198 t199 t200 t201 t202 t203 t204 t205 _ A6.out (by exact sig_below HS.out (by repeat (first | (with_reducible first | exact HB.out | apply below_alloc | apply pw_below_drewN | apply below_drew1 | refine below_set ?_ GE193.out | refine below_set ?_ GE194.out) | exact HB.out)))).mono ?_
      rintro e w23 ⟨rfl, hb⟩
      refine ⟨_, rfl, ?_⟩
      have n0_ := Aside0.mk (blk_below (g := gb193) (o := .cells #[.int .i64 a0_0, .int .i64 a0_1, .int .i64 a0_2, .int .i64 a0_3, .int .i64 a0_4, .int .i64 a0_5, .bool a0_6] 27 (0, 0)) (by (with_reducible repeat (first | refine blk_drewN ?_ _ | refine blk_drew ?_ | refine blk_alloc ?_ _)); exact BK193.out) hb)
      have n1_ := Aside0.mk (blk_below (g := gb194) (o := .cells #[.int .i64 a1_0, .int .i64 a1_1, .int .i64 a1_2] 68 (0, 0)) (by (with_reducible repeat (first | refine blk_drewN ?_ _ | refine blk_drew ?_ | refine blk_alloc ?_ _)); exact BK194.out) hb)
      have n2_ := Aside0.mk (below_step (by repeat (first | (with_reducible first | exact HB.out | apply below_alloc | apply pw_below_drewN | apply below_drew1 | refine below_set ?_ GE193.out | refine below_set ?_ GE194.out) | exact HB.out)) hb)
      clear BK193
      clear BK194
      clear HB
      have BK193 := n0_
      have BK194 := n1_
      have HB := n2_
      clear n0_ n1_ n2_
      (try clear hb)
      (try clear hb2)
      (try clear hk)
      (try clear hi)
      refine hK.out _ _ ⟨(blk_cell BK193.out 0).trans rfl, (blk_cell BK193.out 1).trans rfl, (blk_cell BK193.out 2).trans rfl, (blk_cell BK193.out 3).trans rfl, (blk_cell BK193.out 4).trans rfl, (blk_cell BK193.out 5).trans rfl, (blk_cell BK193.out 6).trans rfl, (blk_cell BK194.out 0).trans rfl, (blk_cell BK194.out 1).trans rfl, (blk_cell BK194.out 2).trans rfl⟩ (fun hHeld => ?_)
      clear hK K
      refine norm_ (a' := ?_) ?_ ?_
      rotate_left
      · show Act.put _ (some 25) _ = _
        simp only [Act.put, List.setIfInBounds_toArray, List.set_cons_zero, List.set_cons_succ, i64_w, i32_w]
        rfl
      refine one_ (i := 6) (N := some 28) #[true, true, true, true, true, true, true, false, false] rfl rfl (one_of HT_.out (by kernel_rfl)) (by decide) (fun K hK => ?_)
      refine goes_ Tryd.func77 (by kernel_rfl) rfl #[.agg #[.int .i64 t198, .int .i64 t199, .int .i64 t200, .int .i64 t201, .int .i64 t202, .int .i64 t203, .bool t204, .int .i64 t205], .int .i64 a1_2] (by rfl) rfl rfl (by (try simp only [List.map_toArray, List.map_cons, List.map_nil]); first | done | rfl | (simp only [List.length_drop, List.length_take]; rfl)) ?_
      with_reducible refine (bonus_condition_extra.calls t198 t199 t200 t201 t202 t203 t204 t205 a1_2 t206 _ A7.out).mono ?_
      rintro e w24 ⟨rfl, hb⟩
      refine ⟨_, rfl, ?_⟩
      have n0_ := Aside0.mk (blk_below (g := gb193) (o := .cells #[.int .i64 a0_0, .int .i64 a0_1, .int .i64 a0_2, .int .i64 a0_3, .int .i64 a0_4, .int .i64 a0_5, .bool a0_6] 27 (0, 0)) (by (with_reducible repeat (first | refine blk_drewN ?_ _ | refine blk_drew ?_ | refine blk_alloc ?_ _)); exact BK193.out) hb)
      have n1_ := Aside0.mk (blk_below (g := gb194) (o := .cells #[.int .i64 a1_0, .int .i64 a1_1, .int .i64 a1_2] 68 (0, 0)) (by (with_reducible repeat (first | refine blk_drewN ?_ _ | refine blk_drew ?_ | refine blk_alloc ?_ _)); exact BK194.out) hb)
      have n2_ := Aside0.mk (below_step (by repeat (first | (with_reducible first | exact HB.out | apply below_alloc | apply pw_below_drewN | apply below_drew1 | refine below_set ?_ GE193.out | refine below_set ?_ GE194.out) | exact HB.out)) hb)
      clear BK193
      clear BK194
      clear HB
      have BK193 := n0_
      have BK194 := n1_
      have HB := n2_
      clear n0_ n1_ n2_
      (try clear hb)
      (try clear hb2)
      (try clear hk)
      (try clear hi)
      refine hK.out _ _ ⟨(blk_cell BK193.out 0).trans rfl, (blk_cell BK193.out 1).trans rfl, (blk_cell BK193.out 2).trans rfl, (blk_cell BK193.out 3).trans rfl, (blk_cell BK193.out 4).trans rfl, (blk_cell BK193.out 5).trans rfl, (blk_cell BK193.out 6).trans rfl, (blk_cell BK194.out 0).trans rfl, (blk_cell BK194.out 1).trans rfl, (blk_cell BK194.out 2).trans rfl⟩ (fun hHeld => ?_)
      clear hK K
      refine norm_ (a' := ?_) ?_ ?_
      rotate_left
      · show Act.put _ (some 28) _ = _
        simp only [Act.put, List.setIfInBounds_toArray, List.set_cons_zero, List.set_cons_succ, i64_w, i32_w]
        rfl
      refine pure_ (i := 7) (N := some 29) (v := ?_) (a' := ?_) #[true, true, true, true, true, true, true, true, false] rfl rfl (any_of HT_.out (by kernel_rfl)) (fun _ _ _ h => h) (Or.inl ⟨by rfl, ?_⟩) ?_ ?_
      rotate_left
      · intro w'
        go_simp
        with_reducible rfl
      rotate_left
      · simp only [Act.put, List.setIfInBounds_toArray, List.set_cons_zero, List.set_cons_succ, i64_w, i32_w]
        rfl
      refine pure_ (i := 8) (N := some 9) (v := ?_) (a' := ?_) #[true, true, true, true, true, true, true, true, true] rfl rfl (any_of HT_.out (by kernel_rfl)) (fun _ _ _ h => h) (Or.inl ⟨by rfl, ?_⟩) ?_ ?_
      rotate_left
      · intro w'
        go_simp
        with_reducible rfl
      rotate_left
      · simp only [Act.put, List.setIfInBounds_toArray, List.set_cons_zero, List.set_cons_succ, i64_w, i32_w]
        rfl
      refine done_ (done_of HT_.out (by kernel_rfl)) ?_
      have hcz25_0 : w24.cell? ⟨gb193, 0, none⟩ = some (.int .i64 a0_0) := (blk_cell BK193.out 0).trans rfl
      have hcz25_1 : w24.cell? ⟨gb193, 1, none⟩ = some (.int .i64 a0_1) := (blk_cell BK193.out 1).trans rfl
      have hcz25_2 : w24.cell? ⟨gb193, 2, none⟩ = some (.int .i64 a0_2) := (blk_cell BK193.out 2).trans rfl
      have hcz25_3 : w24.cell? ⟨gb193, 3, none⟩ = some (.int .i64 a0_3) := (blk_cell BK193.out 3).trans rfl
      have hcz25_4 : w24.cell? ⟨gb193, 4, none⟩ = some (.int .i64 a0_4) := (blk_cell BK193.out 4).trans rfl
      have hcz25_5 : w24.cell? ⟨gb193, 5, none⟩ = some (.int .i64 a0_5) := (blk_cell BK193.out 5).trans rfl
      have hcz25_6 : w24.cell? ⟨gb193, 6, none⟩ = some (.bool a0_6) := (blk_cell BK193.out 6).trans rfl
      have hfz25_0 := blk_frozen BK193.out 0
      have hfz25_1 := blk_frozen BK193.out 1
      have hfz25_2 := blk_frozen BK193.out 2
      have hfz25_3 := blk_frozen BK193.out 3
      have hfz25_4 := blk_frozen BK193.out 4
      have hfz25_5 := blk_frozen BK193.out 5
      have hfz25_6 := blk_frozen BK193.out 6
      have hcz26_0 : w24.cell? ⟨gb194, 0, none⟩ = some (.int .i64 a1_0) := (blk_cell BK194.out 0).trans rfl
      have hcz26_1 : w24.cell? ⟨gb194, 1, none⟩ = some (.int .i64 a1_1) := (blk_cell BK194.out 1).trans rfl
      have hcz26_2 : w24.cell? ⟨gb194, 2, none⟩ = some (.int .i64 a1_2) := (blk_cell BK194.out 2).trans rfl
      have hfz26_0 := blk_frozen BK194.out 0
      have hfz26_1 := blk_frozen BK194.out 1
      have hfz26_2 := blk_frozen BK194.out 2
      try go_wp2_with (first | ((with_reducible refine gate_callee (f := 76) rfl ?_); refine goesL_ (some 33) rfl rfl Tryd.func76 (by kernel_rfl) rfl #[.agg #[.int .i64 a0_0, .int .i64 a0_1, .int .i64 a0_2, .int .i64 a0_3, .int .i64 a0_4, .int .i64 a0_5, .bool a0_6], .int .i64 a1_2] rfl (by (try simp only [List.map_toArray, List.map_cons, List.map_nil]); first | done | rfl | (simp only [List.length_drop, List.length_take]; rfl)) ?_; (with_reducible refine (bonus_within.calls a0_0 a0_1 a0_2 a0_3 a0_4 a0_5 a0_6 a1_2 true _ A8.out).mono ?_); rintro e w27 ⟨rfl, hb⟩; refine ⟨_, rfl, ?_⟩; have n0_ := Aside0.mk (blk_below (g := gb193) (o := .cells #[.int .i64 a0_0, .int .i64 a0_1, .int .i64 a0_2, .int .i64 a0_3, .int .i64 a0_4, .int .i64 a0_5, .bool a0_6] 27 (0, 0)) (by (with_reducible repeat (first | refine blk_drewN ?_ _ | refine blk_drew ?_ | refine blk_alloc ?_ _)); exact BK193.out) hb); have n1_ := Aside0.mk (blk_below (g := gb194) (o := .cells #[.int .i64 a1_0, .int .i64 a1_1, .int .i64 a1_2] 68 (0, 0)) (by (with_reducible repeat (first | refine blk_drewN ?_ _ | refine blk_drew ?_ | refine blk_alloc ?_ _)); exact BK194.out) hb); have n2_ := Aside0.mk (below_step (by repeat (first | (with_reducible first | exact HB.out | apply below_alloc | apply pw_below_drewN | apply below_drew1 | refine below_set ?_ GE193.out | refine below_set ?_ GE194.out) | exact HB.out)) hb); clear BK193; clear BK194; clear HB; have BK193 := n0_; have BK194 := n1_; have HB := n2_; clear n0_ n1_ n2_; (try clear hb); (try clear hb2); (try clear hk); (try clear hi)))
      go_ret2
      exact ⟨by first | rfl | (simp [errW_none, errW_some] <;> rfl) | (simp only [← hji10, ← hji11, ← hji12]; first | rfl | (simp [errW_none, errW_some] <;> rfl)) | (simp [*, errW_none, errW_some] <;> rfl), by repeat (first | (with_reducible first | exact HB.out | apply below_alloc | apply pw_below_drewN | apply below_drew1 | refine below_set ?_ GE193.out | refine below_set ?_ GE194.out) | exact HB.out)⟩
    · replace c9 := Bool.eq_false_iff.mpr c9
      subst c9
      have H1 : (some (false, 0)) = some (r1, r2) := by rw [if_neg (show ¬ (false = true) by decide)] at H; exact H
      clear H
      have H := H1
      clear H1
      simp only [Option.some.injEq, Prod.mk.injEq] at H
      obtain ⟨rfl, rfl⟩ := H
      go_enter Tryd.func46, Tryd.ntmps46
      try go_wp2_with (first | ((with_reducible refine gate_dst (N := 2) rfl ?_); (try (refine gate_guard (by rfl) ?_; dsimp only)); refine box_event ?hg (N := 2) ?hd (cs := #[.int .i64 a0_0, .int .i64 a0_1, .int .i64 a0_2, .int .i64 a0_3, .int .i64 a0_4, .int .i64 a0_5, .bool a0_6]) (t := 27) ?hr ?_; (case hd => rfl); (case hg => rfl); (case hr => first | (go_simp; done) | (go_simp; rfl)); intro gb193 hg w28 hbox hb; have n0_ := Aside0.mk (below_step (by repeat (first | (with_reducible first | exact HB.out | apply below_alloc | apply pw_below_drewN | apply below_drew1) | exact HB.out)) hb); have n1_ := Aside0.mk (hbox); have n2_ := Aside0.mk ((by rw [hg]; exact (below_size (by repeat (first | (with_reducible first | exact HB.out | apply below_alloc | apply pw_below_drewN | apply below_drew1) | exact HB.out))) : w.heap.size ≤ gb193)); have n3_ := Aside0.mk ((by rw [hg]; exact (below_size (by repeat (first | (with_reducible first | exact HB.out | apply below_alloc | apply pw_below_drewN | apply below_drew1) | exact HB.out))) : w.heap.size ≤ gb193)); clear HB; have HB := n0_; have BK193 := n1_; have GW193 := n2_; have GE193 := n3_; clear n0_ n1_ n2_ n3_; clear hb hbox hg) | ((with_reducible refine gate_dst (N := 3) rfl ?_); (try (refine gate_guard (by rfl) ?_; dsimp only)); refine box_event ?hg (N := 3) ?hd (cs := #[.int .i64 a1_0, .int .i64 a1_1, .int .i64 a1_2]) (t := 68) ?hr ?_; (case hd => rfl); (case hg => rfl); (case hr => first | (go_simp; done) | (go_simp; rfl)); intro gb194 hg w29 hbox hb; have n0_ := Aside0.mk (blk_below (g := gb193) (o := .cells #[.int .i64 a0_0, .int .i64 a0_1, .int .i64 a0_2, .int .i64 a0_3, .int .i64 a0_4, .int .i64 a0_5, .bool a0_6] 27 (0, 0)) (by (with_reducible repeat (first | refine blk_drewN ?_ _ | refine blk_drew ?_ | refine blk_alloc ?_ _)); exact BK193.out) hb); have n1_ := Aside0.mk (below_step (by repeat (first | (with_reducible first | exact HB.out | apply below_alloc | apply pw_below_drewN | apply below_drew1 | refine below_set ?_ GE193.out) | exact HB.out)) hb); have n2_ := Aside0.mk (hbox); have n3_ := Aside0.mk ((by rw [hg]; exact (below_size (by repeat (first | (with_reducible first | exact HB.out | apply below_alloc | apply pw_below_drewN | apply below_drew1 | refine below_set ?_ GE193.out) | exact HB.out))) : w.heap.size ≤ gb194)); have n4_ := Aside0.mk ((by rw [hg]; exact (below_size (by repeat (first | (with_reducible first | exact HB.out | apply below_alloc | apply pw_below_drewN | apply below_drew1 | refine below_set ?_ GE193.out) | exact HB.out))) : w.heap.size ≤ gb194)); have n5_ := Aside0.mk ((by rw [hg]; exact Nat.ne_of_lt (blk_lt (g := gb193) (o := .cells #[.int .i64 a0_0, .int .i64 a0_1, .int .i64 a0_2, .int .i64 a0_3, .int .i64 a0_4, .int .i64 a0_5, .bool a0_6] 27 (0, 0)) (by (with_reducible repeat (first | refine blk_drewN ?_ _ | refine blk_drew ?_ | refine blk_alloc ?_ _)); exact BK193.out)) : gb193 ≠ gb194)); have n6_ := Aside0.mk ((by rw [hg]; exact Nat.ne_of_gt (blk_lt (g := gb193) (o := .cells #[.int .i64 a0_0, .int .i64 a0_1, .int .i64 a0_2, .int .i64 a0_3, .int .i64 a0_4, .int .i64 a0_5, .bool a0_6] 27 (0, 0)) (by (with_reducible repeat (first | refine blk_drewN ?_ _ | refine blk_drew ?_ | refine blk_alloc ?_ _)); exact BK193.out)) : gb194 ≠ gb193)); clear BK193; clear HB; have BK193 := n0_; have HB := n1_; have BK194 := n2_; have GW194 := n3_; have GE194 := n4_; have NB193_194 := n5_; have NB194_193 := n6_; clear n0_ n1_ n2_ n3_ n4_ n5_ n6_; clear hb hbox hg; have hnb30 := NB193_194.out; have hnc30 := NB194_193.out; have hcz31_0 : w29.cell? ⟨gb193, 0, none⟩ = some (.int .i64 a0_0) := (blk_cell BK193.out 0).trans rfl; have hcz31_1 : w29.cell? ⟨gb193, 1, none⟩ = some (.int .i64 a0_1) := (blk_cell BK193.out 1).trans rfl; have hcz31_2 : w29.cell? ⟨gb193, 2, none⟩ = some (.int .i64 a0_2) := (blk_cell BK193.out 2).trans rfl; have hcz31_3 : w29.cell? ⟨gb193, 3, none⟩ = some (.int .i64 a0_3) := (blk_cell BK193.out 3).trans rfl; have hcz31_4 : w29.cell? ⟨gb193, 4, none⟩ = some (.int .i64 a0_4) := (blk_cell BK193.out 4).trans rfl; have hcz31_5 : w29.cell? ⟨gb193, 5, none⟩ = some (.int .i64 a0_5) := (blk_cell BK193.out 5).trans rfl; have hcz31_6 : w29.cell? ⟨gb193, 6, none⟩ = some (.bool a0_6) := (blk_cell BK193.out 6).trans rfl; have hfz31_0 := blk_frozen BK193.out 0; have hfz31_1 := blk_frozen BK193.out 1; have hfz31_2 := blk_frozen BK193.out 2; have hfz31_3 := blk_frozen BK193.out 3; have hfz31_4 := blk_frozen BK193.out 4; have hfz31_5 := blk_frozen BK193.out 5; have hfz31_6 := blk_frozen BK193.out 6; have hcz32_0 : w29.cell? ⟨gb194, 0, none⟩ = some (.int .i64 a1_0) := (blk_cell BK194.out 0).trans rfl; have hcz32_1 : w29.cell? ⟨gb194, 1, none⟩ = some (.int .i64 a1_1) := (blk_cell BK194.out 1).trans rfl; have hcz32_2 : w29.cell? ⟨gb194, 2, none⟩ = some (.int .i64 a1_2) := (blk_cell BK194.out 2).trans rfl; have hfz32_0 := blk_frozen BK194.out 0; have hfz32_1 := blk_frozen BK194.out 1; have hfz32_2 := blk_frozen BK194.out 2) | ((with_reducible refine gate_callee (f := 93) rfl ?_); refine goesL_ (some 12) rfl rfl Tryd.func93 (by kernel_rfl) rfl #[.agg #[.int .i64 a0_0, .int .i64 a0_1, .int .i64 a0_2, .int .i64 a0_3, .int .i64 a0_4, .int .i64 a0_5, .bool a0_6], .agg #[.int .i64 a1_0, .int .i64 a1_1, .int .i64 a1_2]] rfl (by (try simp only [List.map_toArray, List.map_cons, List.map_nil]); first | done | rfl | (simp only [List.length_drop, List.length_take]; rfl)) ?_; (with_reducible refine (bonus_both.calls k a0_0 a0_1 a0_2 a0_3 a0_4 a0_5 a0_6 a1_0 a1_1 a1_2 t195 _ A3.out).mono ?_); rintro e w33 ⟨rfl, hb⟩; refine ⟨_, rfl, ?_⟩; have n0_ := Aside0.mk (blk_below (g := gb193) (o := .cells #[.int .i64 a0_0, .int .i64 a0_1, .int .i64 a0_2, .int .i64 a0_3, .int .i64 a0_4, .int .i64 a0_5, .bool a0_6] 27 (0, 0)) (by (with_reducible repeat (first | refine blk_drewN ?_ _ | refine blk_drew ?_ | refine blk_alloc ?_ _)); exact BK193.out) hb); have n1_ := Aside0.mk (blk_below (g := gb194) (o := .cells #[.int .i64 a1_0, .int .i64 a1_1, .int .i64 a1_2] 68 (0, 0)) (by (with_reducible repeat (first | refine blk_drewN ?_ _ | refine blk_drew ?_ | refine blk_alloc ?_ _)); exact BK194.out) hb); have n2_ := Aside0.mk (below_step (by repeat (first | (with_reducible first | exact HB.out | apply below_alloc | apply pw_below_drewN | apply below_drew1 | refine below_set ?_ GE193.out | refine below_set ?_ GE194.out) | exact HB.out)) hb); clear BK193; clear BK194; clear HB; have BK193 := n0_; have BK194 := n1_; have HB := n2_; clear n0_ n1_ n2_; (try clear hb); (try clear hb2); (try clear hk); (try clear hi); have hcz34_0 : w33.cell? ⟨gb193, 0, none⟩ = some (.int .i64 a0_0) := (blk_cell BK193.out 0).trans rfl; have hcz34_1 : w33.cell? ⟨gb193, 1, none⟩ = some (.int .i64 a0_1) := (blk_cell BK193.out 1).trans rfl; have hcz34_2 : w33.cell? ⟨gb193, 2, none⟩ = some (.int .i64 a0_2) := (blk_cell BK193.out 2).trans rfl; have hcz34_3 : w33.cell? ⟨gb193, 3, none⟩ = some (.int .i64 a0_3) := (blk_cell BK193.out 3).trans rfl; have hcz34_4 : w33.cell? ⟨gb193, 4, none⟩ = some (.int .i64 a0_4) := (blk_cell BK193.out 4).trans rfl; have hcz34_5 : w33.cell? ⟨gb193, 5, none⟩ = some (.int .i64 a0_5) := (blk_cell BK193.out 5).trans rfl; have hcz34_6 : w33.cell? ⟨gb193, 6, none⟩ = some (.bool a0_6) := (blk_cell BK193.out 6).trans rfl; have hfz34_0 := blk_frozen BK193.out 0; have hfz34_1 := blk_frozen BK193.out 1; have hfz34_2 := blk_frozen BK193.out 2; have hfz34_3 := blk_frozen BK193.out 3; have hfz34_4 := blk_frozen BK193.out 4; have hfz34_5 := blk_frozen BK193.out 5; have hfz34_6 := blk_frozen BK193.out 6; have hcz35_0 : w33.cell? ⟨gb194, 0, none⟩ = some (.int .i64 a1_0) := (blk_cell BK194.out 0).trans rfl; have hcz35_1 : w33.cell? ⟨gb194, 1, none⟩ = some (.int .i64 a1_1) := (blk_cell BK194.out 1).trans rfl; have hcz35_2 : w33.cell? ⟨gb194, 2, none⟩ = some (.int .i64 a1_2) := (blk_cell BK194.out 2).trans rfl; have hfz35_0 := blk_frozen BK194.out 0; have hfz35_1 := blk_frozen BK194.out 1; have hfz35_2 := blk_frozen BK194.out 2) | ((with_reducible refine gate_callee (f := 94) rfl ?_); refine goesL_ (some 19) rfl rfl Tryd.func94 (by kernel_rfl) rfl #[.agg #[.int .i64 a0_0, .int .i64 a0_1, .int .i64 a0_2, .int .i64 a0_3, .int .i64 a0_4, .int .i64 a0_5, .bool a0_6], .agg #[.int .i64 a1_0, .int .i64 a1_1, .int .i64 a1_2]] rfl (by (try simp only [List.map_toArray, List.map_cons, List.map_nil]); first | done | rfl | (simp only [List.length_drop, List.length_take]; rfl)) ?_; (with_reducible refine (bonus_gap.calls a0_0 a0_1 a0_2 a0_3 a0_4 a0_5 a0_6 a1_0 a1_1 a1_2 t196 t197 _ A5.out).mono ?_); rintro e w36 ⟨rfl, hb⟩; refine ⟨_, rfl, ?_⟩; have n0_ := Aside0.mk (blk_below (g := gb193) (o := .cells #[.int .i64 a0_0, .int .i64 a0_1, .int .i64 a0_2, .int .i64 a0_3, .int .i64 a0_4, .int .i64 a0_5, .bool a0_6] 27 (0, 0)) (by (with_reducible repeat (first | refine blk_drewN ?_ _ | refine blk_drew ?_ | refine blk_alloc ?_ _)); exact BK193.out) hb); have n1_ := Aside0.mk (blk_below (g := gb194) (o := .cells #[.int .i64 a1_0, .int .i64 a1_1, .int .i64 a1_2] 68 (0, 0)) (by (with_reducible repeat (first | refine blk_drewN ?_ _ | refine blk_drew ?_ | refine blk_alloc ?_ _)); exact BK194.out) hb); have n2_ := Aside0.mk (below_step (by repeat (first | (with_reducible first | exact HB.out | apply below_alloc | apply pw_below_drewN | apply below_drew1 | refine below_set ?_ GE193.out | refine below_set ?_ GE194.out) | exact HB.out)) hb); clear BK193; clear BK194; clear HB; have BK193 := n0_; have BK194 := n1_; have HB := n2_; clear n0_ n1_ n2_; (try clear hb); (try clear hb2); (try clear hk); (try clear hi)))
      have n0_ := Aside0.mk (blk_drew BK193.out)
      have n1_ := Aside0.mk (blk_drew BK194.out)
      have n2_ := Aside0.mk (below_drew1 HB.out)
      clear BK193
      clear BK194
      clear HB
      have BK193 := n0_
      have BK194 := n1_
      have HB := n2_
      clear n0_ n1_ n2_
      refine start_ (n := 9) (S := fun w' => w'.cell? ⟨gb193, 0, none⟩ = some (.int .i64 a0_0) ∧ w'.cell? ⟨gb193, 1, none⟩ = some (.int .i64 a0_1) ∧ w'.cell? ⟨gb193, 2, none⟩ = some (.int .i64 a0_2) ∧ w'.cell? ⟨gb193, 3, none⟩ = some (.int .i64 a0_3) ∧ w'.cell? ⟨gb193, 4, none⟩ = some (.int .i64 a0_4) ∧ w'.cell? ⟨gb193, 5, none⟩ = some (.int .i64 a0_5) ∧ w'.cell? ⟨gb193, 6, none⟩ = some (.bool a0_6) ∧ w'.cell? ⟨gb194, 0, none⟩ = some (.int .i64 a1_0) ∧ w'.cell? ⟨gb194, 1, none⟩ = some (.int .i64 a1_1) ∧ w'.cell? ⟨gb194, 2, none⟩ = some (.int .i64 a1_2)) (ds := []) #[false, false, false, false, false, false, false, false, false] (by kernel_rfl) rfl rfl ⟨(blk_cell BK193.out 0).trans rfl, (blk_cell BK193.out 1).trans rfl, (blk_cell BK193.out 2).trans rfl, (blk_cell BK193.out 3).trans rfl, (blk_cell BK193.out 4).trans rfl, (blk_cell BK193.out 5).trans rfl, (blk_cell BK193.out 6).trans rfl, (blk_cell BK194.out 0).trans rfl, (blk_cell BK194.out 1).trans rfl, (blk_cell BK194.out 2).trans rfl⟩ (fun hHeld => ?_); refine with_tabW bonus_KeepsBox.tab5 bonus_KeepsBox.bits5 (fun HT_ HW_ => ?_)
      generalize w36.drew = w37 at BK193 BK194 HB hHeld ⊢
      refine pure_ (i := 0) (N := some 22) (v := ?_) (a' := ?_) #[true, false, false, false, false, false, false, false, false] rfl rfl (any_of HT_.out (by kernel_rfl)) (fun _ _ _ h => h) (Or.inl ⟨by rfl, ?_⟩) ?_ ?_
      rotate_left
      · intro w'
        go_simp
        with_reducible rfl
      rotate_left
      · simp only [Act.put, List.setIfInBounds_toArray, List.set_cons_zero, List.set_cons_succ, i64_w, i32_w]
        rfl
      refine pure_ (i := 4) (N := some 26) (v := ?_) (a' := ?_) #[true, false, false, false, true, false, false, false, false] rfl rfl (any_of HT_.out (by kernel_rfl)) (fun _ _ _ h => h) (Or.inl ⟨by rfl, ?_⟩) ?_ ?_
      rotate_left
      · intro w'
        go_simp
        with_reducible rfl
      rotate_left
      · simp only [Act.put, List.setIfInBounds_toArray, List.set_cons_zero, List.set_cons_succ, i64_w, i32_w]
        rfl
      refine take_ (i := 1) (N := some 23) (v := ?_) (a' := ?_) #[true, true, false, false, true, false, false, false, false] rfl rfl (take_ofW HT_.out HW_.out (by kernel_rfl)) (fun _ _ _ h => h) (Or.inl ⟨by rfl, ?_⟩) hHeld ?_ ?_
      rotate_left
      · rintro w' ⟨s0, s1, s2, s3, s4, s5, s6, s7, s8, s9⟩
        go_simp
        with_reducible rfl
      rotate_left
      · simp only [Act.put, List.setIfInBounds_toArray, List.set_cons_zero, List.set_cons_succ, i64_w, i32_w]
        rfl
      refine take_ (i := 2) (N := some 24) (v := ?_) (a' := ?_) #[true, true, true, false, true, false, false, false, false] rfl rfl (take_ofW HT_.out HW_.out (by kernel_rfl)) (fun _ _ _ h => h) (Or.inl ⟨by rfl, ?_⟩) hHeld ?_ ?_
      rotate_left
      · rintro w' ⟨s0, s1, s2, s3, s4, s5, s6, s7, s8, s9⟩
        go_simp
        with_reducible rfl
      rotate_left
      · simp only [Act.put, List.setIfInBounds_toArray, List.set_cons_zero, List.set_cons_succ, i64_w, i32_w]
        rfl
      refine take_ (i := 5) (N := some 27) (v := ?_) (a' := ?_) #[true, true, true, false, true, true, false, false, false] rfl rfl (take_ofW HT_.out HW_.out (by kernel_rfl)) (fun _ _ _ h => h) (Or.inl ⟨by rfl, ?_⟩) hHeld ?_ ?_
      rotate_left
      · rintro w' ⟨s0, s1, s2, s3, s4, s5, s6, s7, s8, s9⟩
        go_simp
        with_reducible rfl
      rotate_left
      · simp only [Act.put, List.setIfInBounds_toArray, List.set_cons_zero, List.set_cons_succ, i64_w, i32_w]
        rfl
      refine one_ (i := 3) (N := some 25) #[true, true, true, true, true, true, false, false, false] rfl rfl (one_of HT_.out (by kernel_rfl)) (by decide) (fun K hK => ?_)
      refine goes_ Tryd.func67 (by kernel_rfl) rfl #[.agg #[.int .i64 a0_0, .int .i64 a0_1, .int .i64 a0_2, .int .i64 a0_3, .int .i64 a0_4, .int .i64 a0_5, .bool a0_6]] (by rfl) rfl rfl (by (try simp only [List.map_toArray, List.map_cons, List.map_nil]); first | done | rfl | (simp only [List.length_drop, List.length_take]; rfl)) ?_
      with_reducible refine (bonus_of.calls a0_0 a0_1 a0_2 a0_3 a0_4 a0_5 a0_6 t198 t199 t200 t201 t202 t203 t204 t205 _ A6.out (by exact sig_below HS.out (by repeat (first | (with_reducible first | exact HB.out | apply below_alloc | apply pw_below_drewN | apply below_drew1 | refine below_set ?_ GE193.out | refine below_set ?_ GE194.out) | exact HB.out)))).mono ?_
      rintro e w38 ⟨rfl, hb⟩
      refine ⟨_, rfl, ?_⟩
      have n0_ := Aside0.mk (blk_below (g := gb193) (o := .cells #[.int .i64 a0_0, .int .i64 a0_1, .int .i64 a0_2, .int .i64 a0_3, .int .i64 a0_4, .int .i64 a0_5, .bool a0_6] 27 (0, 0)) (by (with_reducible repeat (first | refine blk_drewN ?_ _ | refine blk_drew ?_ | refine blk_alloc ?_ _)); exact BK193.out) hb)
      have n1_ := Aside0.mk (blk_below (g := gb194) (o := .cells #[.int .i64 a1_0, .int .i64 a1_1, .int .i64 a1_2] 68 (0, 0)) (by (with_reducible repeat (first | refine blk_drewN ?_ _ | refine blk_drew ?_ | refine blk_alloc ?_ _)); exact BK194.out) hb)
      have n2_ := Aside0.mk (below_step (by repeat (first | (with_reducible first | exact HB.out | apply below_alloc | apply pw_below_drewN | apply below_drew1 | refine below_set ?_ GE193.out | refine below_set ?_ GE194.out) | exact HB.out)) hb)
      clear BK193
      clear BK194
      clear HB
      have BK193 := n0_
      have BK194 := n1_
      have HB := n2_
      clear n0_ n1_ n2_
      (try clear hb)
      (try clear hb2)
      (try clear hk)
      (try clear hi)
      refine hK.out _ _ ⟨(blk_cell BK193.out 0).trans rfl, (blk_cell BK193.out 1).trans rfl, (blk_cell BK193.out 2).trans rfl, (blk_cell BK193.out 3).trans rfl, (blk_cell BK193.out 4).trans rfl, (blk_cell BK193.out 5).trans rfl, (blk_cell BK193.out 6).trans rfl, (blk_cell BK194.out 0).trans rfl, (blk_cell BK194.out 1).trans rfl, (blk_cell BK194.out 2).trans rfl⟩ (fun hHeld => ?_)
      clear hK K
      refine norm_ (a' := ?_) ?_ ?_
      rotate_left
      · show Act.put _ (some 25) _ = _
        simp only [Act.put, List.setIfInBounds_toArray, List.set_cons_zero, List.set_cons_succ, i64_w, i32_w]
        rfl
      refine one_ (i := 6) (N := some 28) #[true, true, true, true, true, true, true, false, false] rfl rfl (one_of HT_.out (by kernel_rfl)) (by decide) (fun K hK => ?_)
      refine goes_ Tryd.func77 (by kernel_rfl) rfl #[.agg #[.int .i64 t198, .int .i64 t199, .int .i64 t200, .int .i64 t201, .int .i64 t202, .int .i64 t203, .bool t204, .int .i64 t205], .int .i64 a1_2] (by rfl) rfl rfl (by (try simp only [List.map_toArray, List.map_cons, List.map_nil]); first | done | rfl | (simp only [List.length_drop, List.length_take]; rfl)) ?_
      with_reducible refine (bonus_condition_extra.calls t198 t199 t200 t201 t202 t203 t204 t205 a1_2 t206 _ A7.out).mono ?_
      rintro e w39 ⟨rfl, hb⟩
      refine ⟨_, rfl, ?_⟩
      have n0_ := Aside0.mk (blk_below (g := gb193) (o := .cells #[.int .i64 a0_0, .int .i64 a0_1, .int .i64 a0_2, .int .i64 a0_3, .int .i64 a0_4, .int .i64 a0_5, .bool a0_6] 27 (0, 0)) (by (with_reducible repeat (first | refine blk_drewN ?_ _ | refine blk_drew ?_ | refine blk_alloc ?_ _)); exact BK193.out) hb)
      have n1_ := Aside0.mk (blk_below (g := gb194) (o := .cells #[.int .i64 a1_0, .int .i64 a1_1, .int .i64 a1_2] 68 (0, 0)) (by (with_reducible repeat (first | refine blk_drewN ?_ _ | refine blk_drew ?_ | refine blk_alloc ?_ _)); exact BK194.out) hb)
      have n2_ := Aside0.mk (below_step (by repeat (first | (with_reducible first | exact HB.out | apply below_alloc | apply pw_below_drewN | apply below_drew1 | refine below_set ?_ GE193.out | refine below_set ?_ GE194.out) | exact HB.out)) hb)
      clear BK193
      clear BK194
      clear HB
      have BK193 := n0_
      have BK194 := n1_
      have HB := n2_
      clear n0_ n1_ n2_
      (try clear hb)
      (try clear hb2)
      (try clear hk)
      (try clear hi)
      refine hK.out _ _ ⟨(blk_cell BK193.out 0).trans rfl, (blk_cell BK193.out 1).trans rfl, (blk_cell BK193.out 2).trans rfl, (blk_cell BK193.out 3).trans rfl, (blk_cell BK193.out 4).trans rfl, (blk_cell BK193.out 5).trans rfl, (blk_cell BK193.out 6).trans rfl, (blk_cell BK194.out 0).trans rfl, (blk_cell BK194.out 1).trans rfl, (blk_cell BK194.out 2).trans rfl⟩ (fun hHeld => ?_)
      clear hK K
      refine norm_ (a' := ?_) ?_ ?_
      rotate_left
      · show Act.put _ (some 28) _ = _
        simp only [Act.put, List.setIfInBounds_toArray, List.set_cons_zero, List.set_cons_succ, i64_w, i32_w]
        rfl
      refine pure_ (i := 7) (N := some 29) (v := ?_) (a' := ?_) #[true, true, true, true, true, true, true, true, false] rfl rfl (any_of HT_.out (by kernel_rfl)) (fun _ _ _ h => h) (Or.inl ⟨by rfl, ?_⟩) ?_ ?_
      rotate_left
      · intro w'
        go_simp
        with_reducible rfl
      rotate_left
      · simp only [Act.put, List.setIfInBounds_toArray, List.set_cons_zero, List.set_cons_succ, i64_w, i32_w]
        rfl
      refine pure_ (i := 8) (N := some 9) (v := ?_) (a' := ?_) #[true, true, true, true, true, true, true, true, true] rfl rfl (any_of HT_.out (by kernel_rfl)) (fun _ _ _ h => h) (Or.inl ⟨by rfl, ?_⟩) ?_ ?_
      rotate_left
      · intro w'
        go_simp
        with_reducible rfl
      rotate_left
      · simp only [Act.put, List.setIfInBounds_toArray, List.set_cons_zero, List.set_cons_succ, i64_w, i32_w]
        rfl
      refine done_ (done_of HT_.out (by kernel_rfl)) ?_
      have hcz40_0 : w39.cell? ⟨gb193, 0, none⟩ = some (.int .i64 a0_0) := (blk_cell BK193.out 0).trans rfl
      have hcz40_1 : w39.cell? ⟨gb193, 1, none⟩ = some (.int .i64 a0_1) := (blk_cell BK193.out 1).trans rfl
      have hcz40_2 : w39.cell? ⟨gb193, 2, none⟩ = some (.int .i64 a0_2) := (blk_cell BK193.out 2).trans rfl
      have hcz40_3 : w39.cell? ⟨gb193, 3, none⟩ = some (.int .i64 a0_3) := (blk_cell BK193.out 3).trans rfl
      have hcz40_4 : w39.cell? ⟨gb193, 4, none⟩ = some (.int .i64 a0_4) := (blk_cell BK193.out 4).trans rfl
      have hcz40_5 : w39.cell? ⟨gb193, 5, none⟩ = some (.int .i64 a0_5) := (blk_cell BK193.out 5).trans rfl
      have hcz40_6 : w39.cell? ⟨gb193, 6, none⟩ = some (.bool a0_6) := (blk_cell BK193.out 6).trans rfl
      have hfz40_0 := blk_frozen BK193.out 0
      have hfz40_1 := blk_frozen BK193.out 1
      have hfz40_2 := blk_frozen BK193.out 2
      have hfz40_3 := blk_frozen BK193.out 3
      have hfz40_4 := blk_frozen BK193.out 4
      have hfz40_5 := blk_frozen BK193.out 5
      have hfz40_6 := blk_frozen BK193.out 6
      have hcz41_0 : w39.cell? ⟨gb194, 0, none⟩ = some (.int .i64 a1_0) := (blk_cell BK194.out 0).trans rfl
      have hcz41_1 : w39.cell? ⟨gb194, 1, none⟩ = some (.int .i64 a1_1) := (blk_cell BK194.out 1).trans rfl
      have hcz41_2 : w39.cell? ⟨gb194, 2, none⟩ = some (.int .i64 a1_2) := (blk_cell BK194.out 2).trans rfl
      have hfz41_0 := blk_frozen BK194.out 0
      have hfz41_1 := blk_frozen BK194.out 1
      have hfz41_2 := blk_frozen BK194.out 2
      try go_wp2_with (first | ((with_reducible refine gate_callee (f := 76) rfl ?_); refine goesL_ (some 33) rfl rfl Tryd.func76 (by kernel_rfl) rfl #[.agg #[.int .i64 a0_0, .int .i64 a0_1, .int .i64 a0_2, .int .i64 a0_3, .int .i64 a0_4, .int .i64 a0_5, .bool a0_6], .int .i64 a1_2] rfl (by (try simp only [List.map_toArray, List.map_cons, List.map_nil]); first | done | rfl | (simp only [List.length_drop, List.length_take]; rfl)) ?_; (with_reducible refine (bonus_within.calls a0_0 a0_1 a0_2 a0_3 a0_4 a0_5 a0_6 a1_2 false _ A8.out).mono ?_); rintro e w42 ⟨rfl, hb⟩; refine ⟨_, rfl, ?_⟩; have n0_ := Aside0.mk (blk_below (g := gb193) (o := .cells #[.int .i64 a0_0, .int .i64 a0_1, .int .i64 a0_2, .int .i64 a0_3, .int .i64 a0_4, .int .i64 a0_5, .bool a0_6] 27 (0, 0)) (by (with_reducible repeat (first | refine blk_drewN ?_ _ | refine blk_drew ?_ | refine blk_alloc ?_ _)); exact BK193.out) hb); have n1_ := Aside0.mk (blk_below (g := gb194) (o := .cells #[.int .i64 a1_0, .int .i64 a1_1, .int .i64 a1_2] 68 (0, 0)) (by (with_reducible repeat (first | refine blk_drewN ?_ _ | refine blk_drew ?_ | refine blk_alloc ?_ _)); exact BK194.out) hb); have n2_ := Aside0.mk (below_step (by repeat (first | (with_reducible first | exact HB.out | apply below_alloc | apply pw_below_drewN | apply below_drew1 | refine below_set ?_ GE193.out | refine below_set ?_ GE194.out) | exact HB.out)) hb); clear BK193; clear BK194; clear HB; have BK193 := n0_; have BK194 := n1_; have HB := n2_; clear n0_ n1_ n2_; (try clear hb); (try clear hb2); (try clear hk); (try clear hi)))
      go_ret2
      exact ⟨by first | rfl | (simp [errW_none, errW_some] <;> rfl) | (simp [*, errW_none, errW_some] <;> rfl), by repeat (first | (with_reducible first | exact HB.out | apply below_alloc | apply pw_below_drewN | apply below_drew1 | refine below_set ?_ GE193.out | refine below_set ?_ GE194.out) | exact HB.out)⟩
  · rw [if_neg c4] at H
    have c4b0 : (t195 == 0) = false := beq_eq_false_iff_ne.mpr c4
    have c4b1 : (t195 != 0) = true := bne_iff_ne.mpr c4
    simp only [Option.some.injEq, Prod.mk.injEq] at H
    obtain ⟨rfl, rfl⟩ := H
    go_enter Tryd.func46, Tryd.ntmps46
    go_wp2_with (first | ((with_reducible refine gate_dst (N := 2) rfl ?_); (try (refine gate_guard (by rfl) ?_; dsimp only)); refine box_event ?hg (N := 2) ?hd (cs := #[.int .i64 a0_0, .int .i64 a0_1, .int .i64 a0_2, .int .i64 a0_3, .int .i64 a0_4, .int .i64 a0_5, .bool a0_6]) (t := 27) ?hr ?_; (case hd => rfl); (case hg => rfl); (case hr => first | (go_simp; done) | (go_simp; rfl)); intro gb193 hg w43 hbox hb; have n0_ := Aside0.mk (below_step (by repeat (first | (with_reducible first | exact HB.out | apply below_alloc | apply pw_below_drewN | apply below_drew1) | exact HB.out)) hb); have n1_ := Aside0.mk (hbox); have n2_ := Aside0.mk ((by rw [hg]; exact (below_size (by repeat (first | (with_reducible first | exact HB.out | apply below_alloc | apply pw_below_drewN | apply below_drew1) | exact HB.out))) : w.heap.size ≤ gb193)); have n3_ := Aside0.mk ((by rw [hg]; exact (below_size (by repeat (first | (with_reducible first | exact HB.out | apply below_alloc | apply pw_below_drewN | apply below_drew1) | exact HB.out))) : w.heap.size ≤ gb193)); clear HB; have HB := n0_; have BK193 := n1_; have GW193 := n2_; have GE193 := n3_; clear n0_ n1_ n2_ n3_; clear hb hbox hg) | ((with_reducible refine gate_dst (N := 3) rfl ?_); (try (refine gate_guard (by rfl) ?_; dsimp only)); refine box_event ?hg (N := 3) ?hd (cs := #[.int .i64 a1_0, .int .i64 a1_1, .int .i64 a1_2]) (t := 68) ?hr ?_; (case hd => rfl); (case hg => rfl); (case hr => first | (go_simp; done) | (go_simp; rfl)); intro gb194 hg w44 hbox hb; have n0_ := Aside0.mk (blk_below (g := gb193) (o := .cells #[.int .i64 a0_0, .int .i64 a0_1, .int .i64 a0_2, .int .i64 a0_3, .int .i64 a0_4, .int .i64 a0_5, .bool a0_6] 27 (0, 0)) (by (with_reducible repeat (first | refine blk_drewN ?_ _ | refine blk_drew ?_ | refine blk_alloc ?_ _)); exact BK193.out) hb); have n1_ := Aside0.mk (below_step (by repeat (first | (with_reducible first | exact HB.out | apply below_alloc | apply pw_below_drewN | apply below_drew1 | refine below_set ?_ GE193.out) | exact HB.out)) hb); have n2_ := Aside0.mk (hbox); have n3_ := Aside0.mk ((by rw [hg]; exact (below_size (by repeat (first | (with_reducible first | exact HB.out | apply below_alloc | apply pw_below_drewN | apply below_drew1 | refine below_set ?_ GE193.out) | exact HB.out))) : w.heap.size ≤ gb194)); have n4_ := Aside0.mk ((by rw [hg]; exact (below_size (by repeat (first | (with_reducible first | exact HB.out | apply below_alloc | apply pw_below_drewN | apply below_drew1 | refine below_set ?_ GE193.out) | exact HB.out))) : w.heap.size ≤ gb194)); have n5_ := Aside0.mk ((by rw [hg]; exact Nat.ne_of_lt (blk_lt (g := gb193) (o := .cells #[.int .i64 a0_0, .int .i64 a0_1, .int .i64 a0_2, .int .i64 a0_3, .int .i64 a0_4, .int .i64 a0_5, .bool a0_6] 27 (0, 0)) (by (with_reducible repeat (first | refine blk_drewN ?_ _ | refine blk_drew ?_ | refine blk_alloc ?_ _)); exact BK193.out)) : gb193 ≠ gb194)); have n6_ := Aside0.mk ((by rw [hg]; exact Nat.ne_of_gt (blk_lt (g := gb193) (o := .cells #[.int .i64 a0_0, .int .i64 a0_1, .int .i64 a0_2, .int .i64 a0_3, .int .i64 a0_4, .int .i64 a0_5, .bool a0_6] 27 (0, 0)) (by (with_reducible repeat (first | refine blk_drewN ?_ _ | refine blk_drew ?_ | refine blk_alloc ?_ _)); exact BK193.out)) : gb194 ≠ gb193)); clear BK193; clear HB; have BK193 := n0_; have HB := n1_; have BK194 := n2_; have GW194 := n3_; have GE194 := n4_; have NB193_194 := n5_; have NB194_193 := n6_; clear n0_ n1_ n2_ n3_ n4_ n5_ n6_; clear hb hbox hg; have hnb45 := NB193_194.out; have hnc45 := NB194_193.out; have hcz46_0 : w44.cell? ⟨gb193, 0, none⟩ = some (.int .i64 a0_0) := (blk_cell BK193.out 0).trans rfl; have hcz46_1 : w44.cell? ⟨gb193, 1, none⟩ = some (.int .i64 a0_1) := (blk_cell BK193.out 1).trans rfl; have hcz46_2 : w44.cell? ⟨gb193, 2, none⟩ = some (.int .i64 a0_2) := (blk_cell BK193.out 2).trans rfl; have hcz46_3 : w44.cell? ⟨gb193, 3, none⟩ = some (.int .i64 a0_3) := (blk_cell BK193.out 3).trans rfl; have hcz46_4 : w44.cell? ⟨gb193, 4, none⟩ = some (.int .i64 a0_4) := (blk_cell BK193.out 4).trans rfl; have hcz46_5 : w44.cell? ⟨gb193, 5, none⟩ = some (.int .i64 a0_5) := (blk_cell BK193.out 5).trans rfl; have hcz46_6 : w44.cell? ⟨gb193, 6, none⟩ = some (.bool a0_6) := (blk_cell BK193.out 6).trans rfl; have hfz46_0 := blk_frozen BK193.out 0; have hfz46_1 := blk_frozen BK193.out 1; have hfz46_2 := blk_frozen BK193.out 2; have hfz46_3 := blk_frozen BK193.out 3; have hfz46_4 := blk_frozen BK193.out 4; have hfz46_5 := blk_frozen BK193.out 5; have hfz46_6 := blk_frozen BK193.out 6; have hcz47_0 : w44.cell? ⟨gb194, 0, none⟩ = some (.int .i64 a1_0) := (blk_cell BK194.out 0).trans rfl; have hcz47_1 : w44.cell? ⟨gb194, 1, none⟩ = some (.int .i64 a1_1) := (blk_cell BK194.out 1).trans rfl; have hcz47_2 : w44.cell? ⟨gb194, 2, none⟩ = some (.int .i64 a1_2) := (blk_cell BK194.out 2).trans rfl; have hfz47_0 := blk_frozen BK194.out 0; have hfz47_1 := blk_frozen BK194.out 1; have hfz47_2 := blk_frozen BK194.out 2) | ((with_reducible refine gate_callee (f := 93) rfl ?_); refine goesL_ (some 12) rfl rfl Tryd.func93 (by kernel_rfl) rfl #[.agg #[.int .i64 a0_0, .int .i64 a0_1, .int .i64 a0_2, .int .i64 a0_3, .int .i64 a0_4, .int .i64 a0_5, .bool a0_6], .agg #[.int .i64 a1_0, .int .i64 a1_1, .int .i64 a1_2]] rfl (by (try simp only [List.map_toArray, List.map_cons, List.map_nil]); first | done | rfl | (simp only [List.length_drop, List.length_take]; rfl)) ?_; (with_reducible refine (bonus_both.calls k a0_0 a0_1 a0_2 a0_3 a0_4 a0_5 a0_6 a1_0 a1_1 a1_2 t195 _ A3.out).mono ?_); rintro e w48 ⟨rfl, hb⟩; refine ⟨_, rfl, ?_⟩; have n0_ := Aside0.mk (blk_below (g := gb193) (o := .cells #[.int .i64 a0_0, .int .i64 a0_1, .int .i64 a0_2, .int .i64 a0_3, .int .i64 a0_4, .int .i64 a0_5, .bool a0_6] 27 (0, 0)) (by (with_reducible repeat (first | refine blk_drewN ?_ _ | refine blk_drew ?_ | refine blk_alloc ?_ _)); exact BK193.out) hb); have n1_ := Aside0.mk (blk_below (g := gb194) (o := .cells #[.int .i64 a1_0, .int .i64 a1_1, .int .i64 a1_2] 68 (0, 0)) (by (with_reducible repeat (first | refine blk_drewN ?_ _ | refine blk_drew ?_ | refine blk_alloc ?_ _)); exact BK194.out) hb); have n2_ := Aside0.mk (below_step (by repeat (first | (with_reducible first | exact HB.out | apply below_alloc | apply pw_below_drewN | apply below_drew1 | refine below_set ?_ GE193.out | refine below_set ?_ GE194.out) | exact HB.out)) hb); clear BK193; clear BK194; clear HB; have BK193 := n0_; have BK194 := n1_; have HB := n2_; clear n0_ n1_ n2_; (try clear hb); (try clear hb2); (try clear hk); (try clear hi)))
    go_ret2
    exact ⟨by first | rfl | (simp [errW_none, errW_some] <;> rfl) | (simp [*, errW_none, errW_some] <;> rfl), by repeat (first | (with_reducible first | exact HB.out | apply below_alloc | apply pw_below_drewN | apply below_drew1 | refine below_set ?_ GE193.out | refine below_set ?_ GE194.out) | exact HB.out)⟩
end Go.Proofs.YtjemaonejkepcaaDoor.B
namespace Go.Proofs.YtjemaonejkepcaaDoor.B
open Go.RowKit Go.Proofs.YtjemaonejkepcaaDoorW.PrintWords Go.Proofs.YtjemaonejkepcaaDoorW.PrintLast Go.Proofs.YtjemaonejkepcaaDoorW.PrintMore
attribute [local go_sem] max2_int min2_int max_two min_two max_three min_three max_four min_four   -- for this text's walks alone
set_option linter.unusedVariables false
set_option linter.unusedSimpArgs false
def metrolabref44_Ring.f (a0_0 : Int) (a0_1 : Int) (a0_2 : Int) : Option (Int) := (metrolabref07_Right.f a0_0 a0_1).bind fun t250 => (if t250 = true then ((metrolabref44_size.f a0_2).bind fun t251 => (if t251 = true then (some 0) else (some 2))) else (some 2))
set_option maxHeartbeats 8000000 in
set_option maxRecDepth 100000 in
theorem metrolabref44_Ring.calls (a0_0 : Int) (a0_1 : Int) (a0_2 : Int) (r : Int) (w : World) (h : metrolabref44_Ring.f a0_0 a0_1 a0_2 = some r) :
    Calls Tryd.prog 42 #[.agg #[.int .i64 a0_0, .int .i64 a0_1, .int .i64 a0_2]] w fun e w' => e = .returned (.int .i64 r) ∧ Below w.heap.size w w' := by
  have hu68 := Tryd.underlying68
  have hu23 := Tryd.underlying23
  have HB := Aside0.mk (Below.refl w.heap.size w)
  have H : ((metrolabref07_Right.f a0_0 a0_1).bind fun t250 => (if t250 = true then ((metrolabref44_size.f a0_2).bind fun t251 => (if t251 = true then (some 0) else (some 2))) else (some 2))) = some r := h
  clear h
  replace H := Option.bind_eq_some_iff.mp H
  obtain ⟨t250, A20, H⟩ := H
  replace H : (if t250 = true then ((metrolabref44_size.f a0_2).bind fun t251 => (if t251 = true then (some 0) else (some 2))) else (some 2)) = some r := H
  have A2 := Aside0.mk A20
  clear A20
  by_cases c3 : t250 = true
  · subst c3
    have H1 : ((metrolabref44_size.f a0_2).bind fun t251 => (if t251 = true then (some 0) else (some 2))) = some r := by rw [if_pos rfl] at H; exact H
    clear H
    have H := H1
    clear H1
    replace H := Option.bind_eq_some_iff.mp H
    obtain ⟨t251, A40, H⟩ := H
    replace H : (if t251 = true then (some 0) else (some 2)) = some r := H
    have A4 := Aside0.mk A40
    clear A40
    by_cases c5 : t251 = true
    · subst c5
      have H1 : (some 0) = some r := by rw [if_pos rfl] at H; exact H
      clear H
      have H := H1
      clear H1
      obtain rfl := Option.some.inj H
      go_enter Tryd.func42, Tryd.ntmps42
      go_wp2_with (first | ((with_reducible refine gate_dst (N := 1) rfl ?_); refine box_event ?hg (N := 1) ?hd (cs := #[.int .i64 a0_0, .int .i64 a0_1, .int .i64 a0_2]) (t := 68) ?hr ?_; (case hd => rfl); (case hg => rfl); (case hr => first | (go_simp; done) | (go_simp; rfl)); intro gb249 hg w6 hbox hb; have n0_ := Aside0.mk (below_step (by repeat (first | (with_reducible first | exact HB.out | apply below_alloc | apply pw_below_drewN | apply below_drew1) | exact HB.out)) hb); have n1_ := Aside0.mk (hbox); have n2_ := Aside0.mk ((by rw [hg]; exact (below_size (by repeat (first | (with_reducible first | exact HB.out | apply below_alloc | apply pw_below_drewN | apply below_drew1) | exact HB.out))) : w.heap.size ≤ gb249)); have n3_ := Aside0.mk ((by rw [hg]; exact (below_size (by repeat (first | (with_reducible first | exact HB.out | apply below_alloc | apply pw_below_drewN | apply below_drew1) | exact HB.out))) : w.heap.size ≤ gb249)); clear HB; have HB := n0_; have BK249 := n1_; have GW249 := n2_; have GE249 := n3_; clear n0_ n1_ n2_ n3_; clear hb hbox hg; have hcz7_0 : w6.cell? ⟨gb249, 0, none⟩ = some (.int .i64 a0_0) := (blk_cell BK249.out 0).trans rfl; have hcz7_1 : w6.cell? ⟨gb249, 1, none⟩ = some (.int .i64 a0_1) := (blk_cell BK249.out 1).trans rfl; have hcz7_2 : w6.cell? ⟨gb249, 2, none⟩ = some (.int .i64 a0_2) := (blk_cell BK249.out 2).trans rfl; have hfz7_0 := blk_frozen BK249.out 0; have hfz7_1 := blk_frozen BK249.out 1; have hfz7_2 := blk_frozen BK249.out 2) | ((with_reducible refine gate_callee (f := 73) rfl ?_); refine goesL_ (some 5) rfl rfl Tryd.func73 (by kernel_rfl) rfl #[.agg #[.int .i64 a0_0, .int .i64 a0_1]] rfl (by (try simp only [List.map_toArray, List.map_cons, List.map_nil]); first | done | rfl | (simp only [List.length_drop, List.length_take]; rfl)) ?_; (with_reducible refine (metrolabref07_Right.calls a0_0 a0_1 true _ A2.out).mono ?_); rintro e w8 ⟨rfl, hb⟩; refine ⟨_, rfl, ?_⟩; have n0_ := Aside0.mk (blk_below (g := gb249) (o := .cells #[.int .i64 a0_0, .int .i64 a0_1, .int .i64 a0_2] 68 (0, 0)) (by (with_reducible repeat (first | refine blk_drewN ?_ _ | refine blk_drew ?_ | refine blk_alloc ?_ _)); exact BK249.out) hb); have n1_ := Aside0.mk (below_step (by repeat (first | (with_reducible first | exact HB.out | apply below_alloc | apply pw_below_drewN | apply below_drew1 | refine below_set ?_ GE249.out) | exact HB.out)) hb); clear BK249; clear HB; have BK249 := n0_; have HB := n1_; clear n0_ n1_; (try clear hb); (try clear hb2); (try clear hk); (try clear hi); have hcz9_0 : w8.cell? ⟨gb249, 0, none⟩ = some (.int .i64 a0_0) := (blk_cell BK249.out 0).trans rfl; have hcz9_1 : w8.cell? ⟨gb249, 1, none⟩ = some (.int .i64 a0_1) := (blk_cell BK249.out 1).trans rfl; have hcz9_2 : w8.cell? ⟨gb249, 2, none⟩ = some (.int .i64 a0_2) := (blk_cell BK249.out 2).trans rfl; have hfz9_0 := blk_frozen BK249.out 0; have hfz9_1 := blk_frozen BK249.out 1; have hfz9_2 := blk_frozen BK249.out 2) | (go_at_call 74; (with_reducible refine (metrolabref44_size.calls a0_2 true _ A4.out).mono ?_); rintro e w' ⟨rfl, ⟨nd, rfl⟩⟩))
      go_ret
      exact ⟨by first | rfl | (simp [errW_none, errW_some] <;> rfl) | (simp [*, errW_none, errW_some] <;> rfl), by repeat (first | (with_reducible first | exact HB.out | apply below_alloc | apply pw_below_drewN | apply below_drew1 | refine below_set ?_ GE249.out) | exact HB.out)⟩
    · replace c5 := Bool.eq_false_iff.mpr c5
      subst c5
      have H1 : (some 2) = some r := by rw [if_neg (show ¬ (false = true) by decide)] at H; exact H
      clear H
      have H := H1
      clear H1
      obtain rfl := Option.some.inj H
      go_enter Tryd.func42, Tryd.ntmps42
      go_wp2_with (first | ((with_reducible refine gate_dst (N := 1) rfl ?_); refine box_event ?hg (N := 1) ?hd (cs := #[.int .i64 a0_0, .int .i64 a0_1, .int .i64 a0_2]) (t := 68) ?hr ?_; (case hd => rfl); (case hg => rfl); (case hr => first | (go_simp; done) | (go_simp; rfl)); intro gb249 hg w10 hbox hb; have n0_ := Aside0.mk (below_step (by repeat (first | (with_reducible first | exact HB.out | apply below_alloc | apply pw_below_drewN | apply below_drew1) | exact HB.out)) hb); have n1_ := Aside0.mk (hbox); have n2_ := Aside0.mk ((by rw [hg]; exact (below_size (by repeat (first | (with_reducible first | exact HB.out | apply below_alloc | apply pw_below_drewN | apply below_drew1) | exact HB.out))) : w.heap.size ≤ gb249)); have n3_ := Aside0.mk ((by rw [hg]; exact (below_size (by repeat (first | (with_reducible first | exact HB.out | apply below_alloc | apply pw_below_drewN | apply below_drew1) | exact HB.out))) : w.heap.size ≤ gb249)); clear HB; have HB := n0_; have BK249 := n1_; have GW249 := n2_; have GE249 := n3_; clear n0_ n1_ n2_ n3_; clear hb hbox hg; have hcz11_0 : w10.cell? ⟨gb249, 0, none⟩ = some (.int .i64 a0_0) := (blk_cell BK249.out 0).trans rfl; have hcz11_1 : w10.cell? ⟨gb249, 1, none⟩ = some (.int .i64 a0_1) := (blk_cell BK249.out 1).trans rfl; have hcz11_2 : w10.cell? ⟨gb249, 2, none⟩ = some (.int .i64 a0_2) := (blk_cell BK249.out 2).trans rfl; have hfz11_0 := blk_frozen BK249.out 0; have hfz11_1 := blk_frozen BK249.out 1; have hfz11_2 := blk_frozen BK249.out 2) | ((with_reducible refine gate_callee (f := 73) rfl ?_); refine goesL_ (some 5) rfl rfl Tryd.func73 (by kernel_rfl) rfl #[.agg #[.int .i64 a0_0, .int .i64 a0_1]] rfl (by (try simp only [List.map_toArray, List.map_cons, List.map_nil]); first | done | rfl | (simp only [List.length_drop, List.length_take]; rfl)) ?_; (with_reducible refine (metrolabref07_Right.calls a0_0 a0_1 true _ A2.out).mono ?_); rintro e w12 ⟨rfl, hb⟩; refine ⟨_, rfl, ?_⟩; have n0_ := Aside0.mk (blk_below (g := gb249) (o := .cells #[.int .i64 a0_0, .int .i64 a0_1, .int .i64 a0_2] 68 (0, 0)) (by (with_reducible repeat (first | refine blk_drewN ?_ _ | refine blk_drew ?_ | refine blk_alloc ?_ _)); exact BK249.out) hb); have n1_ := Aside0.mk (below_step (by repeat (first | (with_reducible first | exact HB.out | apply below_alloc | apply pw_below_drewN | apply below_drew1 | refine below_set ?_ GE249.out) | exact HB.out)) hb); clear BK249; clear HB; have BK249 := n0_; have HB := n1_; clear n0_ n1_; (try clear hb); (try clear hb2); (try clear hk); (try clear hi); have hcz13_0 : w12.cell? ⟨gb249, 0, none⟩ = some (.int .i64 a0_0) := (blk_cell BK249.out 0).trans rfl; have hcz13_1 : w12.cell? ⟨gb249, 1, none⟩ = some (.int .i64 a0_1) := (blk_cell BK249.out 1).trans rfl; have hcz13_2 : w12.cell? ⟨gb249, 2, none⟩ = some (.int .i64 a0_2) := (blk_cell BK249.out 2).trans rfl; have hfz13_0 := blk_frozen BK249.out 0; have hfz13_1 := blk_frozen BK249.out 1; have hfz13_2 := blk_frozen BK249.out 2) | (go_at_call 74; (with_reducible refine (metrolabref44_size.calls a0_2 false _ A4.out).mono ?_); rintro e w' ⟨rfl, ⟨nd, rfl⟩⟩))
      go_ret
      exact ⟨by first | rfl | (simp [errW_none, errW_some] <;> rfl) | (simp [*, errW_none, errW_some] <;> rfl), by repeat (first | (with_reducible first | exact HB.out | apply below_alloc | apply pw_below_drewN | apply below_drew1 | refine below_set ?_ GE249.out) | exact HB.out)⟩
  · replace c3 := Bool.eq_false_iff.mpr c3
    subst c3
    have H1 : (some 2) = some r := by rw [if_neg (show ¬ (false = true) by decide)] at H; exact H
    clear H
    have H := H1
    clear H1
    obtain rfl := Option.some.inj H
    go_enter Tryd.func42, Tryd.ntmps42
    go_wp2_with (first | ((with_reducible refine gate_dst (N := 1) rfl ?_); refine box_event ?hg (N := 1) ?hd (cs := #[.int .i64 a0_0, .int .i64 a0_1, .int .i64 a0_2]) (t := 68) ?hr ?_; (case hd => rfl); (case hg => rfl); (case hr => first | (go_simp; done) | (go_simp; rfl)); intro gb249 hg w14 hbox hb; have n0_ := Aside0.mk (below_step (by repeat (first | (with_reducible first | exact HB.out | apply below_alloc | apply pw_below_drewN | apply below_drew1) | exact HB.out)) hb); have n1_ := Aside0.mk (hbox); have n2_ := Aside0.mk ((by rw [hg]; exact (below_size (by repeat (first | (with_reducible first | exact HB.out | apply below_alloc | apply pw_below_drewN | apply below_drew1) | exact HB.out))) : w.heap.size ≤ gb249)); have n3_ := Aside0.mk ((by rw [hg]; exact (below_size (by repeat (first | (with_reducible first | exact HB.out | apply below_alloc | apply pw_below_drewN | apply below_drew1) | exact HB.out))) : w.heap.size ≤ gb249)); clear HB; have HB := n0_; have BK249 := n1_; have GW249 := n2_; have GE249 := n3_; clear n0_ n1_ n2_ n3_; clear hb hbox hg; have hcz15_0 : w14.cell? ⟨gb249, 0, none⟩ = some (.int .i64 a0_0) := (blk_cell BK249.out 0).trans rfl; have hcz15_1 : w14.cell? ⟨gb249, 1, none⟩ = some (.int .i64 a0_1) := (blk_cell BK249.out 1).trans rfl; have hcz15_2 : w14.cell? ⟨gb249, 2, none⟩ = some (.int .i64 a0_2) := (blk_cell BK249.out 2).trans rfl; have hfz15_0 := blk_frozen BK249.out 0; have hfz15_1 := blk_frozen BK249.out 1; have hfz15_2 := blk_frozen BK249.out 2) | ((with_reducible refine gate_callee (f := 73) rfl ?_); refine goesL_ (some 5) rfl rfl Tryd.func73 (by kernel_rfl) rfl #[.agg #[.int .i64 a0_0, .int .i64 a0_1]] rfl (by (try simp only [List.map_toArray, List.map_cons, List.map_nil]); first | done | rfl | (simp only [List.length_drop, List.length_take]; rfl)) ?_; (with_reducible refine (metrolabref07_Right.calls a0_0 a0_1 false _ A2.out).mono ?_); rintro e w16 ⟨rfl, hb⟩; refine ⟨_, rfl, ?_⟩; have n0_ := Aside0.mk (blk_below (g := gb249) (o := .cells #[.int .i64 a0_0, .int .i64 a0_1, .int .i64 a0_2] 68 (0, 0)) (by (with_reducible repeat (first | refine blk_drewN ?_ _ | refine blk_drew ?_ | refine blk_alloc ?_ _)); exact BK249.out) hb); have n1_ := Aside0.mk (below_step (by repeat (first | (with_reducible first | exact HB.out | apply below_alloc | apply pw_below_drewN | apply below_drew1 | refine below_set ?_ GE249.out) | exact HB.out)) hb); clear BK249; clear HB; have BK249 := n0_; have HB := n1_; clear n0_ n1_; (try clear hb); (try clear hb2); (try clear hk); (try clear hi)))
    go_ret
    exact ⟨by first | rfl | (simp [errW_none, errW_some] <;> rfl) | (simp [*, errW_none, errW_some] <;> rfl), by repeat (first | (with_reducible first | exact HB.out | apply below_alloc | apply pw_below_drewN | apply below_drew1 | refine below_set ?_ GE249.out) | exact HB.out)⟩
end Go.Proofs.YtjemaonejkepcaaDoor.B
namespace Go.Proofs.YtjemaonejkepcaaDoor.B
open Go.RowKit Go.Proofs.YtjemaonejkepcaaDoorW.PrintWords
theorem sq_le {d B : Int} (h1 : -B ≤ d) (h2 : d ≤ B) : 0 ≤ d * d ∧ d * d ≤ B * B := by
  rcases Int.le_total 0 d with h | h
  · exact ⟨Int.mul_nonneg h h, Int.mul_le_mul h2 h2 h (by omega)⟩
  · have e : d * d = (-d) * (-d) := by rw [Int.neg_mul_neg]
    rw [e]
    exact ⟨Int.mul_nonneg (by omega) (by omega), Int.mul_le_mul (by omega) (by omega) (by omega) (by omega)⟩
/-- The number of a circle's error. -/
def ringc (u v s : Int) : Int := if (-100000 ≤ u ∧ u ≤ 100000) ∧ (-100000 ≤ v ∧ v ≤ 100000) ∧ (1 ≤ s ∧ s ≤ 100000) then 0 else 2
theorem bring (u v s : Int) : bonus_ring.f u v s = some (ringc u v s) := by
  unfold bonus_ring.f ringc
  simp only [bin, bsz, Option.bind_some, decide_eq_true_eq]
  by_cases h1 : -100000 ≤ u ∧ u ≤ 100000
  · by_cases h2 : -100000 ≤ v ∧ v ≤ 100000
    · by_cases h3 : 1 ≤ s ∧ s ≤ 100000
      · rw [if_pos h1, if_pos h2, if_pos h3, if_pos ⟨h1, h2, h3⟩]
      · rw [if_pos h1, if_pos h2, if_neg h3, if_neg (fun h => h3 h.2.2)]
    · rw [if_pos h1, if_neg h2, if_neg (fun h => h2 h.2.1)]
  · rw [if_neg h1, if_neg (fun h => h1 h.1)]
theorem rring (u v s : Int) : metrolabref44_Ring.f u v s = some (ringc u v s) := by
  unfold metrolabref44_Ring.f metrolabref07_Right.f ringc
  simp only [rin, rsz, Option.bind_some]
  by_cases h1 : -100000 ≤ u ∧ u ≤ 100000
  · by_cases h2 : -100000 ≤ v ∧ v ≤ 100000
    · by_cases h3 : 1 ≤ s ∧ s ≤ 100000
      · simp [h1, h2, h3]
      · have h3' : ¬ ((-100000 ≤ u ∧ u ≤ 100000) ∧ (-100000 ≤ v ∧ v ≤ 100000) ∧ (1 ≤ s ∧ s ≤ 100000)) := fun h => h3 h.2.2
        rw [if_neg h3', decide_eq_true h1, decide_eq_true h2, decide_eq_false h3]; rfl
    · have h3' : ¬ ((-100000 ≤ u ∧ u ≤ 100000) ∧ (-100000 ≤ v ∧ v ≤ 100000) ∧ (1 ≤ s ∧ s ≤ 100000)) := fun h => h2 h.2.1
      rw [if_neg h3', decide_eq_true h1, decide_eq_false h2]; rfl
  · have h3' : ¬ ((-100000 ≤ u ∧ u ≤ 100000) ∧ (-100000 ≤ v ∧ v ≤ 100000) ∧ (1 ≤ s ∧ s ≤ 100000)) := fun h => h1 h.1
    rw [if_neg h3', decide_eq_false h1]; rfl
/-- A right circle. -/
def Okc (u v s : Int) : Prop := (-100000 ≤ u ∧ u ≤ 100000) ∧ (-100000 ≤ v ∧ v ≤ 100000) ∧ (1 ≤ s ∧ s ≤ 100000)
theorem ringc_ok {u v s : Int} : ringc u v s = 0 ↔ Okc u v s := by
  unfold ringc Okc; split
  · exact ⟨fun _ => by assumption, fun _ => rfl⟩
  · exact ⟨fun h => by omega, fun h => absurd h (by assumption)⟩
def goodB (x y lo hi tol mat : Int) (pin : Bool) (u v s : Int) : Bool :=
  decide ((lo ≤ s ∧ s ≤ hi) ∧ 4 * ((u - x) * (u - x) + (v - y) * (v - y)) ≤ (tol + ext lo hi mat pin s) * (tol + ext lo hi mat pin s))
theorem ext_wide {x y lo hi tol mat : Int} {pin : Bool} {s : Int} (h : Okt x y lo hi tol mat pin) (hs : 1 ≤ s ∧ s ≤ 100000) : -100000 ≤ ext lo hi mat pin s ∧ ext lo hi mat pin s ≤ 100000 := by
  obtain ⟨_, _, h1, h2, h3, _⟩ := h
  unfold ext; split
  · omega
  · split <;> omega
theorem good_ok {x y lo hi tol mat : Int} {pin : Bool} {u v s : Int} (h : Okt x y lo hi tol mat pin) (hc : Okc u v s) : bonus_good.f x y lo hi tol mat pin u v s = some (goodB x y lo hi tol mat pin u v s) := by
  have he := ext_wide h hc.2.2
  obtain ⟨hx, hy, h1, h2, h3, h4, h5, hp, h6, h7⟩ := id h
  obtain ⟨hu, hv, hs⟩ := hc
  unfold bonus_good.f bonus_gap.f
  rw [bof h6 h7]
  simp only [Option.bind_some, bwithin]
  rw [bextra h (by omega)]
  simp only [Option.bind_some, decide_eq_true_eq]
  have q1 := sq_le (d := u - x) (B := 200000) (by omega) (by omega)
  have q2 := sq_le (d := v - y) (B := 200000) (by omega) (by omega)
  have q3 := sq_le (d := tol + ext lo hi mat pin s) (B := 200000) (by omega) (by omega)
  rw [w64 (n := u - x) (by omega), w64 (n := v - y) (by omega), w64 (n := tol + ext lo hi mat pin s) (by omega)]
  unfold goodB
  generalize (u - x) * (u - x) = a at *
  generalize (v - y) * (v - y) = b at *
  generalize (tol + ext lo hi mat pin s) * (tol + ext lo hi mat pin s) = c at *
  rw [w64 (n := a) (by omega), w64 (n := b) (by omega), w64 (n := c) (by omega), w64 (n := a + b) (by omega), w64 (n := 4 * (a + b)) (by omega)]
  by_cases hi' : lo ≤ s ∧ s ≤ hi
  · rw [if_pos hi']; simp [hi']
  · rw [if_neg hi']; congr 1; exact (decide_eq_false (fun h => hi' h.1)).symm
theorem both_ok (k : Nat) (hk : 3 ≤ k) {x y lo hi tol mat : Int} {pin : Bool} {u v s : Int} (h : Okt x y lo hi tol mat pin) : bonus_both.f k x y lo hi tol mat pin u v s = some (ringc u v s) := by
  unfold bonus_both.f; rw [bcheck k hk, bring]; simp only [Option.bind_some]; rw [if_pos (chk_ok.2 h)]
theorem keeps_ok (k : Nat) (hk : 3 ≤ k) {x y lo hi tol mat : Int} {pin : Bool} {u v s : Int} (h : Okt x y lo hi tol mat pin) (hc : Okc u v s) : bonus_Keeps.f k x y lo hi tol mat pin u v s = some (goodB x y lo hi tol mat pin u v s, 0) := by
  unfold bonus_Keeps.f; rw [both_ok k hk h, good_ok h hc]; simp only [Option.bind_some]; rw [if_pos (ringc_ok.2 hc)]
end Go.Proofs.YtjemaonejkepcaaDoor.B
namespace Go.Proofs.YtjemaonejkepcaaDoor.B
open Go.RowKit Go.Proofs.YtjemaonejkepcaaDoorW.PrintWords Go.Proofs.YtjemaonejkepcaaDoorW.PrintLast Go.Proofs.YtjemaonejkepcaaDoorW.PrintMore
attribute [local go_sem] max2_int min2_int max_two min_two max_three min_three max_four min_four   -- for this text's walks alone
set_option linter.unusedVariables false
set_option linter.unusedSimpArgs false
def bonus_Distance.f (k : Nat) (a0_0 : Int) (a0_1 : Int) (a0_2 : Int) (a0_3 : Int) (a0_4 : Int) (a0_5 : Int) (a0_6 : Bool) (a1_0 : Int) (a1_1 : Int) (a1_2 : Int) : Option (Int × Int) := (bonus_both.f k a0_0 a0_1 a0_2 a0_3 a0_4 a0_5 a0_6 a1_0 a1_1 a1_2).bind fun t304 => (if t304 = 0 then ((bonus_gap.f a0_0 a0_1 a0_2 a0_3 a0_4 a0_5 a0_6 a1_0 a1_1 a1_2).bind fun bt305 => (some (wrap64 ((wrap64 (bt305.1 * bt305.1)) + (wrap64 (bt305.2 * bt305.2))), 0))) else (some (0, t304)))
theorem bonus_Distance.mono : ∀ a0 a1 a2 a3 a4 a5 a6 a7 a8 a9 k, LeO (bonus_Distance.f k a0 a1 a2 a3 a4 a5 a6 a7 a8 a9) (bonus_Distance.f (k + 1) a0 a1 a2 a3 a4 a5 a6 a7 a8 a9) := by
  intro a0 a1 a2 a3 a4 a5 a6 a7 a8 a9 k
  unfold bonus_Distance.f
  repeat' first
      | (with_reducible exact bonus_both.mono _ _ _ _ _ _ _ _ _ _ _)
      | (with_reducible exact LeO.refl _)
      | (with_reducible exact LeO.none _)
      | (with_reducible refine LeO.ite ?_ ?_)
      | (with_reducible refine LeO.bind ?_ (fun _ => ?_))
      | exact bonus_both.mono _ _ _ _ _ _ _ _ _ _ _
      | exact LeO.none _
      | refine LeO.ite ?_ ?_
      | refine LeO.bind ?_ (fun _ => ?_)
set_option maxHeartbeats 8000000 in
set_option maxRecDepth 100000 in
theorem bonus_Distance.calls (k : Nat) (a0_0 : Int) (a0_1 : Int) (a0_2 : Int) (a0_3 : Int) (a0_4 : Int) (a0_5 : Int) (a0_6 : Bool) (a1_0 : Int) (a1_1 : Int) (a1_2 : Int) (r1 : Int) (r2 : Int) (w : World) (h : bonus_Distance.f k a0_0 a0_1 a0_2 a0_3 a0_4 a0_5 a0_6 a1_0 a1_1 a1_2 = some (r1, r2)) :
    Calls Tryd.prog 43 #[.agg #[.int .i64 a0_0, .int .i64 a0_1, .int .i64 a0_2, .int .i64 a0_3, .int .i64 a0_4, .int .i64 a0_5, .bool a0_6], .agg #[.int .i64 a1_0, .int .i64 a1_1, .int .i64 a1_2]] w fun e w' => e = .returned (.tuple #[.int .i64 r1, .int .i64 r2]) ∧ Below w.heap.size w w' := by
  have hu27 := Tryd.underlying27
  have hu68 := Tryd.underlying68
  have HB := Aside0.mk (Below.refl w.heap.size w)
  have H : ((bonus_both.f k a0_0 a0_1 a0_2 a0_3 a0_4 a0_5 a0_6 a1_0 a1_1 a1_2).bind fun t304 => (if t304 = 0 then ((bonus_gap.f a0_0 a0_1 a0_2 a0_3 a0_4 a0_5 a0_6 a1_0 a1_1 a1_2).bind fun bt305 => (some (wrap64 ((wrap64 (bt305.1 * bt305.1)) + (wrap64 (bt305.2 * bt305.2))), 0))) else (some (0, t304)))) = some (r1, r2) := h
  clear h
  replace H := Option.bind_eq_some_iff.mp H
  obtain ⟨t304, A30, H⟩ := H
  replace H : (if t304 = 0 then ((bonus_gap.f a0_0 a0_1 a0_2 a0_3 a0_4 a0_5 a0_6 a1_0 a1_1 a1_2).bind fun bt305 => (some (wrap64 ((wrap64 (bt305.1 * bt305.1)) + (wrap64 (bt305.2 * bt305.2))), 0))) else (some (0, t304))) = some (r1, r2) := H
  have A3 := Aside0.mk A30
  clear A30
  by_cases c4 : t304 = 0
  · rw [if_pos c4] at H
    have c4b0 : (t304 == 0) = true := beq_iff_eq.mpr c4
    have c4b1 : (t304 != 0) = false := bne_eq_false_iff_eq.mpr c4
    clear c4
    replace H := Option.bind_eq_some_iff.mp H
    obtain ⟨⟨t305, t306⟩, A50, H⟩ := H
    replace H : (some (wrap64 ((wrap64 (t305 * t305)) + (wrap64 (t306 * t306))), 0)) = some (r1, r2) := H
    have A5 := Aside0.mk A50
    clear A50
    simp only [Option.some.injEq, Prod.mk.injEq] at H
    obtain ⟨rfl, rfl⟩ := H
    go_enter Tryd.func43, Tryd.ntmps43
    go_wp2_with (first | ((with_reducible refine gate_dst (N := 2) rfl ?_); refine box_event ?hg (N := 2) ?hd (cs := #[.int .i64 a0_0, .int .i64 a0_1, .int .i64 a0_2, .int .i64 a0_3, .int .i64 a0_4, .int .i64 a0_5, .bool a0_6]) (t := 27) ?hr ?_; (case hd => rfl); (case hg => rfl); (case hr => first | (go_simp; done) | (go_simp; rfl)); intro gb302 hg w6 hbox hb; have n0_ := Aside0.mk (below_step (by repeat (first | (with_reducible first | exact HB.out | apply below_alloc | apply pw_below_drewN | apply below_drew1) | exact HB.out)) hb); have n1_ := Aside0.mk (hbox); have n2_ := Aside0.mk ((by rw [hg]; exact (below_size (by repeat (first | (with_reducible first | exact HB.out | apply below_alloc | apply pw_below_drewN | apply below_drew1) | exact HB.out))) : w.heap.size ≤ gb302)); have n3_ := Aside0.mk ((by rw [hg]; exact (below_size (by repeat (first | (with_reducible first | exact HB.out | apply below_alloc | apply pw_below_drewN | apply below_drew1) | exact HB.out))) : w.heap.size ≤ gb302)); clear HB; have HB := n0_; have BK302 := n1_; have GW302 := n2_; have GE302 := n3_; clear n0_ n1_ n2_ n3_; clear hb hbox hg) | ((with_reducible refine gate_dst (N := 3) rfl ?_); refine box_event ?hg (N := 3) ?hd (cs := #[.int .i64 a1_0, .int .i64 a1_1, .int .i64 a1_2]) (t := 68) ?hr ?_; (case hd => rfl); (case hg => rfl); (case hr => first | (go_simp; done) | (go_simp; rfl)); intro gb303 hg w7 hbox hb; have n0_ := Aside0.mk (blk_below (g := gb302) (o := .cells #[.int .i64 a0_0, .int .i64 a0_1, .int .i64 a0_2, .int .i64 a0_3, .int .i64 a0_4, .int .i64 a0_5, .bool a0_6] 27 (0, 0)) (by (with_reducible repeat (first | refine blk_drewN ?_ _ | refine blk_drew ?_ | refine blk_alloc ?_ _)); exact BK302.out) hb); have n1_ := Aside0.mk (below_step (by repeat (first | (with_reducible first | exact HB.out | apply below_alloc | apply pw_below_drewN | apply below_drew1 | refine below_set ?_ GE302.out) | exact HB.out)) hb); have n2_ := Aside0.mk (hbox); have n3_ := Aside0.mk ((by rw [hg]; exact (below_size (by repeat (first | (with_reducible first | exact HB.out | apply below_alloc | apply pw_below_drewN | apply below_drew1 | refine below_set ?_ GE302.out) | exact HB.out))) : w.heap.size ≤ gb303)); have n4_ := Aside0.mk ((by rw [hg]; exact (below_size (by repeat (first | (with_reducible first | exact HB.out | apply below_alloc | apply pw_below_drewN | apply below_drew1 | refine below_set ?_ GE302.out) | exact HB.out))) : w.heap.size ≤ gb303)); have n5_ := Aside0.mk ((by rw [hg]; exact Nat.ne_of_lt (blk_lt (g := gb302) (o := .cells #[.int .i64 a0_0, .int .i64 a0_1, .int .i64 a0_2, .int .i64 a0_3, .int .i64 a0_4, .int .i64 a0_5, .bool a0_6] 27 (0, 0)) (by (with_reducible repeat (first | refine blk_drewN ?_ _ | refine blk_drew ?_ | refine blk_alloc ?_ _)); exact BK302.out)) : gb302 ≠ gb303)); have n6_ := Aside0.mk ((by rw [hg]; exact Nat.ne_of_gt (blk_lt (g := gb302) (o := .cells #[.int .i64 a0_0, .int .i64 a0_1, .int .i64 a0_2, .int .i64 a0_3, .int .i64 a0_4, .int .i64 a0_5, .bool a0_6] 27 (0, 0)) (by (with_reducible repeat (first | refine blk_drewN ?_ _ | refine blk_drew ?_ | refine blk_alloc ?_ _)); exact BK302.out)) : gb303 ≠ gb302)); clear BK302; clear HB; have BK302 := n0_; have HB := n1_; have BK303 := n2_; have GW303 := n3_; have GE303 := n4_; have NB302_303 := n5_; have NB303_302 := n6_; clear n0_ n1_ n2_ n3_ n4_ n5_ n6_; clear hb hbox hg; have hnb8 := NB302_303.out; have hnc8 := NB303_302.out; have hcz9_0 : w7.cell? ⟨gb302, 0, none⟩ = some (.int .i64 a0_0) := (blk_cell BK302.out 0).trans rfl; have hcz9_1 : w7.cell? ⟨gb302, 1, none⟩ = some (.int .i64 a0_1) := (blk_cell BK302.out 1).trans rfl; have hcz9_2 : w7.cell? ⟨gb302, 2, none⟩ = some (.int .i64 a0_2) := (blk_cell BK302.out 2).trans rfl; have hcz9_3 : w7.cell? ⟨gb302, 3, none⟩ = some (.int .i64 a0_3) := (blk_cell BK302.out 3).trans rfl; have hcz9_4 : w7.cell? ⟨gb302, 4, none⟩ = some (.int .i64 a0_4) := (blk_cell BK302.out 4).trans rfl; have hcz9_5 : w7.cell? ⟨gb302, 5, none⟩ = some (.int .i64 a0_5) := (blk_cell BK302.out 5).trans rfl; have hcz9_6 : w7.cell? ⟨gb302, 6, none⟩ = some (.bool a0_6) := (blk_cell BK302.out 6).trans rfl; have hfz9_0 := blk_frozen BK302.out 0; have hfz9_1 := blk_frozen BK302.out 1; have hfz9_2 := blk_frozen BK302.out 2; have hfz9_3 := blk_frozen BK302.out 3; have hfz9_4 := blk_frozen BK302.out 4; have hfz9_5 := blk_frozen BK302.out 5; have hfz9_6 := blk_frozen BK302.out 6; have hcz10_0 : w7.cell? ⟨gb303, 0, none⟩ = some (.int .i64 a1_0) := (blk_cell BK303.out 0).trans rfl; have hcz10_1 : w7.cell? ⟨gb303, 1, none⟩ = some (.int .i64 a1_1) := (blk_cell BK303.out 1).trans rfl; have hcz10_2 : w7.cell? ⟨gb303, 2, none⟩ = some (.int .i64 a1_2) := (blk_cell BK303.out 2).trans rfl; have hfz10_0 := blk_frozen BK303.out 0; have hfz10_1 := blk_frozen BK303.out 1; have hfz10_2 := blk_frozen BK303.out 2) | ((with_reducible refine gate_callee (f := 93) rfl ?_); refine goesL_ (some 11) rfl rfl Tryd.func93 (by kernel_rfl) rfl #[.agg #[.int .i64 a0_0, .int .i64 a0_1, .int .i64 a0_2, .int .i64 a0_3, .int .i64 a0_4, .int .i64 a0_5, .bool a0_6], .agg #[.int .i64 a1_0, .int .i64 a1_1, .int .i64 a1_2]] rfl (by (try simp only [List.map_toArray, List.map_cons, List.map_nil]); first | done | rfl | (simp only [List.length_drop, List.length_take]; rfl)) ?_; (with_reducible refine (bonus_both.calls k a0_0 a0_1 a0_2 a0_3 a0_4 a0_5 a0_6 a1_0 a1_1 a1_2 t304 _ A3.out).mono ?_); rintro e w11 ⟨rfl, hb⟩; refine ⟨_, rfl, ?_⟩; have n0_ := Aside0.mk (blk_below (g := gb302) (o := .cells #[.int .i64 a0_0, .int .i64 a0_1, .int .i64 a0_2, .int .i64 a0_3, .int .i64 a0_4, .int .i64 a0_5, .bool a0_6] 27 (0, 0)) (by (with_reducible repeat (first | refine blk_drewN ?_ _ | refine blk_drew ?_ | refine blk_alloc ?_ _)); exact BK302.out) hb); have n1_ := Aside0.mk (blk_below (g := gb303) (o := .cells #[.int .i64 a1_0, .int .i64 a1_1, .int .i64 a1_2] 68 (0, 0)) (by (with_reducible repeat (first | refine blk_drewN ?_ _ | refine blk_drew ?_ | refine blk_alloc ?_ _)); exact BK303.out) hb); have n2_ := Aside0.mk (below_step (by repeat (first | (with_reducible first | exact HB.out | apply below_alloc | apply pw_below_drewN | apply below_drew1 | refine below_set ?_ GE302.out | refine below_set ?_ GE303.out) | exact HB.out)) hb); clear BK302; clear BK303; clear HB; have BK302 := n0_; have BK303 := n1_; have HB := n2_; clear n0_ n1_ n2_; (try clear hb); (try clear hb2); (try clear hk); (try clear hi); have hcz12_0 : w11.cell? ⟨gb302, 0, none⟩ = some (.int .i64 a0_0) := (blk_cell BK302.out 0).trans rfl; have hcz12_1 : w11.cell? ⟨gb302, 1, none⟩ = some (.int .i64 a0_1) := (blk_cell BK302.out 1).trans rfl; have hcz12_2 : w11.cell? ⟨gb302, 2, none⟩ = some (.int .i64 a0_2) := (blk_cell BK302.out 2).trans rfl; have hcz12_3 : w11.cell? ⟨gb302, 3, none⟩ = some (.int .i64 a0_3) := (blk_cell BK302.out 3).trans rfl; have hcz12_4 : w11.cell? ⟨gb302, 4, none⟩ = some (.int .i64 a0_4) := (blk_cell BK302.out 4).trans rfl; have hcz12_5 : w11.cell? ⟨gb302, 5, none⟩ = some (.int .i64 a0_5) := (blk_cell BK302.out 5).trans rfl; have hcz12_6 : w11.cell? ⟨gb302, 6, none⟩ = some (.bool a0_6) := (blk_cell BK302.out 6).trans rfl; have hfz12_0 := blk_frozen BK302.out 0; have hfz12_1 := blk_frozen BK302.out 1; have hfz12_2 := blk_frozen BK302.out 2; have hfz12_3 := blk_frozen BK302.out 3; have hfz12_4 := blk_frozen BK302.out 4; have hfz12_5 := blk_frozen BK302.out 5; have hfz12_6 := blk_frozen BK302.out 6; have hcz13_0 : w11.cell? ⟨gb303, 0, none⟩ = some (.int .i64 a1_0) := (blk_cell BK303.out 0).trans rfl; have hcz13_1 : w11.cell? ⟨gb303, 1, none⟩ = some (.int .i64 a1_1) := (blk_cell BK303.out 1).trans rfl; have hcz13_2 : w11.cell? ⟨gb303, 2, none⟩ = some (.int .i64 a1_2) := (blk_cell BK303.out 2).trans rfl; have hfz13_0 := blk_frozen BK303.out 0; have hfz13_1 := blk_frozen BK303.out 1; have hfz13_2 := blk_frozen BK303.out 2) | ((with_reducible refine gate_callee (f := 94) rfl ?_); refine goesL_ (some 18) rfl rfl Tryd.func94 (by kernel_rfl) rfl #[.agg #[.int .i64 a0_0, .int .i64 a0_1, .int .i64 a0_2, .int .i64 a0_3, .int .i64 a0_4, .int .i64 a0_5, .bool a0_6], .agg #[.int .i64 a1_0, .int .i64 a1_1, .int .i64 a1_2]] rfl (by (try simp only [List.map_toArray, List.map_cons, List.map_nil]); first | done | rfl | (simp only [List.length_drop, List.length_take]; rfl)) ?_; (with_reducible refine (bonus_gap.calls a0_0 a0_1 a0_2 a0_3 a0_4 a0_5 a0_6 a1_0 a1_1 a1_2 t305 t306 _ A5.out).mono ?_); rintro e w14 ⟨rfl, hb⟩; refine ⟨_, rfl, ?_⟩; have n0_ := Aside0.mk (blk_below (g := gb302) (o := .cells #[.int .i64 a0_0, .int .i64 a0_1, .int .i64 a0_2, .int .i64 a0_3, .int .i64 a0_4, .int .i64 a0_5, .bool a0_6] 27 (0, 0)) (by (with_reducible repeat (first | refine blk_drewN ?_ _ | refine blk_drew ?_ | refine blk_alloc ?_ _)); exact BK302.out) hb); have n1_ := Aside0.mk (blk_below (g := gb303) (o := .cells #[.int .i64 a1_0, .int .i64 a1_1, .int .i64 a1_2] 68 (0, 0)) (by (with_reducible repeat (first | refine blk_drewN ?_ _ | refine blk_drew ?_ | refine blk_alloc ?_ _)); exact BK303.out) hb); have n2_ := Aside0.mk (below_step (by repeat (first | (with_reducible first | exact HB.out | apply below_alloc | apply pw_below_drewN | apply below_drew1 | refine below_set ?_ GE302.out | refine below_set ?_ GE303.out) | exact HB.out)) hb); clear BK302; clear BK303; clear HB; have BK302 := n0_; have BK303 := n1_; have HB := n2_; clear n0_ n1_ n2_; (try clear hb); (try clear hb2); (try clear hk); (try clear hi)))
    go_ret2
    exact ⟨by first | rfl | (simp [errW_none, errW_some] <;> rfl) | (simp [*, errW_none, errW_some] <;> rfl), by repeat (first | (with_reducible first | exact HB.out | apply below_alloc | apply pw_below_drewN | apply below_drew1 | refine below_set ?_ GE302.out | refine below_set ?_ GE303.out) | exact HB.out)⟩
  · rw [if_neg c4] at H
    have c4b0 : (t304 == 0) = false := beq_eq_false_iff_ne.mpr c4
    have c4b1 : (t304 != 0) = true := bne_iff_ne.mpr c4
    simp only [Option.some.injEq, Prod.mk.injEq] at H
    obtain ⟨rfl, rfl⟩ := H
    go_enter Tryd.func43, Tryd.ntmps43
    go_wp2_with (first | ((with_reducible refine gate_dst (N := 2) rfl ?_); refine box_event ?hg (N := 2) ?hd (cs := #[.int .i64 a0_0, .int .i64 a0_1, .int .i64 a0_2, .int .i64 a0_3, .int .i64 a0_4, .int .i64 a0_5, .bool a0_6]) (t := 27) ?hr ?_; (case hd => rfl); (case hg => rfl); (case hr => first | (go_simp; done) | (go_simp; rfl)); intro gb302 hg w15 hbox hb; have n0_ := Aside0.mk (below_step (by repeat (first | (with_reducible first | exact HB.out | apply below_alloc | apply pw_below_drewN | apply below_drew1) | exact HB.out)) hb); have n1_ := Aside0.mk (hbox); have n2_ := Aside0.mk ((by rw [hg]; exact (below_size (by repeat (first | (with_reducible first | exact HB.out | apply below_alloc | apply pw_below_drewN | apply below_drew1) | exact HB.out))) : w.heap.size ≤ gb302)); have n3_ := Aside0.mk ((by rw [hg]; exact (below_size (by repeat (first | (with_reducible first | exact HB.out | apply below_alloc | apply pw_below_drewN | apply below_drew1) | exact HB.out))) : w.heap.size ≤ gb302)); clear HB; have HB := n0_; have BK302 := n1_; have GW302 := n2_; have GE302 := n3_; clear n0_ n1_ n2_ n3_; clear hb hbox hg) | ((with_reducible refine gate_dst (N := 3) rfl ?_); refine box_event ?hg (N := 3) ?hd (cs := #[.int .i64 a1_0, .int .i64 a1_1, .int .i64 a1_2]) (t := 68) ?hr ?_; (case hd => rfl); (case hg => rfl); (case hr => first | (go_simp; done) | (go_simp; rfl)); intro gb303 hg w16 hbox hb; have n0_ := Aside0.mk (blk_below (g := gb302) (o := .cells #[.int .i64 a0_0, .int .i64 a0_1, .int .i64 a0_2, .int .i64 a0_3, .int .i64 a0_4, .int .i64 a0_5, .bool a0_6] 27 (0, 0)) (by (with_reducible repeat (first | refine blk_drewN ?_ _ | refine blk_drew ?_ | refine blk_alloc ?_ _)); exact BK302.out) hb); have n1_ := Aside0.mk (below_step (by repeat (first | (with_reducible first | exact HB.out | apply below_alloc | apply pw_below_drewN | apply below_drew1 | refine below_set ?_ GE302.out) | exact HB.out)) hb); have n2_ := Aside0.mk (hbox); have n3_ := Aside0.mk ((by rw [hg]; exact (below_size (by repeat (first | (with_reducible first | exact HB.out | apply below_alloc | apply pw_below_drewN | apply below_drew1 | refine below_set ?_ GE302.out) | exact HB.out))) : w.heap.size ≤ gb303)); have n4_ := Aside0.mk ((by rw [hg]; exact (below_size (by repeat (first | (with_reducible first | exact HB.out | apply below_alloc | apply pw_below_drewN | apply below_drew1 | refine below_set ?_ GE302.out) | exact HB.out))) : w.heap.size ≤ gb303)); have n5_ := Aside0.mk ((by rw [hg]; exact Nat.ne_of_lt (blk_lt (g := gb302) (o := .cells #[.int .i64 a0_0, .int .i64 a0_1, .int .i64 a0_2, .int .i64 a0_3, .int .i64 a0_4, .int .i64 a0_5, .bool a0_6] 27 (0, 0)) (by (with_reducible repeat (first | refine blk_drewN ?_ _ | refine blk_drew ?_ | refine blk_alloc ?_ _)); exact BK302.out)) : gb302 ≠ gb303)); have n6_ := Aside0.mk ((by rw [hg]; exact Nat.ne_of_gt (blk_lt (g := gb302) (o := .cells #[.int .i64 a0_0, .int .i64 a0_1, .int .i64 a0_2, .int .i64 a0_3, .int .i64 a0_4, .int .i64 a0_5, .bool a0_6] 27 (0, 0)) (by (with_reducible repeat (first | refine blk_drewN ?_ _ | refine blk_drew ?_ | refine blk_alloc ?_ _)); exact BK302.out)) : gb303 ≠ gb302)); clear BK302; clear HB; have BK302 := n0_; have HB := n1_; have BK303 := n2_; have GW303 := n3_; have GE303 := n4_; have NB302_303 := n5_; have NB303_302 := n6_; clear n0_ n1_ n2_ n3_ n4_ n5_ n6_; clear hb hbox hg; have hnb17 := NB302_303.out; have hnc17 := NB303_302.out; have hcz18_0 : w16.cell? ⟨gb302, 0, none⟩ = some (.int .i64 a0_0) := (blk_cell BK302.out 0).trans rfl; have hcz18_1 : w16.cell? ⟨gb302, 1, none⟩ = some (.int .i64 a0_1) := (blk_cell BK302.out 1).trans rfl; have hcz18_2 : w16.cell? ⟨gb302, 2, none⟩ = some (.int .i64 a0_2) := (blk_cell BK302.out 2).trans rfl; have hcz18_3 : w16.cell? ⟨gb302, 3, none⟩ = some (.int .i64 a0_3) := (blk_cell BK302.out 3).trans rfl; have hcz18_4 : w16.cell? ⟨gb302, 4, none⟩ = some (.int .i64 a0_4) := (blk_cell BK302.out 4).trans rfl; have hcz18_5 : w16.cell? ⟨gb302, 5, none⟩ = some (.int .i64 a0_5) := (blk_cell BK302.out 5).trans rfl; have hcz18_6 : w16.cell? ⟨gb302, 6, none⟩ = some (.bool a0_6) := (blk_cell BK302.out 6).trans rfl; have hfz18_0 := blk_frozen BK302.out 0; have hfz18_1 := blk_frozen BK302.out 1; have hfz18_2 := blk_frozen BK302.out 2; have hfz18_3 := blk_frozen BK302.out 3; have hfz18_4 := blk_frozen BK302.out 4; have hfz18_5 := blk_frozen BK302.out 5; have hfz18_6 := blk_frozen BK302.out 6; have hcz19_0 : w16.cell? ⟨gb303, 0, none⟩ = some (.int .i64 a1_0) := (blk_cell BK303.out 0).trans rfl; have hcz19_1 : w16.cell? ⟨gb303, 1, none⟩ = some (.int .i64 a1_1) := (blk_cell BK303.out 1).trans rfl; have hcz19_2 : w16.cell? ⟨gb303, 2, none⟩ = some (.int .i64 a1_2) := (blk_cell BK303.out 2).trans rfl; have hfz19_0 := blk_frozen BK303.out 0; have hfz19_1 := blk_frozen BK303.out 1; have hfz19_2 := blk_frozen BK303.out 2) | ((with_reducible refine gate_callee (f := 93) rfl ?_); refine goesL_ (some 11) rfl rfl Tryd.func93 (by kernel_rfl) rfl #[.agg #[.int .i64 a0_0, .int .i64 a0_1, .int .i64 a0_2, .int .i64 a0_3, .int .i64 a0_4, .int .i64 a0_5, .bool a0_6], .agg #[.int .i64 a1_0, .int .i64 a1_1, .int .i64 a1_2]] rfl (by (try simp only [List.map_toArray, List.map_cons, List.map_nil]); first | done | rfl | (simp only [List.length_drop, List.length_take]; rfl)) ?_; (with_reducible refine (bonus_both.calls k a0_0 a0_1 a0_2 a0_3 a0_4 a0_5 a0_6 a1_0 a1_1 a1_2 t304 _ A3.out).mono ?_); rintro e w20 ⟨rfl, hb⟩; refine ⟨_, rfl, ?_⟩; have n0_ := Aside0.mk (blk_below (g := gb302) (o := .cells #[.int .i64 a0_0, .int .i64 a0_1, .int .i64 a0_2, .int .i64 a0_3, .int .i64 a0_4, .int .i64 a0_5, .bool a0_6] 27 (0, 0)) (by (with_reducible repeat (first | refine blk_drewN ?_ _ | refine blk_drew ?_ | refine blk_alloc ?_ _)); exact BK302.out) hb); have n1_ := Aside0.mk (blk_below (g := gb303) (o := .cells #[.int .i64 a1_0, .int .i64 a1_1, .int .i64 a1_2] 68 (0, 0)) (by (with_reducible repeat (first | refine blk_drewN ?_ _ | refine blk_drew ?_ | refine blk_alloc ?_ _)); exact BK303.out) hb); have n2_ := Aside0.mk (below_step (by repeat (first | (with_reducible first | exact HB.out | apply below_alloc | apply pw_below_drewN | apply below_drew1 | refine below_set ?_ GE302.out | refine below_set ?_ GE303.out) | exact HB.out)) hb); clear BK302; clear BK303; clear HB; have BK302 := n0_; have BK303 := n1_; have HB := n2_; clear n0_ n1_ n2_; (try clear hb); (try clear hb2); (try clear hk); (try clear hi)))
    go_ret2
    exact ⟨by first | rfl | (simp [errW_none, errW_some] <;> rfl) | (simp [*, errW_none, errW_some] <;> rfl), by repeat (first | (with_reducible first | exact HB.out | apply below_alloc | apply pw_below_drewN | apply below_drew1 | refine below_set ?_ GE302.out | refine below_set ?_ GE303.out) | exact HB.out)⟩
end Go.Proofs.YtjemaonejkepcaaDoor.B
namespace Go.Proofs.YtjemaonejkepcaaDoor.B
open Go.RowKit
theorem dist47_ok (k : Nat) (hk : 3 ≤ k) {x y lo hi tol mat : Int} {pin : Bool} {u v s : Int} (h : Okt x y lo hi tol mat pin) (hc : Okc u v s) : bonus_Distance.f k x y lo hi tol mat pin u v s = some ((u - x) * (u - x) + (v - y) * (v - y), 0) := by
  unfold bonus_Distance.f bonus_gap.f; rw [both_ok k hk h]; simp only [Option.bind_some]; rw [if_pos (ringc_ok.2 hc)]
  obtain ⟨hu, hv, _⟩ := hc
  obtain ⟨hx, hy, _⟩ := h
  have q1 := sq_le (d := u - x) (B := 200000) (by omega) (by omega)
  have q2 := sq_le (d := v - y) (B := 200000) (by omega) (by omega)
  rw [w64 (n := u - x) (by omega), w64 (n := v - y) (by omega), w64 (n := (u - x) * (u - x)) (by omega), w64 (n := (v - y) * (v - y)) (by omega), w64 (by omega)]
end Go.Proofs.YtjemaonejkepcaaDoor.B
namespace Go.Proofs.YtjemaonejkepcaaDoor.G
open Go.Proofs.YtjemaonejkepcaaDoor.B
open Go.RowKit Go.Proofs.YtjemaonejkepcaaDoorW.PrintWords Go.Proofs.YtjemaonejkepcaaDoorW.PrintLast Go.Proofs.YtjemaonejkepcaaDoorW.PrintMore
attribute [local go_sem] max2_int min2_int max_two min_two max_three min_three max_four min_four   -- for this text's walks alone
set_option linter.unusedVariables false
set_option linter.unusedSimpArgs false
mutual
def metrolablaw47_GaugeKeeps.j0 : Nat → List (S27) → Bool → Int → Int → Int → Int → Int → Option (Bool)
  | 0, _, _, _, _, _, _, _ => none
  | k + 1, x0, x27, x245000, x245001, x246000, x246001, x246002 => if x27 = true then ((metrolablaw47_awake.f k).bind fun t248 => (some t248)) else ((gauge_Design.f k x0 x245000 x245001).bind fun bt249 => (if bt249.2 = 0 then ((some (([false, true] : List Bool) : List Bool)).bind fun y254 => (metrolablaw47_GaugeKeeps.l0 k x0 bt249.1 y254 (y254.length : Int) 0 x246000 x246001 x246002)) else ((metrolablaw47_awake.f k).bind fun t253 => (some t253))))
def metrolablaw47_GaugeKeeps.l0 : Nat → List (S27) → List (S104) → List Bool → Int → Int → Int → Int → Int → Option (Bool)
  | 0, _, _, _, _, _, _, _, _ => none
  | k + 1, x0, x7, x38, x39, x40, x246000, x246001, x246002 => if x40 < x39 then (if 0 ≤ x40 then (if x40 < (x38.length : Int) then ((gauge_Made.f k x7 (rdOf false x38 x40)).bind fun bt259 => (if bt259.2 = 0 then (metrolablaw47_GaugeKeeps.j2 k x0 x7 bt259.1 x38 x39 x40 ((bt259.1.length : Int) != (x0.length : Int)) x246000 x246001 x246002) else (metrolablaw47_GaugeKeeps.j2 k x0 x7 bt259.1 x38 x39 x40 true x246000 x246001 x246002))) else (none)) else (none)) else ((metrolablaw47_awake.f k).bind fun t257 => (some t257))
def metrolablaw47_GaugeKeeps.j2 : Nat → List (S27) → List (S104) → List (S56) → List Bool → Int → Int → Bool → Int → Int → Int → Option (Bool)
  | 0, _, _, _, _, _, _, _, _, _, _ => none
  | k + 1, x0, x7, x11, x38, x39, x40, x58, x246000, x246001, x246002 => if x58 = true then (some false) else (metrolablaw47_GaugeKeeps.l1 k x0 x7 x38 x39 x40 x11 (x11.length : Int) 0 x246000 x246001 x246002)
def metrolablaw47_GaugeKeeps.l1 : Nat → List (S27) → List (S104) → List Bool → Int → Int → List (S56) → Int → Int → Int → Int → Int → Option (Bool)
  | 0, _, _, _, _, _, _, _, _, _, _, _ => none
  | k + 1, x0, x7, x38, x39, x40, x59, x60, x61, x246000, x246001, x246002 => if x61 < x60 then (if 0 ≤ x61 then (if x61 < (x59.length : Int) then (if (rd_T56 x59 x61).f1 = true then (metrolablaw47_GaugeKeeps.j4 k x0 x7 x61 (wrap64 (((rd_T56 x59 x61).f2) - x246002)) x38 x39 x40 x59 x60 x61 x246000 x246001 x246002) else (metrolablaw47_GaugeKeeps.j4 k x0 x7 x61 (wrap64 (x246002 - ((rd_T56 x59 x61).f2))) x38 x39 x40 x59 x60 x61 x246000 x246001 x246002)) else (none)) else (none)) else (metrolablaw47_GaugeKeeps.l0 k x0 x7 x38 x39 (wrap64 (x40 + 1)) x246000 x246001 x246002)
def metrolablaw47_GaugeKeeps.j4 : Nat → List (S27) → List (S104) → Int → Int → List Bool → Int → Int → List (S56) → Int → Int → Int → Int → Int → Option (Bool)
  | 0, _, _, _, _, _, _, _, _, _, _, _, _, _ => none
  | k + 1, x0, x7, x13, x15, x38, x39, x40, x59, x60, x61, x246000, x246001, x246002 => if 0 ≤ x13 then (if x13 < (x0.length : Int) then ((bonus_Distance.f k ((rd_T27 x0 x13).f0.f0) ((rd_T27 x0 x13).f0.f1) ((rd_T27 x0 x13).f1.f0) ((rd_T27 x0 x13).f1.f1) ((rd_T27 x0 x13).f2) ((rd_T27 x0 x13).f3) ((rd_T27 x0 x13).f4) x246000 x246001 x246002).bind fun bt266 => (if bt266.2 = 0 then ((metrolabref44_Inside.f ((rd_T27 x0 x13).f0.f0) ((rd_T27 x0 x13).f0.f1) ((rd_T27 x0 x13).f1.f0) ((rd_T27 x0 x13).f1.f1) ((rd_T27 x0 x13).f2) ((rd_T27 x0 x13).f3) ((rd_T27 x0 x13).f4) x246002).bind fun t269 => (if t269 = true then (if x15 < 0 then (metrolablaw47_GaugeKeeps.j5 k x0 x7 x13 x38 x39 x40 x59 x60 x61 true x246000 x246001 x246002) else (metrolablaw47_GaugeKeeps.j5 k x0 x7 x13 x38 x39 x40 x59 x60 x61 (decide ((wrap64 (4 * bt266.1)) > (wrap64 (x15 * x15)))) x246000 x246001 x246002)) else (metrolablaw47_GaugeKeeps.j5 k x0 x7 x13 x38 x39 x40 x59 x60 x61 true x246000 x246001 x246002))) else (some false))) else (none)) else (none)
def metrolablaw47_GaugeKeeps.j5 : Nat → List (S27) → List (S104) → Int → List Bool → Int → Int → List (S56) → Int → Int → Bool → Int → Int → Int → Option (Bool)
  | 0, _, _, _, _, _, _, _, _, _, _, _, _, _ => none
  | k + 1, x0, x7, x13, x38, x39, x40, x59, x60, x61, x108, x246000, x246001, x246002 => if x108 = true then (metrolablaw47_GaugeKeeps.l1 k x0 x7 x38 x39 x40 x59 x60 (wrap64 (x61 + 1)) x246000 x246001 x246002) else (if 0 ≤ x13 then (if x13 < (x0.length : Int) then ((bonus_Keeps.f k ((rd_T27 x0 x13).f0.f0) ((rd_T27 x0 x13).f0.f1) ((rd_T27 x0 x13).f1.f0) ((rd_T27 x0 x13).f1.f1) ((rd_T27 x0 x13).f2) ((rd_T27 x0 x13).f3) ((rd_T27 x0 x13).f4) x246000 x246001 x246002).bind fun bt271 => (if bt271.2 = 0 then (if bt271.1 = true then (metrolablaw47_GaugeKeeps.l1 k x0 x7 x38 x39 x40 x59 x60 (wrap64 (x61 + 1)) x246000 x246001 x246002) else (some false)) else (some false))) else (none)) else (none))
end
def metrolablaw47_GaugeKeeps.f (k : Nat) (l0 : List (S27)) (a1_0 : Int) (a1_1 : Int) (a2_0 : Int) (a2_1 : Int) (a2_2 : Int) : Option (Bool) := (metrolablaw47_few.f l0).bind fun t246 => (if t246 = true then ((metrolabref44_Ring.f a2_0 a2_1 a2_2).bind fun t247 => (metrolablaw47_GaugeKeeps.j0 k l0 (t247 != 0) a1_0 a1_1 a2_0 a2_1 a2_2)) else (metrolablaw47_GaugeKeeps.j0 k l0 true a1_0 a1_1 a2_0 a2_1 a2_2))
theorem metrolablaw47_GaugeKeeps.mono_l : ∀ k, (∀ y0 y1 y2 y3 y4 y5 y6, LeO (metrolablaw47_GaugeKeeps.j0 k y0 y1 y2 y3 y4 y5 y6) (metrolablaw47_GaugeKeeps.j0 (k + 1) y0 y1 y2 y3 y4 y5 y6)) ∧ (∀ y0 y1 y2 y3 y4 y5 y6 y7, LeO (metrolablaw47_GaugeKeeps.l0 k y0 y1 y2 y3 y4 y5 y6 y7) (metrolablaw47_GaugeKeeps.l0 (k + 1) y0 y1 y2 y3 y4 y5 y6 y7)) ∧ (∀ y0 y1 y2 y3 y4 y5 y6 y7 y8 y9, LeO (metrolablaw47_GaugeKeeps.j2 k y0 y1 y2 y3 y4 y5 y6 y7 y8 y9) (metrolablaw47_GaugeKeeps.j2 (k + 1) y0 y1 y2 y3 y4 y5 y6 y7 y8 y9)) ∧ (∀ y0 y1 y2 y3 y4 y5 y6 y7 y8 y9 y10, LeO (metrolablaw47_GaugeKeeps.l1 k y0 y1 y2 y3 y4 y5 y6 y7 y8 y9 y10) (metrolablaw47_GaugeKeeps.l1 (k + 1) y0 y1 y2 y3 y4 y5 y6 y7 y8 y9 y10)) ∧ (∀ y0 y1 y2 y3 y4 y5 y6 y7 y8 y9 y10 y11 y12, LeO (metrolablaw47_GaugeKeeps.j4 k y0 y1 y2 y3 y4 y5 y6 y7 y8 y9 y10 y11 y12) (metrolablaw47_GaugeKeeps.j4 (k + 1) y0 y1 y2 y3 y4 y5 y6 y7 y8 y9 y10 y11 y12)) ∧ (∀ y0 y1 y2 y3 y4 y5 y6 y7 y8 y9 y10 y11 y12, LeO (metrolablaw47_GaugeKeeps.j5 k y0 y1 y2 y3 y4 y5 y6 y7 y8 y9 y10 y11 y12) (metrolablaw47_GaugeKeeps.j5 (k + 1) y0 y1 y2 y3 y4 y5 y6 y7 y8 y9 y10 y11 y12))
  | 0 => ⟨fun _ _ _ _ _ _ _ r h => by simp [metrolablaw47_GaugeKeeps.j0] at h, fun _ _ _ _ _ _ _ _ r h => by simp [metrolablaw47_GaugeKeeps.l0] at h, fun _ _ _ _ _ _ _ _ _ _ r h => by simp [metrolablaw47_GaugeKeeps.j2] at h, fun _ _ _ _ _ _ _ _ _ _ _ r h => by simp [metrolablaw47_GaugeKeeps.l1] at h, fun _ _ _ _ _ _ _ _ _ _ _ _ _ r h => by simp [metrolablaw47_GaugeKeeps.j4] at h, fun _ _ _ _ _ _ _ _ _ _ _ _ _ r h => by simp [metrolablaw47_GaugeKeeps.j5] at h⟩
  | k + 1 => by
    obtain ⟨ih0, ih1, ih2, ih3, ih4, ih5⟩ := metrolablaw47_GaugeKeeps.mono_l k
    refine ⟨?_, ?_, ?_, ?_, ?_, ?_⟩
    · intro y0 y1 y2 y3 y4 y5 y6
      unfold metrolablaw47_GaugeKeeps.j0
      repeat' first
      | (with_reducible exact ih0 _ _ _ _ _ _ _)
      | (with_reducible exact ih1 _ _ _ _ _ _ _ _)
      | (with_reducible exact ih2 _ _ _ _ _ _ _ _ _ _)
      | (with_reducible exact ih3 _ _ _ _ _ _ _ _ _ _ _)
      | (with_reducible exact ih4 _ _ _ _ _ _ _ _ _ _ _ _ _)
      | (with_reducible exact ih5 _ _ _ _ _ _ _ _ _ _ _ _ _)
      | (with_reducible exact bonus_Distance.mono _ _ _ _ _ _ _ _ _ _ _)
      | (with_reducible exact bonus_Keeps.mono _ _ _ _ _ _ _ _ _ _ _)
      | (with_reducible exact gauge_Design.mono _ _ _ _)
      | (with_reducible exact gauge_Made.mono _ _ _)
      | (with_reducible exact metrolablaw47_awake.mono _)
      | (with_reducible exact LeO.refl _)
      | (with_reducible exact LeO.none _)
      | (with_reducible refine LeO.ite ?_ ?_)
      | (with_reducible refine LeO.bind ?_ (fun _ => ?_))
      | exact ih0 _ _ _ _ _ _ _
      | exact ih1 _ _ _ _ _ _ _ _
      | exact ih2 _ _ _ _ _ _ _ _ _ _
      | exact ih3 _ _ _ _ _ _ _ _ _ _ _
      | exact ih4 _ _ _ _ _ _ _ _ _ _ _ _ _
      | exact ih5 _ _ _ _ _ _ _ _ _ _ _ _ _
      | exact bonus_Distance.mono _ _ _ _ _ _ _ _ _ _ _
      | exact bonus_Keeps.mono _ _ _ _ _ _ _ _ _ _ _
      | exact gauge_Design.mono _ _ _ _
      | exact gauge_Made.mono _ _ _
      | exact metrolablaw47_awake.mono _
      | exact LeO.none _
      | refine LeO.ite ?_ ?_
      | refine LeO.bind ?_ (fun _ => ?_)
    · intro y0 y1 y2 y3 y4 y5 y6 y7
      unfold metrolablaw47_GaugeKeeps.l0
      repeat' first
      | (with_reducible exact ih0 _ _ _ _ _ _ _)
      | (with_reducible exact ih1 _ _ _ _ _ _ _ _)
      | (with_reducible exact ih2 _ _ _ _ _ _ _ _ _ _)
      | (with_reducible exact ih3 _ _ _ _ _ _ _ _ _ _ _)
      | (with_reducible exact ih4 _ _ _ _ _ _ _ _ _ _ _ _ _)
      | (with_reducible exact ih5 _ _ _ _ _ _ _ _ _ _ _ _ _)
      | (with_reducible exact bonus_Distance.mono _ _ _ _ _ _ _ _ _ _ _)
      | (with_reducible exact bonus_Keeps.mono _ _ _ _ _ _ _ _ _ _ _)
      | (with_reducible exact gauge_Design.mono _ _ _ _)
      | (with_reducible exact gauge_Made.mono _ _ _)
      | (with_reducible exact metrolablaw47_awake.mono _)
      | (with_reducible exact LeO.refl _)
      | (with_reducible exact LeO.none _)
      | (with_reducible refine LeO.ite ?_ ?_)
      | (with_reducible refine LeO.bind ?_ (fun _ => ?_))
      | exact ih0 _ _ _ _ _ _ _
      | exact ih1 _ _ _ _ _ _ _ _
      | exact ih2 _ _ _ _ _ _ _ _ _ _
      | exact ih3 _ _ _ _ _ _ _ _ _ _ _
      | exact ih4 _ _ _ _ _ _ _ _ _ _ _ _ _
      | exact ih5 _ _ _ _ _ _ _ _ _ _ _ _ _
      | exact bonus_Distance.mono _ _ _ _ _ _ _ _ _ _ _
      | exact bonus_Keeps.mono _ _ _ _ _ _ _ _ _ _ _
      | exact gauge_Design.mono _ _ _ _
      | exact gauge_Made.mono _ _ _
      | exact metrolablaw47_awake.mono _
      | exact LeO.none _
      | refine LeO.ite ?_ ?_
      | refine LeO.bind ?_ (fun _ => ?_)
    · intro y0 y1 y2 y3 y4 y5 y6 y7 y8 y9
      unfold metrolablaw47_GaugeKeeps.j2
      repeat' first
      | (with_reducible exact ih0 _ _ _ _ _ _ _)
      | (with_reducible exact ih1 _ _ _ _ _ _ _ _)
      | (with_reducible exact ih2 _ _ _ _ _ _ _ _ _ _)
      | (with_reducible exact ih3 _ _ _ _ _ _ _ _ _ _ _)
      | (with_reducible exact ih4 _ _ _ _ _ _ _ _ _ _ _ _ _)
      | (with_reducible exact ih5 _ _ _ _ _ _ _ _ _ _ _ _ _)
      | (with_reducible exact bonus_Distance.mono _ _ _ _ _ _ _ _ _ _ _)
      | (with_reducible exact bonus_Keeps.mono _ _ _ _ _ _ _ _ _ _ _)
      | (with_reducible exact gauge_Design.mono _ _ _ _)
      | (with_reducible exact gauge_Made.mono _ _ _)
      | (with_reducible exact metrolablaw47_awake.mono _)
      | (with_reducible exact LeO.refl _)
      | (with_reducible exact LeO.none _)
      | (with_reducible refine LeO.ite ?_ ?_)
      | (with_reducible refine LeO.bind ?_ (fun _ => ?_))
      | exact ih0 _ _ _ _ _ _ _
      | exact ih1 _ _ _ _ _ _ _ _
      | exact ih2 _ _ _ _ _ _ _ _ _ _
      | exact ih3 _ _ _ _ _ _ _ _ _ _ _
      | exact ih4 _ _ _ _ _ _ _ _ _ _ _ _ _
      | exact ih5 _ _ _ _ _ _ _ _ _ _ _ _ _
      | exact bonus_Distance.mono _ _ _ _ _ _ _ _ _ _ _
      | exact bonus_Keeps.mono _ _ _ _ _ _ _ _ _ _ _
      | exact gauge_Design.mono _ _ _ _
      | exact gauge_Made.mono _ _ _
      | exact metrolablaw47_awake.mono _
      | exact LeO.none _
      | refine LeO.ite ?_ ?_
      | refine LeO.bind ?_ (fun _ => ?_)
    · intro y0 y1 y2 y3 y4 y5 y6 y7 y8 y9 y10
      unfold metrolablaw47_GaugeKeeps.l1
      repeat' first
      | (with_reducible exact ih0 _ _ _ _ _ _ _)
      | (with_reducible exact ih1 _ _ _ _ _ _ _ _)
      | (with_reducible exact ih2 _ _ _ _ _ _ _ _ _ _)
      | (with_reducible exact ih3 _ _ _ _ _ _ _ _ _ _ _)
      | (with_reducible exact ih4 _ _ _ _ _ _ _ _ _ _ _ _ _)
      | (with_reducible exact ih5 _ _ _ _ _ _ _ _ _ _ _ _ _)
      | (with_reducible exact bonus_Distance.mono _ _ _ _ _ _ _ _ _ _ _)
      | (with_reducible exact bonus_Keeps.mono _ _ _ _ _ _ _ _ _ _ _)
      | (with_reducible exact gauge_Design.mono _ _ _ _)
      | (with_reducible exact gauge_Made.mono _ _ _)
      | (with_reducible exact metrolablaw47_awake.mono _)
      | (with_reducible exact LeO.refl _)
      | (with_reducible exact LeO.none _)
      | (with_reducible refine LeO.ite ?_ ?_)
      | (with_reducible refine LeO.bind ?_ (fun _ => ?_))
      | exact ih0 _ _ _ _ _ _ _
      | exact ih1 _ _ _ _ _ _ _ _
      | exact ih2 _ _ _ _ _ _ _ _ _ _
      | exact ih3 _ _ _ _ _ _ _ _ _ _ _
      | exact ih4 _ _ _ _ _ _ _ _ _ _ _ _ _
      | exact ih5 _ _ _ _ _ _ _ _ _ _ _ _ _
      | exact bonus_Distance.mono _ _ _ _ _ _ _ _ _ _ _
      | exact bonus_Keeps.mono _ _ _ _ _ _ _ _ _ _ _
      | exact gauge_Design.mono _ _ _ _
      | exact gauge_Made.mono _ _ _
      | exact metrolablaw47_awake.mono _
      | exact LeO.none _
      | refine LeO.ite ?_ ?_
      | refine LeO.bind ?_ (fun _ => ?_)
    · intro y0 y1 y2 y3 y4 y5 y6 y7 y8 y9 y10 y11 y12
      unfold metrolablaw47_GaugeKeeps.j4
      repeat' first
      | (with_reducible exact ih0 _ _ _ _ _ _ _)
      | (with_reducible exact ih1 _ _ _ _ _ _ _ _)
      | (with_reducible exact ih2 _ _ _ _ _ _ _ _ _ _)
      | (with_reducible exact ih3 _ _ _ _ _ _ _ _ _ _ _)
      | (with_reducible exact ih4 _ _ _ _ _ _ _ _ _ _ _ _ _)
      | (with_reducible exact ih5 _ _ _ _ _ _ _ _ _ _ _ _ _)
      | (with_reducible exact bonus_Distance.mono _ _ _ _ _ _ _ _ _ _ _)
      | (with_reducible exact bonus_Keeps.mono _ _ _ _ _ _ _ _ _ _ _)
      | (with_reducible exact gauge_Design.mono _ _ _ _)
      | (with_reducible exact gauge_Made.mono _ _ _)
      | (with_reducible exact metrolablaw47_awake.mono _)
      | (with_reducible exact LeO.refl _)
      | (with_reducible exact LeO.none _)
      | (with_reducible refine LeO.ite ?_ ?_)
      | (with_reducible refine LeO.bind ?_ (fun _ => ?_))
      | exact ih0 _ _ _ _ _ _ _
      | exact ih1 _ _ _ _ _ _ _ _
      | exact ih2 _ _ _ _ _ _ _ _ _ _
      | exact ih3 _ _ _ _ _ _ _ _ _ _ _
      | exact ih4 _ _ _ _ _ _ _ _ _ _ _ _ _
      | exact ih5 _ _ _ _ _ _ _ _ _ _ _ _ _
      | exact bonus_Distance.mono _ _ _ _ _ _ _ _ _ _ _
      | exact bonus_Keeps.mono _ _ _ _ _ _ _ _ _ _ _
      | exact gauge_Design.mono _ _ _ _
      | exact gauge_Made.mono _ _ _
      | exact metrolablaw47_awake.mono _
      | exact LeO.none _
      | refine LeO.ite ?_ ?_
      | refine LeO.bind ?_ (fun _ => ?_)
    · intro y0 y1 y2 y3 y4 y5 y6 y7 y8 y9 y10 y11 y12
      unfold metrolablaw47_GaugeKeeps.j5
      repeat' first
      | (with_reducible exact ih0 _ _ _ _ _ _ _)
      | (with_reducible exact ih1 _ _ _ _ _ _ _ _)
      | (with_reducible exact ih2 _ _ _ _ _ _ _ _ _ _)
      | (with_reducible exact ih3 _ _ _ _ _ _ _ _ _ _ _)
      | (with_reducible exact ih4 _ _ _ _ _ _ _ _ _ _ _ _ _)
      | (with_reducible exact ih5 _ _ _ _ _ _ _ _ _ _ _ _ _)
      | (with_reducible exact bonus_Distance.mono _ _ _ _ _ _ _ _ _ _ _)
      | (with_reducible exact bonus_Keeps.mono _ _ _ _ _ _ _ _ _ _ _)
      | (with_reducible exact gauge_Design.mono _ _ _ _)
      | (with_reducible exact gauge_Made.mono _ _ _)
      | (with_reducible exact metrolablaw47_awake.mono _)
      | (with_reducible exact LeO.refl _)
      | (with_reducible exact LeO.none _)
      | (with_reducible refine LeO.ite ?_ ?_)
      | (with_reducible refine LeO.bind ?_ (fun _ => ?_))
      | exact ih0 _ _ _ _ _ _ _
      | exact ih1 _ _ _ _ _ _ _ _
      | exact ih2 _ _ _ _ _ _ _ _ _ _
      | exact ih3 _ _ _ _ _ _ _ _ _ _ _
      | exact ih4 _ _ _ _ _ _ _ _ _ _ _ _ _
      | exact ih5 _ _ _ _ _ _ _ _ _ _ _ _ _
      | exact bonus_Distance.mono _ _ _ _ _ _ _ _ _ _ _
      | exact bonus_Keeps.mono _ _ _ _ _ _ _ _ _ _ _
      | exact gauge_Design.mono _ _ _ _
      | exact gauge_Made.mono _ _ _
      | exact metrolablaw47_awake.mono _
      | exact LeO.none _
      | refine LeO.ite ?_ ?_
      | refine LeO.bind ?_ (fun _ => ?_)
theorem metrolablaw47_GaugeKeeps.mono : ∀ a0 a1 a2 a3 a4 a5 k, LeO (metrolablaw47_GaugeKeeps.f k a0 a1 a2 a3 a4 a5) (metrolablaw47_GaugeKeeps.f (k + 1) a0 a1 a2 a3 a4 a5) := by
  intro a0 a1 a2 a3 a4 a5 k
  obtain ⟨ih0, ih1, ih2, ih3, ih4, ih5⟩ := metrolablaw47_GaugeKeeps.mono_l k
  unfold metrolablaw47_GaugeKeeps.f
  repeat' first
      | (with_reducible exact ih0 _ _ _ _ _ _ _)
      | (with_reducible exact ih1 _ _ _ _ _ _ _ _)
      | (with_reducible exact ih2 _ _ _ _ _ _ _ _ _ _)
      | (with_reducible exact ih3 _ _ _ _ _ _ _ _ _ _ _)
      | (with_reducible exact ih4 _ _ _ _ _ _ _ _ _ _ _ _ _)
      | (with_reducible exact ih5 _ _ _ _ _ _ _ _ _ _ _ _ _)
      | (with_reducible exact bonus_Distance.mono _ _ _ _ _ _ _ _ _ _ _)
      | (with_reducible exact bonus_Keeps.mono _ _ _ _ _ _ _ _ _ _ _)
      | (with_reducible exact gauge_Design.mono _ _ _ _)
      | (with_reducible exact gauge_Made.mono _ _ _)
      | (with_reducible exact metrolablaw47_awake.mono _)
      | (with_reducible exact LeO.refl _)
      | (with_reducible exact LeO.none _)
      | (with_reducible refine LeO.ite ?_ ?_)
      | (with_reducible refine LeO.bind ?_ (fun _ => ?_))
      | exact ih0 _ _ _ _ _ _ _
      | exact ih1 _ _ _ _ _ _ _ _
      | exact ih2 _ _ _ _ _ _ _ _ _ _
      | exact ih3 _ _ _ _ _ _ _ _ _ _ _
      | exact ih4 _ _ _ _ _ _ _ _ _ _ _ _ _
      | exact ih5 _ _ _ _ _ _ _ _ _ _ _ _ _
      | exact bonus_Distance.mono _ _ _ _ _ _ _ _ _ _ _
      | exact bonus_Keeps.mono _ _ _ _ _ _ _ _ _ _ _
      | exact gauge_Design.mono _ _ _ _
      | exact gauge_Made.mono _ _ _
      | exact metrolablaw47_awake.mono _
      | exact LeO.none _
      | refine LeO.ite ?_ ?_
      | refine LeO.bind ?_ (fun _ => ?_)
def metrolablaw47_GaugeKeeps.T18 : Bool × List (List Nat × List Nat) := (true, [([], []), ([], []), ([0, 1], [0, 1]), ([2], [2]), ([], []), ([3, 4], [3, 4]), ([5], [5]), ([6], [6]), ([6], [6]), ([7, 5, 0, 1, 2, 3, 4, 5, 6, 7], [7]), ([8, 9, 0, 1, 2, 3, 4, 5, 6, 7, 8, 9], [8])])
def metrolablaw47_GaugeKeeps.B18 : List Nat := [0, 0, 3, 7, 0, 31, 63, 127, 127, 255, 1023]
theorem metrolablaw47_GaugeKeeps.tab18 : rtab .any (opsOf Tryd.f7 18) = metrolablaw47_GaugeKeeps.T18 := by kernel_rfl
theorem metrolablaw47_GaugeKeeps.bits18 : waitsOk metrolablaw47_GaugeKeeps.T18.2 metrolablaw47_GaugeKeeps.B18 = true := by kernel_rfl
def metrolablaw47_GaugeKeeps.T21 : Bool × List (List Nat × List Nat) := (true, [([], []), ([], []), ([0, 1], [0, 1]), ([2], [2]), ([], []), ([4], [4]), ([3, 5], [3, 5]), ([6], [6]), ([7, 6], [7]), ([8], [8]), ([9, 8], [8, 9]), ([8, 10], [8, 10]), ([11, 8], [11]), ([12], [12]), ([13, 12], [12, 13]), ([12], [12]), ([12], [12]), ([15, 16, 12], [12, 15, 16]), ([14, 17, 12], [12, 14, 17]), ([12, 18], [12, 18])])
def metrolablaw47_GaugeKeeps.B21 : List Nat := [0, 0, 3, 7, 0, 16, 63, 127, 255, 511, 1023, 2047, 4095, 8191, 16383, 8191, 8191, 106495, 262143, 524287]
theorem metrolablaw47_GaugeKeeps.tab21 : rtab .any (opsOf Tryd.f7 21) = metrolablaw47_GaugeKeeps.T21 := by kernel_rfl
theorem metrolablaw47_GaugeKeeps.bits21 : waitsOk metrolablaw47_GaugeKeeps.T21.2 metrolablaw47_GaugeKeeps.B21 = true := by kernel_rfl
def metrolablaw47_GaugeKeeps.T22 : Bool × List (List Nat × List Nat) := (true, [([], []), ([], []), ([0, 1], [0, 1]), ([2], [2]), ([], []), ([3, 4], [3, 4]), ([5], [5]), ([6], [6]), ([6], [6]), ([7, 5, 0, 1, 2, 3, 4, 5, 6, 7], [7]), ([8, 9, 0, 1, 2, 3, 4, 5, 6, 7, 8, 9], [8])])
def metrolablaw47_GaugeKeeps.B22 : List Nat := [0, 0, 3, 7, 0, 31, 63, 127, 127, 255, 1023]
theorem metrolablaw47_GaugeKeeps.tab22 : rtab .any (opsOf Tryd.f7 22) = metrolablaw47_GaugeKeeps.T22 := by kernel_rfl
theorem metrolablaw47_GaugeKeeps.bits22 : waitsOk metrolablaw47_GaugeKeeps.T22.2 metrolablaw47_GaugeKeeps.B22 = true := by kernel_rfl
end Go.Proofs.YtjemaonejkepcaaDoor.G
