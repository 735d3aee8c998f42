/- Contracts of the Go functions that a law reaches, written by a program of ours over the kit's printer; not trusted: Lean checks them. -/
import Derived.Test.YtjemaonejkepcaaDoorB0
namespace Go.Proofs.YtjemaonejkepcaaDoor.B
open Go.RowKit Go.Proofs.YtjemaonejkepcaaDoorW.PrintWords Go.Proofs.YtjemaonejkepcaaDoorW.PrintLast Go.Proofs.YtjemaonejkepcaaDoorW.PrintMore
attribute [local go_sem] max2_int min2_int max_two min_two max_three min_three max_four min_four   -- for this text's walks alone
set_option linter.unusedVariables false
set_option linter.unusedSimpArgs false

/-! ### metrolabref44_Inside: function 44 -/
def metrolabref44_Inside.f (a0_0 : Int) (a0_1 : Int) (a0_2 : Int) (a0_3 : Int) (a0_4 : Int) (a0_5 : Int) (a0_6 : Bool) (a1 : Int) : Option (Bool) := if a1 ≥ a0_2 then (some (decide (a1 ≤ a0_3))) else (some false)
set_option maxHeartbeats 8000000 in
set_option maxRecDepth 100000 in
theorem metrolabref44_Inside.calls (a0_0 : Int) (a0_1 : Int) (a0_2 : Int) (a0_3 : Int) (a0_4 : Int) (a0_5 : Int) (a0_6 : Bool) (a1 : Int) (r : Bool) (w : World) (h : metrolabref44_Inside.f a0_0 a0_1 a0_2 a0_3 a0_4 a0_5 a0_6 a1 = some r) :
    Calls Tryd.prog 44 #[.agg #[.int .i64 a0_0, .int .i64 a0_1, .int .i64 a0_2, .int .i64 a0_3, .int .i64 a0_4, .int .i64 a0_5, .bool a0_6], .int .i64 a1] w fun e w' => e = .returned (.bool r) ∧ Below w.heap.size w w' := by
  have hu27 := Tryd.underlying27
  have HB := Aside0.mk (Below.refl w.heap.size w)
  have H : (if a1 ≥ a0_2 then (some (decide (a1 ≤ a0_3))) else (some false)) = some r := h
  clear h
  by_cases c3 : a1 ≥ a0_2
  · rw [if_pos c3] at H
    have c3b0 : decide (a0_2 ≤ a1) = true := decide_eq_true c3
    clear c3
    obtain rfl := Option.some.inj H
    go_enter Tryd.func44, Tryd.ntmps44
    go_wp2_with (first | ((with_reducible refine gate_dst (N := 2) rfl ?_); refine box_event ?hg (N := 2) ?hd (cs := #[.int .i64 a0_0, .int .i64 a0_1, .int .i64 a0_2, .int .i64 a0_3, .int .i64 a0_4, .int .i64 a0_5, .bool a0_6]) (t := 27) ?hr ?_; (case hd => rfl); (case hg => rfl); (case hr => first | (go_simp; done) | (go_simp; rfl)); intro gb221 hg w4 hbox hb; have n0_ := Aside0.mk (below_step (by repeat (first | (with_reducible first | exact HB.out | apply below_alloc | apply pw_below_drewN | apply below_drew1) | exact HB.out)) hb); have n1_ := Aside0.mk (hbox); have n2_ := Aside0.mk ((by rw [hg]; exact (below_size (by repeat (first | (with_reducible first | exact HB.out | apply below_alloc | apply pw_below_drewN | apply below_drew1) | exact HB.out))) : w.heap.size ≤ gb221)); have n3_ := Aside0.mk ((by rw [hg]; exact (below_size (by repeat (first | (with_reducible first | exact HB.out | apply below_alloc | apply pw_below_drewN | apply below_drew1) | exact HB.out))) : w.heap.size ≤ gb221)); clear HB; have HB := n0_; have BK221 := n1_; have GW221 := n2_; have GE221 := n3_; clear n0_ n1_ n2_ n3_; clear hb hbox hg; have hcz5_0 : w4.cell? ⟨gb221, 0, none⟩ = some (.int .i64 a0_0) := (blk_cell BK221.out 0).trans rfl; have hcz5_1 : w4.cell? ⟨gb221, 1, none⟩ = some (.int .i64 a0_1) := (blk_cell BK221.out 1).trans rfl; have hcz5_2 : w4.cell? ⟨gb221, 2, none⟩ = some (.int .i64 a0_2) := (blk_cell BK221.out 2).trans rfl; have hcz5_3 : w4.cell? ⟨gb221, 3, none⟩ = some (.int .i64 a0_3) := (blk_cell BK221.out 3).trans rfl; have hcz5_4 : w4.cell? ⟨gb221, 4, none⟩ = some (.int .i64 a0_4) := (blk_cell BK221.out 4).trans rfl; have hcz5_5 : w4.cell? ⟨gb221, 5, none⟩ = some (.int .i64 a0_5) := (blk_cell BK221.out 5).trans rfl; have hcz5_6 : w4.cell? ⟨gb221, 6, none⟩ = some (.bool a0_6) := (blk_cell BK221.out 6).trans rfl; have hfz5_0 := blk_frozen BK221.out 0; have hfz5_1 := blk_frozen BK221.out 1; have hfz5_2 := blk_frozen BK221.out 2; have hfz5_3 := blk_frozen BK221.out 3; have hfz5_4 := blk_frozen BK221.out 4; have hfz5_5 := blk_frozen BK221.out 5; have hfz5_6 := blk_frozen BK221.out 6))
    go_ret
    exact ⟨by first | rfl | (simp [errW_none, errW_some] <;> rfl) | (simp [*, errW_none, errW_some] <;> rfl), by repeat (first | (with_reducible first | exact HB.out | apply below_alloc | apply pw_below_drewN | apply below_drew1 | refine below_set ?_ GE221.out) | exact HB.out)⟩
  · rw [if_neg c3] at H
    have c3b0 : decide (a0_2 ≤ a1) = false := decide_eq_false c3
    clear c3
    obtain rfl := Option.some.inj H
    go_enter Tryd.func44, Tryd.ntmps44
    go_wp2_with (first | ((with_reducible refine gate_dst (N := 2) rfl ?_); refine box_event ?hg (N := 2) ?hd (cs := #[.int .i64 a0_0, .int .i64 a0_1, .int .i64 a0_2, .int .i64 a0_3, .int .i64 a0_4, .int .i64 a0_5, .bool a0_6]) (t := 27) ?hr ?_; (case hd => rfl); (case hg => rfl); (case hr => first | (go_simp; done) | (go_simp; rfl)); intro gb221 hg w6 hbox hb; have n0_ := Aside0.mk (below_step (by repeat (first | (with_reducible first | exact HB.out | apply below_alloc | apply pw_below_drewN | apply below_drew1) | exact HB.out)) hb); have n1_ := Aside0.mk (hbox); have n2_ := Aside0.mk ((by rw [hg]; exact (below_size (by repeat (first | (with_reducible first | exact HB.out | apply below_alloc | apply pw_below_drewN | apply below_drew1) | exact HB.out))) : w.heap.size ≤ gb221)); have n3_ := Aside0.mk ((by rw [hg]; exact (below_size (by repeat (first | (with_reducible first | exact HB.out | apply below_alloc | apply pw_below_drewN | apply below_drew1) | exact HB.out))) : w.heap.size ≤ gb221)); clear HB; have HB := n0_; have BK221 := n1_; have GW221 := n2_; have GE221 := n3_; clear n0_ n1_ n2_ n3_; clear hb hbox hg; have hcz7_0 : w6.cell? ⟨gb221, 0, none⟩ = some (.int .i64 a0_0) := (blk_cell BK221.out 0).trans rfl; have hcz7_1 : w6.cell? ⟨gb221, 1, none⟩ = some (.int .i64 a0_1) := (blk_cell BK221.out 1).trans rfl; have hcz7_2 : w6.cell? ⟨gb221, 2, none⟩ = some (.int .i64 a0_2) := (blk_cell BK221.out 2).trans rfl; have hcz7_3 : w6.cell? ⟨gb221, 3, none⟩ = some (.int .i64 a0_3) := (blk_cell BK221.out 3).trans rfl; have hcz7_4 : w6.cell? ⟨gb221, 4, none⟩ = some (.int .i64 a0_4) := (blk_cell BK221.out 4).trans rfl; have hcz7_5 : w6.cell? ⟨gb221, 5, none⟩ = some (.int .i64 a0_5) := (blk_cell BK221.out 5).trans rfl; have hcz7_6 : w6.cell? ⟨gb221, 6, none⟩ = some (.bool a0_6) := (blk_cell BK221.out 6).trans rfl; have hfz7_0 := blk_frozen BK221.out 0; have hfz7_1 := blk_frozen BK221.out 1; have hfz7_2 := blk_frozen BK221.out 2; have hfz7_3 := blk_frozen BK221.out 3; have hfz7_4 := blk_frozen BK221.out 4; have hfz7_5 := blk_frozen BK221.out 5; have hfz7_6 := blk_frozen BK221.out 6))
    go_ret
    exact ⟨by first | rfl | (simp [errW_none, errW_some] <;> rfl) | (simp [*, errW_none, errW_some] <;> rfl), by repeat (first | (with_reducible first | exact HB.out | apply below_alloc | apply pw_below_drewN | apply below_drew1 | refine below_set ?_ GE221.out) | exact HB.out)⟩

/-! ### metrolabref44_Extra: function 78 -/
def metrolabref44_Extra.f (a0_0 : Int) (a0_1 : Int) (a0_2 : Int) (a0_3 : Int) (a0_4 : Int) (a0_5 : Int) (a0_6 : Bool) (a1 : Int) : Option (Int) := if a0_5 = 0 then (some 0) else (if ((a0_5 == 1) != a0_6) = true then (some (wrap64 (a1 - a0_2))) else (some (wrap64 (a0_3 - a1))))
set_option maxHeartbeats 8000000 in
set_option maxRecDepth 100000 in
theorem metrolabref44_Extra.calls (a0_0 : Int) (a0_1 : Int) (a0_2 : Int) (a0_3 : Int) (a0_4 : Int) (a0_5 : Int) (a0_6 : Bool) (a1 : Int) (r : Int) (w : World) (h : metrolabref44_Extra.f a0_0 a0_1 a0_2 a0_3 a0_4 a0_5 a0_6 a1 = some r) :
    Calls Tryd.prog 78 #[.agg #[.int .i64 a0_0, .int .i64 a0_1, .int .i64 a0_2, .int .i64 a0_3, .int .i64 a0_4, .int .i64 a0_5, .bool a0_6], .int .i64 a1] w fun e w' => e = .returned (.int .i64 r) ∧ Below w.heap.size w w' := by
  have hu27 := Tryd.underlying27
  have HB := Aside0.mk (Below.refl w.heap.size w)
  have H : (if a0_5 = 0 then (some 0) else (if ((a0_5 == 1) != a0_6) = true then (some (wrap64 (a1 - a0_2))) else (some (wrap64 (a0_3 - a1))))) = some r := h
  clear h
  by_cases c3 : a0_5 = 0
  · rw [if_pos c3] at H
    have c3b0 : (a0_5 == 0) = true := beq_iff_eq.mpr c3
    have c3b1 : (a0_5 != 0) = false := bne_eq_false_iff_eq.mpr c3
    clear c3
    obtain rfl := Option.some.inj H
    go_enter Tryd.func78, Tryd.ntmps78
    go_wp2_with (first | ((with_reducible refine gate_dst (N := 2) rfl ?_); refine box_event ?hg (N := 2) ?hd (cs := #[.int .i64 a0_0, .int .i64 a0_1, .int .i64 a0_2, .int .i64 a0_3, .int .i64 a0_4, .int .i64 a0_5, .bool a0_6]) (t := 27) ?hr ?_; (case hd => rfl); (case hg => rfl); (case hr => first | (go_simp; done) | (go_simp; rfl)); intro gb222 hg w4 hbox hb; have n0_ := Aside0.mk (below_step (by repeat (first | (with_reducible first | exact HB.out | apply below_alloc | apply pw_below_drewN | apply below_drew1) | exact HB.out)) hb); have n1_ := Aside0.mk (hbox); have n2_ := Aside0.mk ((by rw [hg]; exact (below_size (by repeat (first | (with_reducible first | exact HB.out | apply below_alloc | apply pw_below_drewN | apply below_drew1) | exact HB.out))) : w.heap.size ≤ gb222)); have n3_ := Aside0.mk ((by rw [hg]; exact (below_size (by repeat (first | (with_reducible first | exact HB.out | apply below_alloc | apply pw_below_drewN | apply below_drew1) | exact HB.out))) : w.heap.size ≤ gb222)); clear HB; have HB := n0_; have BK222 := n1_; have GW222 := n2_; have GE222 := n3_; clear n0_ n1_ n2_ n3_; clear hb hbox hg; have hcz5_0 : w4.cell? ⟨gb222, 0, none⟩ = some (.int .i64 a0_0) := (blk_cell BK222.out 0).trans rfl; have hcz5_1 : w4.cell? ⟨gb222, 1, none⟩ = some (.int .i64 a0_1) := (blk_cell BK222.out 1).trans rfl; have hcz5_2 : w4.cell? ⟨gb222, 2, none⟩ = some (.int .i64 a0_2) := (blk_cell BK222.out 2).trans rfl; have hcz5_3 : w4.cell? ⟨gb222, 3, none⟩ = some (.int .i64 a0_3) := (blk_cell BK222.out 3).trans rfl; have hcz5_4 : w4.cell? ⟨gb222, 4, none⟩ = some (.int .i64 a0_4) := (blk_cell BK222.out 4).trans rfl; have hcz5_5 : w4.cell? ⟨gb222, 5, none⟩ = some (.int .i64 a0_5) := (blk_cell BK222.out 5).trans rfl; have hcz5_6 : w4.cell? ⟨gb222, 6, none⟩ = some (.bool a0_6) := (blk_cell BK222.out 6).trans rfl; have hfz5_0 := blk_frozen BK222.out 0; have hfz5_1 := blk_frozen BK222.out 1; have hfz5_2 := blk_frozen BK222.out 2; have hfz5_3 := blk_frozen BK222.out 3; have hfz5_4 := blk_frozen BK222.out 4; have hfz5_5 := blk_frozen BK222.out 5; have hfz5_6 := blk_frozen BK222.out 6))
    go_ret
    exact ⟨by first | rfl | (simp [errW_none, errW_some] <;> rfl) | (simp [*, errW_none, errW_some] <;> rfl), by repeat (first | (with_reducible first | exact HB.out | apply below_alloc | apply pw_below_drewN | apply below_drew1 | refine below_set ?_ GE222.out) | exact HB.out)⟩
  · rw [if_neg c3] at H
    have c3b0 : (a0_5 == 0) = false := beq_eq_false_iff_ne.mpr c3
    have c3b1 : (a0_5 != 0) = true := bne_iff_ne.mpr c3
    by_cases c6 : ((a0_5 == 1) != a0_6) = true
    · rw [if_pos c6] at H
      have c6b0 : ((a0_5 == 1) != a0_6) = true := c6
      (try (have c6b1 : decide ((a0_5 == 1) = a0_6) = false := by simpa using c6))
      (try (have c6b2 : ((a0_5 == 1) == a0_6) = false := by simpa using c6))
      (try (have c6b3 : ¬ ((a0_5 == 1) = a0_6) := by simpa using c6))
      clear c6
      obtain rfl := Option.some.inj H
      go_enter Tryd.func78, Tryd.ntmps78
      go_wp2_with (first | ((with_reducible refine gate_dst (N := 2) rfl ?_); refine box_event ?hg (N := 2) ?hd (cs := #[.int .i64 a0_0, .int .i64 a0_1, .int .i64 a0_2, .int .i64 a0_3, .int .i64 a0_4, .int .i64 a0_5, .bool a0_6]) (t := 27) ?hr ?_; (case hd => rfl); (case hg => rfl); (case hr => first | (go_simp; done) | (go_simp; rfl)); intro gb222 hg w7 hbox hb; have n0_ := Aside0.mk (below_step (by repeat (first | (with_reducible first | exact HB.out | apply below_alloc | apply pw_below_drewN | apply below_drew1) | exact HB.out)) hb); have n1_ := Aside0.mk (hbox); have n2_ := Aside0.mk ((by rw [hg]; exact (below_size (by repeat (first | (with_reducible first | exact HB.out | apply below_alloc | apply pw_below_drewN | apply below_drew1) | exact HB.out))) : w.heap.size ≤ gb222)); have n3_ := Aside0.mk ((by rw [hg]; exact (below_size (by repeat (first | (with_reducible first | exact HB.out | apply below_alloc | apply pw_below_drewN | apply below_drew1) | exact HB.out))) : w.heap.size ≤ gb222)); clear HB; have HB := n0_; have BK222 := n1_; have GW222 := n2_; have GE222 := n3_; clear n0_ n1_ n2_ n3_; clear hb hbox hg; have hcz8_0 : w7.cell? ⟨gb222, 0, none⟩ = some (.int .i64 a0_0) := (blk_cell BK222.out 0).trans rfl; have hcz8_1 : w7.cell? ⟨gb222, 1, none⟩ = some (.int .i64 a0_1) := (blk_cell BK222.out 1).trans rfl; have hcz8_2 : w7.cell? ⟨gb222, 2, none⟩ = some (.int .i64 a0_2) := (blk_cell BK222.out 2).trans rfl; have hcz8_3 : w7.cell? ⟨gb222, 3, none⟩ = some (.int .i64 a0_3) := (blk_cell BK222.out 3).trans rfl; have hcz8_4 : w7.cell? ⟨gb222, 4, none⟩ = some (.int .i64 a0_4) := (blk_cell BK222.out 4).trans rfl; have hcz8_5 : w7.cell? ⟨gb222, 5, none⟩ = some (.int .i64 a0_5) := (blk_cell BK222.out 5).trans rfl; have hcz8_6 : w7.cell? ⟨gb222, 6, none⟩ = some (.bool a0_6) := (blk_cell BK222.out 6).trans rfl; have hfz8_0 := blk_frozen BK222.out 0; have hfz8_1 := blk_frozen BK222.out 1; have hfz8_2 := blk_frozen BK222.out 2; have hfz8_3 := blk_frozen BK222.out 3; have hfz8_4 := blk_frozen BK222.out 4; have hfz8_5 := blk_frozen BK222.out 5; have hfz8_6 := blk_frozen BK222.out 6))
      go_ret
      exact ⟨by first | rfl | (simp [errW_none, errW_some] <;> rfl) | (simp [*, errW_none, errW_some] <;> rfl), by repeat (first | (with_reducible first | exact HB.out | apply below_alloc | apply pw_below_drewN | apply below_drew1 | refine below_set ?_ GE222.out) | exact HB.out)⟩
    · rw [if_neg c6] at H
      have c6b0 : ((a0_5 == 1) != a0_6) = false := by simpa using c6
      (try (have c6b1 : decide ((a0_5 == 1) = a0_6) = true := by simpa using c6))
      (try (have c6b2 : ((a0_5 == 1) == a0_6) = true := by simpa using c6))
      clear c6
      obtain rfl := Option.some.inj H
      go_enter Tryd.func78, Tryd.ntmps78
      go_wp2_with (first | ((with_reducible refine gate_dst (N := 2) rfl ?_); refine box_event ?hg (N := 2) ?hd (cs := #[.int .i64 a0_0, .int .i64 a0_1, .int .i64 a0_2, .int .i64 a0_3, .int .i64 a0_4, .int .i64 a0_5, .bool a0_6]) (t := 27) ?hr ?_; (case hd => rfl); (case hg => rfl); (case hr => first | (go_simp; done) | (go_simp; rfl)); intro gb222 hg w9 hbox hb; have n0_ := Aside0.mk (below_step (by repeat (first | (with_reducible first | exact HB.out | apply below_alloc | apply pw_below_drewN | apply below_drew1) | exact HB.out)) hb); have n1_ := Aside0.mk (hbox); have n2_ := Aside0.mk ((by rw [hg]; exact (below_size (by repeat (first | (with_reducible first | exact HB.out | apply below_alloc | apply pw_below_drewN | apply below_drew1) | exact HB.out))) : w.heap.size ≤ gb222)); have n3_ := Aside0.mk ((by rw [hg]; exact (below_size (by repeat (first | (with_reducible first | exact HB.out | apply below_alloc | apply pw_below_drewN | apply below_drew1) | exact HB.out))) : w.heap.size ≤ gb222)); clear HB; have HB := n0_; have BK222 := n1_; have GW222 := n2_; have GE222 := n3_; clear n0_ n1_ n2_ n3_; clear hb hbox hg; have hcz10_0 : w9.cell? ⟨gb222, 0, none⟩ = some (.int .i64 a0_0) := (blk_cell BK222.out 0).trans rfl; have hcz10_1 : w9.cell? ⟨gb222, 1, none⟩ = some (.int .i64 a0_1) := (blk_cell BK222.out 1).trans rfl; have hcz10_2 : w9.cell? ⟨gb222, 2, none⟩ = some (.int .i64 a0_2) := (blk_cell BK222.out 2).trans rfl; have hcz10_3 : w9.cell? ⟨gb222, 3, none⟩ = some (.int .i64 a0_3) := (blk_cell BK222.out 3).trans rfl; have hcz10_4 : w9.cell? ⟨gb222, 4, none⟩ = some (.int .i64 a0_4) := (blk_cell BK222.out 4).trans rfl; have hcz10_5 : w9.cell? ⟨gb222, 5, none⟩ = some (.int .i64 a0_5) := (blk_cell BK222.out 5).trans rfl; have hcz10_6 : w9.cell? ⟨gb222, 6, none⟩ = some (.bool a0_6) := (blk_cell BK222.out 6).trans rfl; have hfz10_0 := blk_frozen BK222.out 0; have hfz10_1 := blk_frozen BK222.out 1; have hfz10_2 := blk_frozen BK222.out 2; have hfz10_3 := blk_frozen BK222.out 3; have hfz10_4 := blk_frozen BK222.out 4; have hfz10_5 := blk_frozen BK222.out 5; have hfz10_6 := blk_frozen BK222.out 6))
      go_ret
      exact ⟨by first | rfl | (simp [errW_none, errW_some] <;> rfl) | (simp [*, errW_none, errW_some] <;> rfl), by repeat (first | (with_reducible first | exact HB.out | apply below_alloc | apply pw_below_drewN | apply below_drew1 | refine below_set ?_ GE222.out) | exact HB.out)⟩

end Go.Proofs.YtjemaonejkepcaaDoor.B
