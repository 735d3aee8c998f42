/- Contracts of the Go functions that a law reaches, written by a program of ours over the kit's printer; not trusted: Lean checks them. -/
import Derived.Test.YtjemaonejkepcaaDoorB0
namespace Go.Proofs.YtjemaonejkepcaaDoor.B
open Go.RowKit Go.Proofs.YtjemaonejkepcaaDoorW.PrintWords Go.Proofs.YtjemaonejkepcaaDoorW.PrintLast Go.Proofs.YtjemaonejkepcaaDoorW.PrintMore
attribute [local go_sem] max2_int min2_int max_two min_two max_three min_three max_four min_four   -- for this text's walks alone
set_option linter.unusedVariables false
set_option linter.unusedSimpArgs false

/-! ### metrolabref44_Gauge: function 69 -/
def metrolabref44_Gauge.f (a0_0 : Int) (a0_1 : Int) (a0_2 : Int) (a0_3 : Int) (a0_4 : Int) (a0_5 : Int) (a0_6 : Bool) : Option (Int) := if ((a0_5 == 2) == a0_6) = true then (some (wrap64 (a0_2 - a0_4))) else (some (wrap64 (a0_3 + a0_4)))
set_option maxHeartbeats 8000000 in
set_option maxRecDepth 100000 in
theorem metrolabref44_Gauge.calls (a0_0 : Int) (a0_1 : Int) (a0_2 : Int) (a0_3 : Int) (a0_4 : Int) (a0_5 : Int) (a0_6 : Bool) (r : Int) (w : World) (h : metrolabref44_Gauge.f a0_0 a0_1 a0_2 a0_3 a0_4 a0_5 a0_6 = some r) :
    Calls Tryd.prog 69 #[.agg #[.int .i64 a0_0, .int .i64 a0_1, .int .i64 a0_2, .int .i64 a0_3, .int .i64 a0_4, .int .i64 a0_5, .bool a0_6]] w fun e w' => e = .returned (.int .i64 r) ∧ Below w.heap.size w w' := by
  have hu27 := Tryd.underlying27
  have HB := Aside0.mk (Below.refl w.heap.size w)
  have H : (if ((a0_5 == 2) == a0_6) = true then (some (wrap64 (a0_2 - a0_4))) else (some (wrap64 (a0_3 + a0_4)))) = some r := h
  clear h
  by_cases c2 : ((a0_5 == 2) == a0_6) = true
  · rw [if_pos c2] at H
    have c2b0 : ((a0_5 == 2) == a0_6) = true := c2
    (try (have c2b1 : decide ((a0_5 == 2) = a0_6) = true := by simpa using c2))
    (try (have c2b2 : ((a0_5 == 2) == a0_6) = true := by simpa using c2))
    clear c2
    obtain rfl := Option.some.inj H
    go_enter Tryd.func69, Tryd.ntmps69
    go_wp2_with (first | ((with_reducible refine gate_dst (N := 1) rfl ?_); refine box_event ?hg (N := 1) ?hd (cs := #[.int .i64 a0_0, .int .i64 a0_1, .int .i64 a0_2, .int .i64 a0_3, .int .i64 a0_4, .int .i64 a0_5, .bool a0_6]) (t := 27) ?hr ?_; (case hd => rfl); (case hg => rfl); (case hr => first | (go_simp; done) | (go_simp; rfl)); intro gb126 hg w3 hbox hb; have n0_ := Aside0.mk (below_step (by repeat (first | (with_reducible first | exact HB.out | apply below_alloc | apply pw_below_drewN | apply below_drew1) | exact HB.out)) hb); have n1_ := Aside0.mk (hbox); have n2_ := Aside0.mk ((by rw [hg]; exact (below_size (by repeat (first | (with_reducible first | exact HB.out | apply below_alloc | apply pw_below_drewN | apply below_drew1) | exact HB.out))) : w.heap.size ≤ gb126)); have n3_ := Aside0.mk ((by rw [hg]; exact (below_size (by repeat (first | (with_reducible first | exact HB.out | apply below_alloc | apply pw_below_drewN | apply below_drew1) | exact HB.out))) : w.heap.size ≤ gb126)); clear HB; have HB := n0_; have BK126 := n1_; have GW126 := n2_; have GE126 := n3_; clear n0_ n1_ n2_ n3_; clear hb hbox hg; have hcz4_0 : w3.cell? ⟨gb126, 0, none⟩ = some (.int .i64 a0_0) := (blk_cell BK126.out 0).trans rfl; have hcz4_1 : w3.cell? ⟨gb126, 1, none⟩ = some (.int .i64 a0_1) := (blk_cell BK126.out 1).trans rfl; have hcz4_2 : w3.cell? ⟨gb126, 2, none⟩ = some (.int .i64 a0_2) := (blk_cell BK126.out 2).trans rfl; have hcz4_3 : w3.cell? ⟨gb126, 3, none⟩ = some (.int .i64 a0_3) := (blk_cell BK126.out 3).trans rfl; have hcz4_4 : w3.cell? ⟨gb126, 4, none⟩ = some (.int .i64 a0_4) := (blk_cell BK126.out 4).trans rfl; have hcz4_5 : w3.cell? ⟨gb126, 5, none⟩ = some (.int .i64 a0_5) := (blk_cell BK126.out 5).trans rfl; have hcz4_6 : w3.cell? ⟨gb126, 6, none⟩ = some (.bool a0_6) := (blk_cell BK126.out 6).trans rfl; have hfz4_0 := blk_frozen BK126.out 0; have hfz4_1 := blk_frozen BK126.out 1; have hfz4_2 := blk_frozen BK126.out 2; have hfz4_3 := blk_frozen BK126.out 3; have hfz4_4 := blk_frozen BK126.out 4; have hfz4_5 := blk_frozen BK126.out 5; have hfz4_6 := blk_frozen BK126.out 6))
    go_ret
    exact ⟨by first | rfl | (simp [errW_none, errW_some] <;> rfl) | (simp [*, errW_none, errW_some] <;> rfl), by repeat (first | (with_reducible first | exact HB.out | apply below_alloc | apply pw_below_drewN | apply below_drew1 | refine below_set ?_ GE126.out) | exact HB.out)⟩
  · rw [if_neg c2] at H
    have c2b0 : ((a0_5 == 2) == a0_6) = false := by simpa using c2
    (try (have c2b1 : decide ((a0_5 == 2) = a0_6) = false := by simpa using c2))
    (try (have c2b2 : ((a0_5 == 2) == a0_6) = false := by simpa using c2))
    (try (have c2b3 : ¬ ((a0_5 == 2) = a0_6) := by simpa using c2))
    clear c2
    obtain rfl := Option.some.inj H
    go_enter Tryd.func69, Tryd.ntmps69
    go_wp2_with (first | ((with_reducible refine gate_dst (N := 1) rfl ?_); refine box_event ?hg (N := 1) ?hd (cs := #[.int .i64 a0_0, .int .i64 a0_1, .int .i64 a0_2, .int .i64 a0_3, .int .i64 a0_4, .int .i64 a0_5, .bool a0_6]) (t := 27) ?hr ?_; (case hd => rfl); (case hg => rfl); (case hr => first | (go_simp; done) | (go_simp; rfl)); intro gb126 hg w5 hbox hb; have n0_ := Aside0.mk (below_step (by repeat (first | (with_reducible first | exact HB.out | apply below_alloc | apply pw_below_drewN | apply below_drew1) | exact HB.out)) hb); have n1_ := Aside0.mk (hbox); have n2_ := Aside0.mk ((by rw [hg]; exact (below_size (by repeat (first | (with_reducible first | exact HB.out | apply below_alloc | apply pw_below_drewN | apply below_drew1) | exact HB.out))) : w.heap.size ≤ gb126)); have n3_ := Aside0.mk ((by rw [hg]; exact (below_size (by repeat (first | (with_reducible first | exact HB.out | apply below_alloc | apply pw_below_drewN | apply below_drew1) | exact HB.out))) : w.heap.size ≤ gb126)); clear HB; have HB := n0_; have BK126 := n1_; have GW126 := n2_; have GE126 := n3_; clear n0_ n1_ n2_ n3_; clear hb hbox hg; have hcz6_0 : w5.cell? ⟨gb126, 0, none⟩ = some (.int .i64 a0_0) := (blk_cell BK126.out 0).trans rfl; have hcz6_1 : w5.cell? ⟨gb126, 1, none⟩ = some (.int .i64 a0_1) := (blk_cell BK126.out 1).trans rfl; have hcz6_2 : w5.cell? ⟨gb126, 2, none⟩ = some (.int .i64 a0_2) := (blk_cell BK126.out 2).trans rfl; have hcz6_3 : w5.cell? ⟨gb126, 3, none⟩ = some (.int .i64 a0_3) := (blk_cell BK126.out 3).trans rfl; have hcz6_4 : w5.cell? ⟨gb126, 4, none⟩ = some (.int .i64 a0_4) := (blk_cell BK126.out 4).trans rfl; have hcz6_5 : w5.cell? ⟨gb126, 5, none⟩ = some (.int .i64 a0_5) := (blk_cell BK126.out 5).trans rfl; have hcz6_6 : w5.cell? ⟨gb126, 6, none⟩ = some (.bool a0_6) := (blk_cell BK126.out 6).trans rfl; have hfz6_0 := blk_frozen BK126.out 0; have hfz6_1 := blk_frozen BK126.out 1; have hfz6_2 := blk_frozen BK126.out 2; have hfz6_3 := blk_frozen BK126.out 3; have hfz6_4 := blk_frozen BK126.out 4; have hfz6_5 := blk_frozen BK126.out 5; have hfz6_6 := blk_frozen BK126.out 6))
    go_ret
    exact ⟨by first | rfl | (simp [errW_none, errW_some] <;> rfl) | (simp [*, errW_none, errW_some] <;> rfl), by repeat (first | (with_reducible first | exact HB.out | apply below_alloc | apply pw_below_drewN | apply below_drew1 | refine below_set ?_ GE126.out) | exact HB.out)⟩

end Go.Proofs.YtjemaonejkepcaaDoor.B
