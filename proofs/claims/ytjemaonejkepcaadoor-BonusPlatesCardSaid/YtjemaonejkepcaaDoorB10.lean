/- Contracts of the Go functions that a law reaches, written by a program of ours over the kit's printer; not trusted: Lean checks them. -/
import Derived.Test.YtjemaonejkepcaaDoorB0
import Derived.Test.YtjemaonejkepcaaDoorB1
import Derived.Test.YtjemaonejkepcaaDoorB8
namespace Go.Proofs.YtjemaonejkepcaaDoor.B
open Go.RowKit Go.Proofs.YtjemaonejkepcaaDoorW.PrintWords Go.Proofs.YtjemaonejkepcaaDoorW.PrintLast Go.Proofs.YtjemaonejkepcaaDoorW.PrintMore
attribute [local go_sem] max2_int min2_int max_two min_two max_three min_three max_four min_four   -- for this text's walks alone
set_option linter.unusedVariables false
set_option linter.unusedSimpArgs false

/-! ### bonus_ring: function 100 -/
def bonus_ring.f (a0_0 : Int) (a0_1 : Int) (a0_2 : Int) : Option (Int) := (bonus_in.f a0_0).bind fun t166 => (if t166 = true then ((bonus_in.f a0_1).bind fun t167 => (if t167 = true then ((bonus_size.f a0_2).bind fun t168 => (if t168 = true then (some 0) else (some 2))) else (some 2))) else (some 2))
set_option maxHeartbeats 8000000 in
set_option maxRecDepth 100000 in
theorem bonus_ring.calls (a0_0 : Int) (a0_1 : Int) (a0_2 : Int) (r : Int) (w : World) (h : bonus_ring.f a0_0 a0_1 a0_2 = some r) :
    Calls Tryd.prog 100 #[.agg #[.int .i64 a0_0, .int .i64 a0_1, .int .i64 a0_2]] w fun e w' => e = .returned (.int .i64 r) ∧ Below w.heap.size w w' := by
  have hu68 := Tryd.underlying68
  have HB := Aside0.mk (Below.refl w.heap.size w)
  have H : ((bonus_in.f a0_0).bind fun t166 => (if t166 = true then ((bonus_in.f a0_1).bind fun t167 => (if t167 = true then ((bonus_size.f a0_2).bind fun t168 => (if t168 = true then (some 0) else (some 2))) else (some 2))) else (some 2))) = some r := h
  clear h
  replace H := Option.bind_eq_some_iff.mp H
  obtain ⟨t166, A20, H⟩ := H
  replace H : (if t166 = true then ((bonus_in.f a0_1).bind fun t167 => (if t167 = true then ((bonus_size.f a0_2).bind fun t168 => (if t168 = true then (some 0) else (some 2))) else (some 2))) else (some 2)) = some r := H
  have A2 := Aside0.mk A20
  clear A20
  by_cases c3 : t166 = true
  · subst c3
    have H1 : ((bonus_in.f a0_1).bind fun t167 => (if t167 = true then ((bonus_size.f a0_2).bind fun t168 => (if t168 = true then (some 0) else (some 2))) else (some 2))) = some r := by rw [if_pos rfl] at H; exact H
    clear H
    have H := H1
    clear H1
    replace H := Option.bind_eq_some_iff.mp H
    obtain ⟨t167, A40, H⟩ := H
    replace H : (if t167 = true then ((bonus_size.f a0_2).bind fun t168 => (if t168 = true then (some 0) else (some 2))) else (some 2)) = some r := H
    have A4 := Aside0.mk A40
    clear A40
    by_cases c5 : t167 = true
    · subst c5
      have H1 : ((bonus_size.f a0_2).bind fun t168 => (if t168 = true then (some 0) else (some 2))) = some r := by rw [if_pos rfl] at H; exact H
      clear H
      have H := H1
      clear H1
      replace H := Option.bind_eq_some_iff.mp H
      obtain ⟨t168, A60, H⟩ := H
      replace H : (if t168 = true then (some 0) else (some 2)) = some r := H
      have A6 := Aside0.mk A60
      clear A60
      by_cases c7 : t168 = true
      · subst c7
        have H1 : (some 0) = some r := by rw [if_pos rfl] at H; exact H
        clear H
        have H := H1
        clear H1
        obtain rfl := Option.some.inj H
        go_enter Tryd.func100, Tryd.ntmps100
        go_wp2_with (first | ((with_reducible refine gate_dst (N := 1) rfl ?_); refine box_event ?hg (N := 1) ?hd (cs := #[.int .i64 a0_0, .int .i64 a0_1, .int .i64 a0_2]) (t := 68) ?hr ?_; (case hd => rfl); (case hg => rfl); (case hr => first | (go_simp; done) | (go_simp; rfl)); intro gb165 hg w8 hbox hb; have n0_ := Aside0.mk (below_step (by repeat (first | (with_reducible first | exact HB.out | apply below_alloc | apply pw_below_drewN | apply below_drew1) | exact HB.out)) hb); have n1_ := Aside0.mk (hbox); have n2_ := Aside0.mk ((by rw [hg]; exact (below_size (by repeat (first | (with_reducible first | exact HB.out | apply below_alloc | apply pw_below_drewN | apply below_drew1) | exact HB.out))) : w.heap.size ≤ gb165)); have n3_ := Aside0.mk ((by rw [hg]; exact (below_size (by repeat (first | (with_reducible first | exact HB.out | apply below_alloc | apply pw_below_drewN | apply below_drew1) | exact HB.out))) : w.heap.size ≤ gb165)); clear HB; have HB := n0_; have BK165 := n1_; have GW165 := n2_; have GE165 := n3_; clear n0_ n1_ n2_ n3_; clear hb hbox hg; have hcz9_0 : w8.cell? ⟨gb165, 0, none⟩ = some (.int .i64 a0_0) := (blk_cell BK165.out 0).trans rfl; have hcz9_1 : w8.cell? ⟨gb165, 1, none⟩ = some (.int .i64 a0_1) := (blk_cell BK165.out 1).trans rfl; have hcz9_2 : w8.cell? ⟨gb165, 2, none⟩ = some (.int .i64 a0_2) := (blk_cell BK165.out 2).trans rfl; have hfz9_0 := blk_frozen BK165.out 0; have hfz9_1 := blk_frozen BK165.out 1; have hfz9_2 := blk_frozen BK165.out 2) | ((with_reducible refine gate_callee (f := 71) rfl ?_); refine goesL_ (some 6) rfl rfl Tryd.func71 (by kernel_rfl) rfl #[.int .i64 a0_0] rfl (by (try simp only [List.map_toArray, List.map_cons, List.map_nil]); first | done | rfl | (simp only [List.length_drop, List.length_take]; rfl)) ?_; (with_reducible refine (bonus_in.calls a0_0 true _ A2.out).mono ?_); rintro e w' ⟨rfl, ⟨nd, rfl⟩⟩; refine ⟨_, rfl, ?_⟩) | (go_at_call 71; (with_reducible refine (bonus_in.calls a0_1 true _ A4.out).mono ?_); rintro e w' ⟨rfl, ⟨nd, rfl⟩⟩) | (go_at_call 72; (with_reducible refine (bonus_size.calls a0_2 true _ A6.out).mono ?_); rintro e w' ⟨rfl, ⟨nd, rfl⟩⟩))
        go_ret
        exact ⟨by first | rfl | (simp [errW_none, errW_some] <;> rfl) | (simp [*, errW_none, errW_some] <;> rfl), by repeat (first | (with_reducible first | exact HB.out | apply below_alloc | apply pw_below_drewN | apply below_drew1 | refine below_set ?_ GE165.out) | exact HB.out)⟩
      · replace c7 := Bool.eq_false_iff.mpr c7
        subst c7
        have H1 : (some 2) = some r := by rw [if_neg (show ¬ (false = true) by decide)] at H; exact H
        clear H
        have H := H1
        clear H1
        obtain rfl := Option.some.inj H
        go_enter Tryd.func100, Tryd.ntmps100
        go_wp2_with (first | ((with_reducible refine gate_dst (N := 1) rfl ?_); refine box_event ?hg (N := 1) ?hd (cs := #[.int .i64 a0_0, .int .i64 a0_1, .int .i64 a0_2]) (t := 68) ?hr ?_; (case hd => rfl); (case hg => rfl); (case hr => first | (go_simp; done) | (go_simp; rfl)); intro gb165 hg w10 hbox hb; have n0_ := Aside0.mk (below_step (by repeat (first | (with_reducible first | exact HB.out | apply below_alloc | apply pw_below_drewN | apply below_drew1) | exact HB.out)) hb); have n1_ := Aside0.mk (hbox); have n2_ := Aside0.mk ((by rw [hg]; exact (below_size (by repeat (first | (with_reducible first | exact HB.out | apply below_alloc | apply pw_below_drewN | apply below_drew1) | exact HB.out))) : w.heap.size ≤ gb165)); have n3_ := Aside0.mk ((by rw [hg]; exact (below_size (by repeat (first | (with_reducible first | exact HB.out | apply below_alloc | apply pw_below_drewN | apply below_drew1) | exact HB.out))) : w.heap.size ≤ gb165)); clear HB; have HB := n0_; have BK165 := n1_; have GW165 := n2_; have GE165 := n3_; clear n0_ n1_ n2_ n3_; clear hb hbox hg; have hcz11_0 : w10.cell? ⟨gb165, 0, none⟩ = some (.int .i64 a0_0) := (blk_cell BK165.out 0).trans rfl; have hcz11_1 : w10.cell? ⟨gb165, 1, none⟩ = some (.int .i64 a0_1) := (blk_cell BK165.out 1).trans rfl; have hcz11_2 : w10.cell? ⟨gb165, 2, none⟩ = some (.int .i64 a0_2) := (blk_cell BK165.out 2).trans rfl; have hfz11_0 := blk_frozen BK165.out 0; have hfz11_1 := blk_frozen BK165.out 1; have hfz11_2 := blk_frozen BK165.out 2) | ((with_reducible refine gate_callee (f := 71) rfl ?_); refine goesL_ (some 6) rfl rfl Tryd.func71 (by kernel_rfl) rfl #[.int .i64 a0_0] rfl (by (try simp only [List.map_toArray, List.map_cons, List.map_nil]); first | done | rfl | (simp only [List.length_drop, List.length_take]; rfl)) ?_; (with_reducible refine (bonus_in.calls a0_0 true _ A2.out).mono ?_); rintro e w' ⟨rfl, ⟨nd, rfl⟩⟩; refine ⟨_, rfl, ?_⟩) | (go_at_call 71; (with_reducible refine (bonus_in.calls a0_1 true _ A4.out).mono ?_); rintro e w' ⟨rfl, ⟨nd, rfl⟩⟩) | (go_at_call 72; (with_reducible refine (bonus_size.calls a0_2 false _ A6.out).mono ?_); rintro e w' ⟨rfl, ⟨nd, rfl⟩⟩))
        go_ret
        exact ⟨by first | rfl | (simp [errW_none, errW_some] <;> rfl) | (simp [*, errW_none, errW_some] <;> rfl), by repeat (first | (with_reducible first | exact HB.out | apply below_alloc | apply pw_below_drewN | apply below_drew1 | refine below_set ?_ GE165.out) | exact HB.out)⟩
    · replace c5 := Bool.eq_false_iff.mpr c5
      subst c5
      have H1 : (some 2) = some r := by rw [if_neg (show ¬ (false = true) by decide)] at H; exact H
      clear H
      have H := H1
      clear H1
      obtain rfl := Option.some.inj H
      go_enter Tryd.func100, Tryd.ntmps100
      go_wp2_with (first | ((with_reducible refine gate_dst (N := 1) rfl ?_); refine box_event ?hg (N := 1) ?hd (cs := #[.int .i64 a0_0, .int .i64 a0_1, .int .i64 a0_2]) (t := 68) ?hr ?_; (case hd => rfl); (case hg => rfl); (case hr => first | (go_simp; done) | (go_simp; rfl)); intro gb165 hg w12 hbox hb; have n0_ := Aside0.mk (below_step (by repeat (first | (with_reducible first | exact HB.out | apply below_alloc | apply pw_below_drewN | apply below_drew1) | exact HB.out)) hb); have n1_ := Aside0.mk (hbox); have n2_ := Aside0.mk ((by rw [hg]; exact (below_size (by repeat (first | (with_reducible first | exact HB.out | apply below_alloc | apply pw_below_drewN | apply below_drew1) | exact HB.out))) : w.heap.size ≤ gb165)); have n3_ := Aside0.mk ((by rw [hg]; exact (below_size (by repeat (first | (with_reducible first | exact HB.out | apply below_alloc | apply pw_below_drewN | apply below_drew1) | exact HB.out))) : w.heap.size ≤ gb165)); clear HB; have HB := n0_; have BK165 := n1_; have GW165 := n2_; have GE165 := n3_; clear n0_ n1_ n2_ n3_; clear hb hbox hg; have hcz13_0 : w12.cell? ⟨gb165, 0, none⟩ = some (.int .i64 a0_0) := (blk_cell BK165.out 0).trans rfl; have hcz13_1 : w12.cell? ⟨gb165, 1, none⟩ = some (.int .i64 a0_1) := (blk_cell BK165.out 1).trans rfl; have hcz13_2 : w12.cell? ⟨gb165, 2, none⟩ = some (.int .i64 a0_2) := (blk_cell BK165.out 2).trans rfl; have hfz13_0 := blk_frozen BK165.out 0; have hfz13_1 := blk_frozen BK165.out 1; have hfz13_2 := blk_frozen BK165.out 2) | ((with_reducible refine gate_callee (f := 71) rfl ?_); refine goesL_ (some 6) rfl rfl Tryd.func71 (by kernel_rfl) rfl #[.int .i64 a0_0] rfl (by (try simp only [List.map_toArray, List.map_cons, List.map_nil]); first | done | rfl | (simp only [List.length_drop, List.length_take]; rfl)) ?_; (with_reducible refine (bonus_in.calls a0_0 true _ A2.out).mono ?_); rintro e w' ⟨rfl, ⟨nd, rfl⟩⟩; refine ⟨_, rfl, ?_⟩) | (go_at_call 71; (with_reducible refine (bonus_in.calls a0_1 false _ A4.out).mono ?_); rintro e w' ⟨rfl, ⟨nd, rfl⟩⟩))
      go_ret
      exact ⟨by first | rfl | (simp [errW_none, errW_some] <;> rfl) | (simp [*, errW_none, errW_some] <;> rfl), by repeat (first | (with_reducible first | exact HB.out | apply below_alloc | apply pw_below_drewN | apply below_drew1 | refine below_set ?_ GE165.out) | exact HB.out)⟩
  · replace c3 := Bool.eq_false_iff.mpr c3
    subst c3
    have H1 : (some 2) = some r := by rw [if_neg (show ¬ (false = true) by decide)] at H; exact H
    clear H
    have H := H1
    clear H1
    obtain rfl := Option.some.inj H
    go_enter Tryd.func100, Tryd.ntmps100
    go_wp2_with (first | ((with_reducible refine gate_dst (N := 1) rfl ?_); refine box_event ?hg (N := 1) ?hd (cs := #[.int .i64 a0_0, .int .i64 a0_1, .int .i64 a0_2]) (t := 68) ?hr ?_; (case hd => rfl); (case hg => rfl); (case hr => first | (go_simp; done) | (go_simp; rfl)); intro gb165 hg w14 hbox hb; have n0_ := Aside0.mk (below_step (by repeat (first | (with_reducible first | exact HB.out | apply below_alloc | apply pw_below_drewN | apply below_drew1) | exact HB.out)) hb); have n1_ := Aside0.mk (hbox); have n2_ := Aside0.mk ((by rw [hg]; exact (below_size (by repeat (first | (with_reducible first | exact HB.out | apply below_alloc | apply pw_below_drewN | apply below_drew1) | exact HB.out))) : w.heap.size ≤ gb165)); have n3_ := Aside0.mk ((by rw [hg]; exact (below_size (by repeat (first | (with_reducible first | exact HB.out | apply below_alloc | apply pw_below_drewN | apply below_drew1) | exact HB.out))) : w.heap.size ≤ gb165)); clear HB; have HB := n0_; have BK165 := n1_; have GW165 := n2_; have GE165 := n3_; clear n0_ n1_ n2_ n3_; clear hb hbox hg; have hcz15_0 : w14.cell? ⟨gb165, 0, none⟩ = some (.int .i64 a0_0) := (blk_cell BK165.out 0).trans rfl; have hcz15_1 : w14.cell? ⟨gb165, 1, none⟩ = some (.int .i64 a0_1) := (blk_cell BK165.out 1).trans rfl; have hcz15_2 : w14.cell? ⟨gb165, 2, none⟩ = some (.int .i64 a0_2) := (blk_cell BK165.out 2).trans rfl; have hfz15_0 := blk_frozen BK165.out 0; have hfz15_1 := blk_frozen BK165.out 1; have hfz15_2 := blk_frozen BK165.out 2) | ((with_reducible refine gate_callee (f := 71) rfl ?_); refine goesL_ (some 6) rfl rfl Tryd.func71 (by kernel_rfl) rfl #[.int .i64 a0_0] rfl (by (try simp only [List.map_toArray, List.map_cons, List.map_nil]); first | done | rfl | (simp only [List.length_drop, List.length_take]; rfl)) ?_; (with_reducible refine (bonus_in.calls a0_0 false _ A2.out).mono ?_); rintro e w' ⟨rfl, ⟨nd, rfl⟩⟩; refine ⟨_, rfl, ?_⟩))
    go_ret
    exact ⟨by first | rfl | (simp [errW_none, errW_some] <;> rfl) | (simp [*, errW_none, errW_some] <;> rfl), by repeat (first | (with_reducible first | exact HB.out | apply below_alloc | apply pw_below_drewN | apply below_drew1 | refine below_set ?_ GE165.out) | exact HB.out)⟩

/-! ### bonus_both: function 93 -/
def bonus_both.f (k : Nat) (a0_0 : Int) (a0_1 : Int) (a0_2 : Int) (a0_3 : Int) (a0_4 : Int) (a0_5 : Int) (a0_6 : Bool) (a1_0 : Int) (a1_1 : Int) (a1_2 : Int) : Option (Int) := (bonus_Check.f k a0_0 a0_1 a0_2 a0_3 a0_4 a0_5 a0_6).bind fun t171 => (if t171 = 0 then ((bonus_ring.f a1_0 a1_1 a1_2).bind fun t172 => (some t172)) else (some t171))
theorem bonus_both.mono : ∀ a0 a1 a2 a3 a4 a5 a6 a7 a8 a9 k, LeO (bonus_both.f k a0 a1 a2 a3 a4 a5 a6 a7 a8 a9) (bonus_both.f (k + 1) a0 a1 a2 a3 a4 a5 a6 a7 a8 a9) := by
  intro a0 a1 a2 a3 a4 a5 a6 a7 a8 a9 k
  unfold bonus_both.f
  repeat' first
      | (with_reducible exact bonus_Check.mono _ _ _ _ _ _ _ _)
      | (with_reducible exact LeO.refl _)
      | (with_reducible exact LeO.none _)
      | (with_reducible refine LeO.ite ?_ ?_)
      | (with_reducible refine LeO.bind ?_ (fun _ => ?_))
      | exact bonus_Check.mono _ _ _ _ _ _ _ _
      | exact LeO.none _
      | refine LeO.ite ?_ ?_
      | refine LeO.bind ?_ (fun _ => ?_)
set_option maxHeartbeats 8000000 in
set_option maxRecDepth 100000 in
theorem bonus_both.calls (k : Nat) (a0_0 : Int) (a0_1 : Int) (a0_2 : Int) (a0_3 : Int) (a0_4 : Int) (a0_5 : Int) (a0_6 : Bool) (a1_0 : Int) (a1_1 : Int) (a1_2 : Int) (r : Int) (w : World) (h : bonus_both.f k a0_0 a0_1 a0_2 a0_3 a0_4 a0_5 a0_6 a1_0 a1_1 a1_2 = some r) :
    Calls Tryd.prog 93 #[.agg #[.int .i64 a0_0, .int .i64 a0_1, .int .i64 a0_2, .int .i64 a0_3, .int .i64 a0_4, .int .i64 a0_5, .bool a0_6], .agg #[.int .i64 a1_0, .int .i64 a1_1, .int .i64 a1_2]] w fun e w' => e = .returned (.int .i64 r) ∧ Below w.heap.size w w' := by
  have hu27 := Tryd.underlying27
  have hu68 := Tryd.underlying68
  have HB := Aside0.mk (Below.refl w.heap.size w)
  have H : ((bonus_Check.f k a0_0 a0_1 a0_2 a0_3 a0_4 a0_5 a0_6).bind fun t171 => (if t171 = 0 then ((bonus_ring.f a1_0 a1_1 a1_2).bind fun t172 => (some t172)) else (some t171))) = some r := h
  clear h
  replace H := Option.bind_eq_some_iff.mp H
  obtain ⟨t171, A30, H⟩ := H
  replace H : (if t171 = 0 then ((bonus_ring.f a1_0 a1_1 a1_2).bind fun t172 => (some t172)) else (some t171)) = some r := H
  have A3 := Aside0.mk A30
  clear A30
  by_cases c4 : t171 = 0
  · rw [if_pos c4] at H
    have c4b0 : (t171 == 0) = true := beq_iff_eq.mpr c4
    have c4b1 : (t171 != 0) = false := bne_eq_false_iff_eq.mpr c4
    clear c4
    replace H := Option.bind_eq_some_iff.mp H
    obtain ⟨t172, A50, H⟩ := H
    replace H : (some t172) = some r := H
    have A5 := Aside0.mk A50
    clear A50
    obtain rfl := Option.some.inj H
    go_enter Tryd.func93, Tryd.ntmps93
    go_wp2_with (first | ((with_reducible refine gate_dst (N := 2) rfl ?_); refine box_event ?hg (N := 2) ?hd (cs := #[.int .i64 a0_0, .int .i64 a0_1, .int .i64 a0_2, .int .i64 a0_3, .int .i64 a0_4, .int .i64 a0_5, .bool a0_6]) (t := 27) ?hr ?_; (case hd => rfl); (case hg => rfl); (case hr => first | (go_simp; done) | (go_simp; rfl)); intro gb169 hg w6 hbox hb; have n0_ := Aside0.mk (below_step (by repeat (first | (with_reducible first | exact HB.out | apply below_alloc | apply pw_below_drewN | apply below_drew1) | exact HB.out)) hb); have n1_ := Aside0.mk (hbox); have n2_ := Aside0.mk ((by rw [hg]; exact (below_size (by repeat (first | (with_reducible first | exact HB.out | apply below_alloc | apply pw_below_drewN | apply below_drew1) | exact HB.out))) : w.heap.size ≤ gb169)); have n3_ := Aside0.mk ((by rw [hg]; exact (below_size (by repeat (first | (with_reducible first | exact HB.out | apply below_alloc | apply pw_below_drewN | apply below_drew1) | exact HB.out))) : w.heap.size ≤ gb169)); clear HB; have HB := n0_; have BK169 := n1_; have GW169 := n2_; have GE169 := n3_; clear n0_ n1_ n2_ n3_; clear hb hbox hg) | ((with_reducible refine gate_dst (N := 3) rfl ?_); refine box_event ?hg (N := 3) ?hd (cs := #[.int .i64 a1_0, .int .i64 a1_1, .int .i64 a1_2]) (t := 68) ?hr ?_; (case hd => rfl); (case hg => rfl); (case hr => first | (go_simp; done) | (go_simp; rfl)); intro gb170 hg w7 hbox hb; have n0_ := Aside0.mk (blk_below (g := gb169) (o := .cells #[.int .i64 a0_0, .int .i64 a0_1, .int .i64 a0_2, .int .i64 a0_3, .int .i64 a0_4, .int .i64 a0_5, .bool a0_6] 27 (0, 0)) (by (with_reducible repeat (first | refine blk_drewN ?_ _ | refine blk_drew ?_ | refine blk_alloc ?_ _)); exact BK169.out) hb); have n1_ := Aside0.mk (below_step (by repeat (first | (with_reducible first | exact HB.out | apply below_alloc | apply pw_below_drewN | apply below_drew1 | refine below_set ?_ GE169.out) | exact HB.out)) hb); have n2_ := Aside0.mk (hbox); have n3_ := Aside0.mk ((by rw [hg]; exact (below_size (by repeat (first | (with_reducible first | exact HB.out | apply below_alloc | apply pw_below_drewN | apply below_drew1 | refine below_set ?_ GE169.out) | exact HB.out))) : w.heap.size ≤ gb170)); have n4_ := Aside0.mk ((by rw [hg]; exact (below_size (by repeat (first | (with_reducible first | exact HB.out | apply below_alloc | apply pw_below_drewN | apply below_drew1 | refine below_set ?_ GE169.out) | exact HB.out))) : w.heap.size ≤ gb170)); have n5_ := Aside0.mk ((by rw [hg]; exact Nat.ne_of_lt (blk_lt (g := gb169) (o := .cells #[.int .i64 a0_0, .int .i64 a0_1, .int .i64 a0_2, .int .i64 a0_3, .int .i64 a0_4, .int .i64 a0_5, .bool a0_6] 27 (0, 0)) (by (with_reducible repeat (first | refine blk_drewN ?_ _ | refine blk_drew ?_ | refine blk_alloc ?_ _)); exact BK169.out)) : gb169 ≠ gb170)); have n6_ := Aside0.mk ((by rw [hg]; exact Nat.ne_of_gt (blk_lt (g := gb169) (o := .cells #[.int .i64 a0_0, .int .i64 a0_1, .int .i64 a0_2, .int .i64 a0_3, .int .i64 a0_4, .int .i64 a0_5, .bool a0_6] 27 (0, 0)) (by (with_reducible repeat (first | refine blk_drewN ?_ _ | refine blk_drew ?_ | refine blk_alloc ?_ _)); exact BK169.out)) : gb170 ≠ gb169)); clear BK169; clear HB; have BK169 := n0_; have HB := n1_; have BK170 := n2_; have GW170 := n3_; have GE170 := n4_; have NB169_170 := n5_; have NB170_169 := n6_; clear n0_ n1_ n2_ n3_ n4_ n5_ n6_; clear hb hbox hg; have hnb8 := NB169_170.out; have hnc8 := NB170_169.out; have hcz9_0 : w7.cell? ⟨gb169, 0, none⟩ = some (.int .i64 a0_0) := (blk_cell BK169.out 0).trans rfl; have hcz9_1 : w7.cell? ⟨gb169, 1, none⟩ = some (.int .i64 a0_1) := (blk_cell BK169.out 1).trans rfl; have hcz9_2 : w7.cell? ⟨gb169, 2, none⟩ = some (.int .i64 a0_2) := (blk_cell BK169.out 2).trans rfl; have hcz9_3 : w7.cell? ⟨gb169, 3, none⟩ = some (.int .i64 a0_3) := (blk_cell BK169.out 3).trans rfl; have hcz9_4 : w7.cell? ⟨gb169, 4, none⟩ = some (.int .i64 a0_4) := (blk_cell BK169.out 4).trans rfl; have hcz9_5 : w7.cell? ⟨gb169, 5, none⟩ = some (.int .i64 a0_5) := (blk_cell BK169.out 5).trans rfl; have hcz9_6 : w7.cell? ⟨gb169, 6, none⟩ = some (.bool a0_6) := (blk_cell BK169.out 6).trans rfl; have hfz9_0 := blk_frozen BK169.out 0; have hfz9_1 := blk_frozen BK169.out 1; have hfz9_2 := blk_frozen BK169.out 2; have hfz9_3 := blk_frozen BK169.out 3; have hfz9_4 := blk_frozen BK169.out 4; have hfz9_5 := blk_frozen BK169.out 5; have hfz9_6 := blk_frozen BK169.out 6) | ((with_reducible refine gate_callee (f := 22) rfl ?_); refine goesL_ (some 7) rfl rfl Tryd.func22 (by kernel_rfl) rfl #[.agg #[.int .i64 a0_0, .int .i64 a0_1, .int .i64 a0_2, .int .i64 a0_3, .int .i64 a0_4, .int .i64 a0_5, .bool a0_6]] rfl (by (try simp only [List.map_toArray, List.map_cons, List.map_nil]); first | done | rfl | (simp only [List.length_drop, List.length_take]; rfl)) ?_; (with_reducible refine (bonus_Check.calls k a0_0 a0_1 a0_2 a0_3 a0_4 a0_5 a0_6 t171 _ A3.out).mono ?_); rintro e w10 ⟨rfl, hb⟩; refine ⟨_, rfl, ?_⟩; have n0_ := Aside0.mk (blk_below (g := gb169) (o := .cells #[.int .i64 a0_0, .int .i64 a0_1, .int .i64 a0_2, .int .i64 a0_3, .int .i64 a0_4, .int .i64 a0_5, .bool a0_6] 27 (0, 0)) (by (with_reducible repeat (first | refine blk_drewN ?_ _ | refine blk_drew ?_ | refine blk_alloc ?_ _)); exact BK169.out) hb); have n1_ := Aside0.mk (blk_below (g := gb170) (o := .cells #[.int .i64 a1_0, .int .i64 a1_1, .int .i64 a1_2] 68 (0, 0)) (by (with_reducible repeat (first | refine blk_drewN ?_ _ | refine blk_drew ?_ | refine blk_alloc ?_ _)); exact BK170.out) hb); have n2_ := Aside0.mk (below_step (by repeat (first | (with_reducible first | exact HB.out | apply below_alloc | apply pw_below_drewN | apply below_drew1 | refine below_set ?_ GE169.out | refine below_set ?_ GE170.out) | exact HB.out)) hb); clear BK169; clear BK170; clear HB; have BK169 := n0_; have BK170 := n1_; have HB := n2_; clear n0_ n1_ n2_; (try clear hb); (try clear hb2); (try clear hk); (try clear hi); have hcz11_0 : w10.cell? ⟨gb170, 0, none⟩ = some (.int .i64 a1_0) := (blk_cell BK170.out 0).trans rfl; have hcz11_1 : w10.cell? ⟨gb170, 1, none⟩ = some (.int .i64 a1_1) := (blk_cell BK170.out 1).trans rfl; have hcz11_2 : w10.cell? ⟨gb170, 2, none⟩ = some (.int .i64 a1_2) := (blk_cell BK170.out 2).trans rfl; have hfz11_0 := blk_frozen BK170.out 0; have hfz11_1 := blk_frozen BK170.out 1; have hfz11_2 := blk_frozen BK170.out 2) | ((with_reducible refine gate_callee (f := 100) rfl ?_); refine goesL_ (some 12) rfl rfl Tryd.func100 (by kernel_rfl) rfl #[.agg #[.int .i64 a1_0, .int .i64 a1_1, .int .i64 a1_2]] rfl (by (try simp only [List.map_toArray, List.map_cons, List.map_nil]); first | done | rfl | (simp only [List.length_drop, List.length_take]; rfl)) ?_; (with_reducible refine (bonus_ring.calls a1_0 a1_1 a1_2 t172 _ A5.out).mono ?_); rintro e w12 ⟨rfl, hb⟩; refine ⟨_, rfl, ?_⟩; have n0_ := Aside0.mk (blk_below (g := gb169) (o := .cells #[.int .i64 a0_0, .int .i64 a0_1, .int .i64 a0_2, .int .i64 a0_3, .int .i64 a0_4, .int .i64 a0_5, .bool a0_6] 27 (0, 0)) (by (with_reducible repeat (first | refine blk_drewN ?_ _ | refine blk_drew ?_ | refine blk_alloc ?_ _)); exact BK169.out) hb); have n1_ := Aside0.mk (blk_below (g := gb170) (o := .cells #[.int .i64 a1_0, .int .i64 a1_1, .int .i64 a1_2] 68 (0, 0)) (by (with_reducible repeat (first | refine blk_drewN ?_ _ | refine blk_drew ?_ | refine blk_alloc ?_ _)); exact BK170.out) hb); have n2_ := Aside0.mk (below_step (by repeat (first | (with_reducible first | exact HB.out | apply below_alloc | apply pw_below_drewN | apply below_drew1 | refine below_set ?_ GE169.out | refine below_set ?_ GE170.out) | exact HB.out)) hb); clear BK169; clear BK170; clear HB; have BK169 := n0_; have BK170 := n1_; have HB := n2_; clear n0_ n1_ n2_; (try clear hb); (try clear hb2); (try clear hk); (try clear hi)))
    go_ret
    exact ⟨by first | rfl | (simp [errW_none, errW_some] <;> rfl) | (simp [*, errW_none, errW_some] <;> rfl), by repeat (first | (with_reducible first | exact HB.out | apply below_alloc | apply pw_below_drewN | apply below_drew1 | refine below_set ?_ GE169.out | refine below_set ?_ GE170.out) | exact HB.out)⟩
  · rw [if_neg c4] at H
    have c4b0 : (t171 == 0) = false := beq_eq_false_iff_ne.mpr c4
    have c4b1 : (t171 != 0) = true := bne_iff_ne.mpr c4
    obtain rfl := Option.some.inj H
    go_enter Tryd.func93, Tryd.ntmps93
    go_wp2_with (first | ((with_reducible refine gate_dst (N := 2) rfl ?_); refine box_event ?hg (N := 2) ?hd (cs := #[.int .i64 a0_0, .int .i64 a0_1, .int .i64 a0_2, .int .i64 a0_3, .int .i64 a0_4, .int .i64 a0_5, .bool a0_6]) (t := 27) ?hr ?_; (case hd => rfl); (case hg => rfl); (case hr => first | (go_simp; done) | (go_simp; rfl)); intro gb169 hg w13 hbox hb; have n0_ := Aside0.mk (below_step (by repeat (first | (with_reducible first | exact HB.out | apply below_alloc | apply pw_below_drewN | apply below_drew1) | exact HB.out)) hb); have n1_ := Aside0.mk (hbox); have n2_ := Aside0.mk ((by rw [hg]; exact (below_size (by repeat (first | (with_reducible first | exact HB.out | apply below_alloc | apply pw_below_drewN | apply below_drew1) | exact HB.out))) : w.heap.size ≤ gb169)); have n3_ := Aside0.mk ((by rw [hg]; exact (below_size (by repeat (first | (with_reducible first | exact HB.out | apply below_alloc | apply pw_below_drewN | apply below_drew1) | exact HB.out))) : w.heap.size ≤ gb169)); clear HB; have HB := n0_; have BK169 := n1_; have GW169 := n2_; have GE169 := n3_; clear n0_ n1_ n2_ n3_; clear hb hbox hg) | ((with_reducible refine gate_dst (N := 3) rfl ?_); refine box_event ?hg (N := 3) ?hd (cs := #[.int .i64 a1_0, .int .i64 a1_1, .int .i64 a1_2]) (t := 68) ?hr ?_; (case hd => rfl); (case hg => rfl); (case hr => first | (go_simp; done) | (go_simp; rfl)); intro gb170 hg w14 hbox hb; have n0_ := Aside0.mk (blk_below (g := gb169) (o := .cells #[.int .i64 a0_0, .int .i64 a0_1, .int .i64 a0_2, .int .i64 a0_3, .int .i64 a0_4, .int .i64 a0_5, .bool a0_6] 27 (0, 0)) (by (with_reducible repeat (first | refine blk_drewN ?_ _ | refine blk_drew ?_ | refine blk_alloc ?_ _)); exact BK169.out) hb); have n1_ := Aside0.mk (below_step (by repeat (first | (with_reducible first | exact HB.out | apply below_alloc | apply pw_below_drewN | apply below_drew1 | refine below_set ?_ GE169.out) | exact HB.out)) hb); have n2_ := Aside0.mk (hbox); have n3_ := Aside0.mk ((by rw [hg]; exact (below_size (by repeat (first | (with_reducible first | exact HB.out | apply below_alloc | apply pw_below_drewN | apply below_drew1 | refine below_set ?_ GE169.out) | exact HB.out))) : w.heap.size ≤ gb170)); have n4_ := Aside0.mk ((by rw [hg]; exact (below_size (by repeat (first | (with_reducible first | exact HB.out | apply below_alloc | apply pw_below_drewN | apply below_drew1 | refine below_set ?_ GE169.out) | exact HB.out))) : w.heap.size ≤ gb170)); have n5_ := Aside0.mk ((by rw [hg]; exact Nat.ne_of_lt (blk_lt (g := gb169) (o := .cells #[.int .i64 a0_0, .int .i64 a0_1, .int .i64 a0_2, .int .i64 a0_3, .int .i64 a0_4, .int .i64 a0_5, .bool a0_6] 27 (0, 0)) (by (with_reducible repeat (first | refine blk_drewN ?_ _ | refine blk_drew ?_ | refine blk_alloc ?_ _)); exact BK169.out)) : gb169 ≠ gb170)); have n6_ := Aside0.mk ((by rw [hg]; exact Nat.ne_of_gt (blk_lt (g := gb169) (o := .cells #[.int .i64 a0_0, .int .i64 a0_1, .int .i64 a0_2, .int .i64 a0_3, .int .i64 a0_4, .int .i64 a0_5, .bool a0_6] 27 (0, 0)) (by (with_reducible repeat (first | refine blk_drewN ?_ _ | refine blk_drew ?_ | refine blk_alloc ?_ _)); exact BK169.out)) : gb170 ≠ gb169)); clear BK169; clear HB; have BK169 := n0_; have HB := n1_; have BK170 := n2_; have GW170 := n3_; have GE170 := n4_; have NB169_170 := n5_; have NB170_169 := n6_; clear n0_ n1_ n2_ n3_ n4_ n5_ n6_; clear hb hbox hg; have hnb15 := NB169_170.out; have hnc15 := NB170_169.out; have hcz16_0 : w14.cell? ⟨gb169, 0, none⟩ = some (.int .i64 a0_0) := (blk_cell BK169.out 0).trans rfl; have hcz16_1 : w14.cell? ⟨gb169, 1, none⟩ = some (.int .i64 a0_1) := (blk_cell BK169.out 1).trans rfl; have hcz16_2 : w14.cell? ⟨gb169, 2, none⟩ = some (.int .i64 a0_2) := (blk_cell BK169.out 2).trans rfl; have hcz16_3 : w14.cell? ⟨gb169, 3, none⟩ = some (.int .i64 a0_3) := (blk_cell BK169.out 3).trans rfl; have hcz16_4 : w14.cell? ⟨gb169, 4, none⟩ = some (.int .i64 a0_4) := (blk_cell BK169.out 4).trans rfl; have hcz16_5 : w14.cell? ⟨gb169, 5, none⟩ = some (.int .i64 a0_5) := (blk_cell BK169.out 5).trans rfl; have hcz16_6 : w14.cell? ⟨gb169, 6, none⟩ = some (.bool a0_6) := (blk_cell BK169.out 6).trans rfl; have hfz16_0 := blk_frozen BK169.out 0; have hfz16_1 := blk_frozen BK169.out 1; have hfz16_2 := blk_frozen BK169.out 2; have hfz16_3 := blk_frozen BK169.out 3; have hfz16_4 := blk_frozen BK169.out 4; have hfz16_5 := blk_frozen BK169.out 5; have hfz16_6 := blk_frozen BK169.out 6) | ((with_reducible refine gate_callee (f := 22) rfl ?_); refine goesL_ (some 7) rfl rfl Tryd.func22 (by kernel_rfl) rfl #[.agg #[.int .i64 a0_0, .int .i64 a0_1, .int .i64 a0_2, .int .i64 a0_3, .int .i64 a0_4, .int .i64 a0_5, .bool a0_6]] rfl (by (try simp only [List.map_toArray, List.map_cons, List.map_nil]); first | done | rfl | (simp only [List.length_drop, List.length_take]; rfl)) ?_; (with_reducible refine (bonus_Check.calls k a0_0 a0_1 a0_2 a0_3 a0_4 a0_5 a0_6 t171 _ A3.out).mono ?_); rintro e w17 ⟨rfl, hb⟩; refine ⟨_, rfl, ?_⟩; have n0_ := Aside0.mk (blk_below (g := gb169) (o := .cells #[.int .i64 a0_0, .int .i64 a0_1, .int .i64 a0_2, .int .i64 a0_3, .int .i64 a0_4, .int .i64 a0_5, .bool a0_6] 27 (0, 0)) (by (with_reducible repeat (first | refine blk_drewN ?_ _ | refine blk_drew ?_ | refine blk_alloc ?_ _)); exact BK169.out) hb); have n1_ := Aside0.mk (blk_below (g := gb170) (o := .cells #[.int .i64 a1_0, .int .i64 a1_1, .int .i64 a1_2] 68 (0, 0)) (by (with_reducible repeat (first | refine blk_drewN ?_ _ | refine blk_drew ?_ | refine blk_alloc ?_ _)); exact BK170.out) hb); have n2_ := Aside0.mk (below_step (by repeat (first | (with_reducible first | exact HB.out | apply below_alloc | apply pw_below_drewN | apply below_drew1 | refine below_set ?_ GE169.out | refine below_set ?_ GE170.out) | exact HB.out)) hb); clear BK169; clear BK170; clear HB; have BK169 := n0_; have BK170 := n1_; have HB := n2_; clear n0_ n1_ n2_; (try clear hb); (try clear hb2); (try clear hk); (try clear hi)))
    go_ret
    exact ⟨by first | rfl | (simp [errW_none, errW_some] <;> rfl) | (simp [*, errW_none, errW_some] <;> rfl), by repeat (first | (with_reducible first | exact HB.out | apply below_alloc | apply pw_below_drewN | apply below_drew1 | refine below_set ?_ GE169.out | refine below_set ?_ GE170.out) | exact HB.out)⟩

/-! ### bonus_gap: function 94 -/
def bonus_gap.f (a0_0 : Int) (a0_1 : Int) (a0_2 : Int) (a0_3 : Int) (a0_4 : Int) (a0_5 : Int) (a0_6 : Bool) (a1_0 : Int) (a1_1 : Int) (a1_2 : Int) : Option (Int × Int) := some (wrap64 (a1_0 - a0_0), wrap64 (a1_1 - a0_1))
set_option maxHeartbeats 8000000 in
set_option maxRecDepth 100000 in
theorem bonus_gap.calls (a0_0 : Int) (a0_1 : Int) (a0_2 : Int) (a0_3 : Int) (a0_4 : Int) (a0_5 : Int) (a0_6 : Bool) (a1_0 : Int) (a1_1 : Int) (a1_2 : Int) (r1 : Int) (r2 : Int) (w : World) (h : bonus_gap.f a0_0 a0_1 a0_2 a0_3 a0_4 a0_5 a0_6 a1_0 a1_1 a1_2 = some (r1, r2)) :
    Calls Tryd.prog 94 #[.agg #[.int .i64 a0_0, .int .i64 a0_1, .int .i64 a0_2, .int .i64 a0_3, .int .i64 a0_4, .int .i64 a0_5, .bool a0_6], .agg #[.int .i64 a1_0, .int .i64 a1_1, .int .i64 a1_2]] w fun e w' => e = .returned (.tuple #[.int .i64 r1, .int .i64 r2]) ∧ Below w.heap.size w w' := by
  have hu27 := Tryd.underlying27
  have hu68 := Tryd.underlying68
  have HB := Aside0.mk (Below.refl w.heap.size w)
  have H : (some (wrap64 (a1_0 - a0_0), wrap64 (a1_1 - a0_1))) = some (r1, r2) := h
  clear h
  simp only [Option.some.injEq, Prod.mk.injEq] at H
  obtain ⟨rfl, rfl⟩ := H
  go_enter Tryd.func94, Tryd.ntmps94
  go_wp2_with (first | ((with_reducible refine gate_dst (N := 2) rfl ?_); refine box_event ?hg (N := 2) ?hd (cs := #[.int .i64 a0_0, .int .i64 a0_1, .int .i64 a0_2, .int .i64 a0_3, .int .i64 a0_4, .int .i64 a0_5, .bool a0_6]) (t := 27) ?hr ?_; (case hd => rfl); (case hg => rfl); (case hr => first | (go_simp; done) | (go_simp; rfl)); intro gb173 hg w3 hbox hb; have n0_ := Aside0.mk (below_step (by repeat (first | (with_reducible first | exact HB.out | apply below_alloc | apply pw_below_drewN | apply below_drew1) | exact HB.out)) hb); have n1_ := Aside0.mk (hbox); have n2_ := Aside0.mk ((by rw [hg]; exact (below_size (by repeat (first | (with_reducible first | exact HB.out | apply below_alloc | apply pw_below_drewN | apply below_drew1) | exact HB.out))) : w.heap.size ≤ gb173)); have n3_ := Aside0.mk ((by rw [hg]; exact (below_size (by repeat (first | (with_reducible first | exact HB.out | apply below_alloc | apply pw_below_drewN | apply below_drew1) | exact HB.out))) : w.heap.size ≤ gb173)); clear HB; have HB := n0_; have BK173 := n1_; have GW173 := n2_; have GE173 := n3_; clear n0_ n1_ n2_ n3_; clear hb hbox hg) | ((with_reducible refine gate_dst (N := 3) rfl ?_); refine box_event ?hg (N := 3) ?hd (cs := #[.int .i64 a1_0, .int .i64 a1_1, .int .i64 a1_2]) (t := 68) ?hr ?_; (case hd => rfl); (case hg => rfl); (case hr => first | (go_simp; done) | (go_simp; rfl)); intro gb174 hg w4 hbox hb; have n0_ := Aside0.mk (blk_below (g := gb173) (o := .cells #[.int .i64 a0_0, .int .i64 a0_1, .int .i64 a0_2, .int .i64 a0_3, .int .i64 a0_4, .int .i64 a0_5, .bool a0_6] 27 (0, 0)) (by (with_reducible repeat (first | refine blk_drewN ?_ _ | refine blk_drew ?_ | refine blk_alloc ?_ _)); exact BK173.out) hb); have n1_ := Aside0.mk (below_step (by repeat (first | (with_reducible first | exact HB.out | apply below_alloc | apply pw_below_drewN | apply below_drew1 | refine below_set ?_ GE173.out) | exact HB.out)) hb); have n2_ := Aside0.mk (hbox); have n3_ := Aside0.mk ((by rw [hg]; exact (below_size (by repeat (first | (with_reducible first | exact HB.out | apply below_alloc | apply pw_below_drewN | apply below_drew1 | refine below_set ?_ GE173.out) | exact HB.out))) : w.heap.size ≤ gb174)); have n4_ := Aside0.mk ((by rw [hg]; exact (below_size (by repeat (first | (with_reducible first | exact HB.out | apply below_alloc | apply pw_below_drewN | apply below_drew1 | refine below_set ?_ GE173.out) | exact HB.out))) : w.heap.size ≤ gb174)); have n5_ := Aside0.mk ((by rw [hg]; exact Nat.ne_of_lt (blk_lt (g := gb173) (o := .cells #[.int .i64 a0_0, .int .i64 a0_1, .int .i64 a0_2, .int .i64 a0_3, .int .i64 a0_4, .int .i64 a0_5, .bool a0_6] 27 (0, 0)) (by (with_reducible repeat (first | refine blk_drewN ?_ _ | refine blk_drew ?_ | refine blk_alloc ?_ _)); exact BK173.out)) : gb173 ≠ gb174)); have n6_ := Aside0.mk ((by rw [hg]; exact Nat.ne_of_gt (blk_lt (g := gb173) (o := .cells #[.int .i64 a0_0, .int .i64 a0_1, .int .i64 a0_2, .int .i64 a0_3, .int .i64 a0_4, .int .i64 a0_5, .bool a0_6] 27 (0, 0)) (by (with_reducible repeat (first | refine blk_drewN ?_ _ | refine blk_drew ?_ | refine blk_alloc ?_ _)); exact BK173.out)) : gb174 ≠ gb173)); clear BK173; clear HB; have BK173 := n0_; have HB := n1_; have BK174 := n2_; have GW174 := n3_; have GE174 := n4_; have NB173_174 := n5_; have NB174_173 := n6_; clear n0_ n1_ n2_ n3_ n4_ n5_ n6_; clear hb hbox hg; have hnb5 := NB174_173.out; have hnc5 := NB173_174.out; have hcz6_0 : w4.cell? ⟨gb174, 0, none⟩ = some (.int .i64 a1_0) := (blk_cell BK174.out 0).trans rfl; have hcz6_1 : w4.cell? ⟨gb174, 1, none⟩ = some (.int .i64 a1_1) := (blk_cell BK174.out 1).trans rfl; have hcz6_2 : w4.cell? ⟨gb174, 2, none⟩ = some (.int .i64 a1_2) := (blk_cell BK174.out 2).trans rfl; have hfz6_0 := blk_frozen BK174.out 0; have hfz6_1 := blk_frozen BK174.out 1; have hfz6_2 := blk_frozen BK174.out 2; have hcz7_0 : w4.cell? ⟨gb173, 0, none⟩ = some (.int .i64 a0_0) := (blk_cell BK173.out 0).trans rfl; have hcz7_1 : w4.cell? ⟨gb173, 1, none⟩ = some (.int .i64 a0_1) := (blk_cell BK173.out 1).trans rfl; have hcz7_2 : w4.cell? ⟨gb173, 2, none⟩ = some (.int .i64 a0_2) := (blk_cell BK173.out 2).trans rfl; have hcz7_3 : w4.cell? ⟨gb173, 3, none⟩ = some (.int .i64 a0_3) := (blk_cell BK173.out 3).trans rfl; have hcz7_4 : w4.cell? ⟨gb173, 4, none⟩ = some (.int .i64 a0_4) := (blk_cell BK173.out 4).trans rfl; have hcz7_5 : w4.cell? ⟨gb173, 5, none⟩ = some (.int .i64 a0_5) := (blk_cell BK173.out 5).trans rfl; have hcz7_6 : w4.cell? ⟨gb173, 6, none⟩ = some (.bool a0_6) := (blk_cell BK173.out 6).trans rfl; have hfz7_0 := blk_frozen BK173.out 0; have hfz7_1 := blk_frozen BK173.out 1; have hfz7_2 := blk_frozen BK173.out 2; have hfz7_3 := blk_frozen BK173.out 3; have hfz7_4 := blk_frozen BK173.out 4; have hfz7_5 := blk_frozen BK173.out 5; have hfz7_6 := blk_frozen BK173.out 6))
  repeat (go_quiet (first | ((with_reducible refine gate_dst (N := 2) rfl ?_); refine box_event ?hg (N := 2) ?hd (cs := #[.int .i64 a0_0, .int .i64 a0_1, .int .i64 a0_2, .int .i64 a0_3, .int .i64 a0_4, .int .i64 a0_5, .bool a0_6]) (t := 27) ?hr ?_; (case hd => rfl); (case hg => rfl); (case hr => first | (go_simp; done) | (go_simp; rfl)); intro gb173 hg w3 hbox hb; have n0_ := Aside0.mk (below_step (by repeat (first | (with_reducible first | exact HB.out | apply below_alloc | apply pw_below_drewN | apply below_drew1) | exact HB.out)) hb); have n1_ := Aside0.mk (hbox); have n2_ := Aside0.mk ((by rw [hg]; exact (below_size (by repeat (first | (with_reducible first | exact HB.out | apply below_alloc | apply pw_below_drewN | apply below_drew1) | exact HB.out))) : w.heap.size ≤ gb173)); have n3_ := Aside0.mk ((by rw [hg]; exact (below_size (by repeat (first | (with_reducible first | exact HB.out | apply below_alloc | apply pw_below_drewN | apply below_drew1) | exact HB.out))) : w.heap.size ≤ gb173)); clear HB; have HB := n0_; have BK173 := n1_; have GW173 := n2_; have GE173 := n3_; clear n0_ n1_ n2_ n3_; clear hb hbox hg) | ((with_reducible refine gate_dst (N := 3) rfl ?_); refine box_event ?hg (N := 3) ?hd (cs := #[.int .i64 a1_0, .int .i64 a1_1, .int .i64 a1_2]) (t := 68) ?hr ?_; (case hd => rfl); (case hg => rfl); (case hr => first | (go_simp; done) | (go_simp; rfl)); intro gb174 hg w4 hbox hb; have n0_ := Aside0.mk (blk_below (g := gb173) (o := .cells #[.int .i64 a0_0, .int .i64 a0_1, .int .i64 a0_2, .int .i64 a0_3, .int .i64 a0_4, .int .i64 a0_5, .bool a0_6] 27 (0, 0)) (by (with_reducible repeat (first | refine blk_drewN ?_ _ | refine blk_drew ?_ | refine blk_alloc ?_ _)); exact BK173.out) hb); have n1_ := Aside0.mk (below_step (by repeat (first | (with_reducible first | exact HB.out | apply below_alloc | apply pw_below_drewN | apply below_drew1 | refine below_set ?_ GE173.out) | exact HB.out)) hb); have n2_ := Aside0.mk (hbox); have n3_ := Aside0.mk ((by rw [hg]; exact (below_size (by repeat (first | (with_reducible first | exact HB.out | apply below_alloc | apply pw_below_drewN | apply below_drew1 | refine below_set ?_ GE173.out) | exact HB.out))) : w.heap.size ≤ gb174)); have n4_ := Aside0.mk ((by rw [hg]; exact (below_size (by repeat (first | (with_reducible first | exact HB.out | apply below_alloc | apply pw_below_drewN | apply below_drew1 | refine below_set ?_ GE173.out) | exact HB.out))) : w.heap.size ≤ gb174)); have n5_ := Aside0.mk ((by rw [hg]; exact Nat.ne_of_lt (blk_lt (g := gb173) (o := .cells #[.int .i64 a0_0, .int .i64 a0_1, .int .i64 a0_2, .int .i64 a0_3, .int .i64 a0_4, .int .i64 a0_5, .bool a0_6] 27 (0, 0)) (by (with_reducible repeat (first | refine blk_drewN ?_ _ | refine blk_drew ?_ | refine blk_alloc ?_ _)); exact BK173.out)) : gb173 ≠ gb174)); have n6_ := Aside0.mk ((by rw [hg]; exact Nat.ne_of_gt (blk_lt (g := gb173) (o := .cells #[.int .i64 a0_0, .int .i64 a0_1, .int .i64 a0_2, .int .i64 a0_3, .int .i64 a0_4, .int .i64 a0_5, .bool a0_6] 27 (0, 0)) (by (with_reducible repeat (first | refine blk_drewN ?_ _ | refine blk_drew ?_ | refine blk_alloc ?_ _)); exact BK173.out)) : gb174 ≠ gb173)); clear BK173; clear HB; have BK173 := n0_; have HB := n1_; have BK174 := n2_; have GW174 := n3_; have GE174 := n4_; have NB173_174 := n5_; have NB174_173 := n6_; clear n0_ n1_ n2_ n3_ n4_ n5_ n6_; clear hb hbox hg; have hnb5 := NB174_173.out; have hnc5 := NB173_174.out; have hcz6_0 : w4.cell? ⟨gb174, 0, none⟩ = some (.int .i64 a1_0) := (blk_cell BK174.out 0).trans rfl; have hcz6_1 : w4.cell? ⟨gb174, 1, none⟩ = some (.int .i64 a1_1) := (blk_cell BK174.out 1).trans rfl; have hcz6_2 : w4.cell? ⟨gb174, 2, none⟩ = some (.int .i64 a1_2) := (blk_cell BK174.out 2).trans rfl; have hfz6_0 := blk_frozen BK174.out 0; have hfz6_1 := blk_frozen BK174.out 1; have hfz6_2 := blk_frozen BK174.out 2; have hcz7_0 : w4.cell? ⟨gb173, 0, none⟩ = some (.int .i64 a0_0) := (blk_cell BK173.out 0).trans rfl; have hcz7_1 : w4.cell? ⟨gb173, 1, none⟩ = some (.int .i64 a0_1) := (blk_cell BK173.out 1).trans rfl; have hcz7_2 : w4.cell? ⟨gb173, 2, none⟩ = some (.int .i64 a0_2) := (blk_cell BK173.out 2).trans rfl; have hcz7_3 : w4.cell? ⟨gb173, 3, none⟩ = some (.int .i64 a0_3) := (blk_cell BK173.out 3).trans rfl; have hcz7_4 : w4.cell? ⟨gb173, 4, none⟩ = some (.int .i64 a0_4) := (blk_cell BK173.out 4).trans rfl; have hcz7_5 : w4.cell? ⟨gb173, 5, none⟩ = some (.int .i64 a0_5) := (blk_cell BK173.out 5).trans rfl; have hcz7_6 : w4.cell? ⟨gb173, 6, none⟩ = some (.bool a0_6) := (blk_cell BK173.out 6).trans rfl; have hfz7_0 := blk_frozen BK173.out 0; have hfz7_1 := blk_frozen BK173.out 1; have hfz7_2 := blk_frozen BK173.out 2; have hfz7_3 := blk_frozen BK173.out 3; have hfz7_4 := blk_frozen BK173.out 4; have hfz7_5 := blk_frozen BK173.out 5; have hfz7_6 := blk_frozen BK173.out 6)); try go_wp2_with (first | ((with_reducible refine gate_dst (N := 2) rfl ?_); refine box_event ?hg (N := 2) ?hd (cs := #[.int .i64 a0_0, .int .i64 a0_1, .int .i64 a0_2, .int .i64 a0_3, .int .i64 a0_4, .int .i64 a0_5, .bool a0_6]) (t := 27) ?hr ?_; (case hd => rfl); (case hg => rfl); (case hr => first | (go_simp; done) | (go_simp; rfl)); intro gb173 hg w3 hbox hb; have n0_ := Aside0.mk (below_step (by repeat (first | (with_reducible first | exact HB.out | apply below_alloc | apply pw_below_drewN | apply below_drew1) | exact HB.out)) hb); have n1_ := Aside0.mk (hbox); have n2_ := Aside0.mk ((by rw [hg]; exact (below_size (by repeat (first | (with_reducible first | exact HB.out | apply below_alloc | apply pw_below_drewN | apply below_drew1) | exact HB.out))) : w.heap.size ≤ gb173)); have n3_ := Aside0.mk ((by rw [hg]; exact (below_size (by repeat (first | (with_reducible first | exact HB.out | apply below_alloc | apply pw_below_drewN | apply below_drew1) | exact HB.out))) : w.heap.size ≤ gb173)); clear HB; have HB := n0_; have BK173 := n1_; have GW173 := n2_; have GE173 := n3_; clear n0_ n1_ n2_ n3_; clear hb hbox hg) | ((with_reducible refine gate_dst (N := 3) rfl ?_); refine box_event ?hg (N := 3) ?hd (cs := #[.int .i64 a1_0, .int .i64 a1_1, .int .i64 a1_2]) (t := 68) ?hr ?_; (case hd => rfl); (case hg => rfl); (case hr => first | (go_simp; done) | (go_simp; rfl)); intro gb174 hg w4 hbox hb; have n0_ := Aside0.mk (blk_below (g := gb173) (o := .cells #[.int .i64 a0_0, .int .i64 a0_1, .int .i64 a0_2, .int .i64 a0_3, .int .i64 a0_4, .int .i64 a0_5, .bool a0_6] 27 (0, 0)) (by (with_reducible repeat (first | refine blk_drewN ?_ _ | refine blk_drew ?_ | refine blk_alloc ?_ _)); exact BK173.out) hb); have n1_ := Aside0.mk (below_step (by repeat (first | (with_reducible first | exact HB.out | apply below_alloc | apply pw_below_drewN | apply below_drew1 | refine below_set ?_ GE173.out) | exact HB.out)) hb); have n2_ := Aside0.mk (hbox); have n3_ := Aside0.mk ((by rw [hg]; exact (below_size (by repeat (first | (with_reducible first | exact HB.out | apply below_alloc | apply pw_below_drewN | apply below_drew1 | refine below_set ?_ GE173.out) | exact HB.out))) : w.heap.size ≤ gb174)); have n4_ := Aside0.mk ((by rw [hg]; exact (below_size (by repeat (first | (with_reducible first | exact HB.out | apply below_alloc | apply pw_below_drewN | apply below_drew1 | refine below_set ?_ GE173.out) | exact HB.out))) : w.heap.size ≤ gb174)); have n5_ := Aside0.mk ((by rw [hg]; exact Nat.ne_of_lt (blk_lt (g := gb173) (o := .cells #[.int .i64 a0_0, .int .i64 a0_1, .int .i64 a0_2, .int .i64 a0_3, .int .i64 a0_4, .int .i64 a0_5, .bool a0_6] 27 (0, 0)) (by (with_reducible repeat (first | refine blk_drewN ?_ _ | refine blk_drew ?_ | refine blk_alloc ?_ _)); exact BK173.out)) : gb173 ≠ gb174)); have n6_ := Aside0.mk ((by rw [hg]; exact Nat.ne_of_gt (blk_lt (g := gb173) (o := .cells #[.int .i64 a0_0, .int .i64 a0_1, .int .i64 a0_2, .int .i64 a0_3, .int .i64 a0_4, .int .i64 a0_5, .bool a0_6] 27 (0, 0)) (by (with_reducible repeat (first | refine blk_drewN ?_ _ | refine blk_drew ?_ | refine blk_alloc ?_ _)); exact BK173.out)) : gb174 ≠ gb173)); clear BK173; clear HB; have BK173 := n0_; have HB := n1_; have BK174 := n2_; have GW174 := n3_; have GE174 := n4_; have NB173_174 := n5_; have NB174_173 := n6_; clear n0_ n1_ n2_ n3_ n4_ n5_ n6_; clear hb hbox hg; have hnb5 := NB174_173.out; have hnc5 := NB173_174.out; have hcz6_0 : w4.cell? ⟨gb174, 0, none⟩ = some (.int .i64 a1_0) := (blk_cell BK174.out 0).trans rfl; have hcz6_1 : w4.cell? ⟨gb174, 1, none⟩ = some (.int .i64 a1_1) := (blk_cell BK174.out 1).trans rfl; have hcz6_2 : w4.cell? ⟨gb174, 2, none⟩ = some (.int .i64 a1_2) := (blk_cell BK174.out 2).trans rfl; have hfz6_0 := blk_frozen BK174.out 0; have hfz6_1 := blk_frozen BK174.out 1; have hfz6_2 := blk_frozen BK174.out 2; have hcz7_0 : w4.cell? ⟨gb173, 0, none⟩ = some (.int .i64 a0_0) := (blk_cell BK173.out 0).trans rfl; have hcz7_1 : w4.cell? ⟨gb173, 1, none⟩ = some (.int .i64 a0_1) := (blk_cell BK173.out 1).trans rfl; have hcz7_2 : w4.cell? ⟨gb173, 2, none⟩ = some (.int .i64 a0_2) := (blk_cell BK173.out 2).trans rfl; have hcz7_3 : w4.cell? ⟨gb173, 3, none⟩ = some (.int .i64 a0_3) := (blk_cell BK173.out 3).trans rfl; have hcz7_4 : w4.cell? ⟨gb173, 4, none⟩ = some (.int .i64 a0_4) := (blk_cell BK173.out 4).trans rfl; have hcz7_5 : w4.cell? ⟨gb173, 5, none⟩ = some (.int .i64 a0_5) := (blk_cell BK173.out 5).trans rfl; have hcz7_6 : w4.cell? ⟨gb173, 6, none⟩ = some (.bool a0_6) := (blk_cell BK173.out 6).trans rfl; have hfz7_0 := blk_frozen BK173.out 0; have hfz7_1 := blk_frozen BK173.out 1; have hfz7_2 := blk_frozen BK173.out 2; have hfz7_3 := blk_frozen BK173.out 3; have hfz7_4 := blk_frozen BK173.out 4; have hfz7_5 := blk_frozen BK173.out 5; have hfz7_6 := blk_frozen BK173.out 6)))
  go_ret2
  exact ⟨by first | rfl | (simp [errW_none, errW_some] <;> rfl) | (simp [*, errW_none, errW_some] <;> rfl), by repeat (first | (with_reducible first | exact HB.out | apply below_alloc | apply pw_below_drewN | apply below_drew1 | refine below_set ?_ GE173.out | refine below_set ?_ GE174.out) | exact HB.out)⟩

/-! ### bonus_good: function 95 -/
def bonus_good.f (a0_0 : Int) (a0_1 : Int) (a0_2 : Int) (a0_3 : Int) (a0_4 : Int) (a0_5 : Int) (a0_6 : Bool) (a1_0 : Int) (a1_1 : Int) (a1_2 : Int) : Option (Bool) := (bonus_gap.f a0_0 a0_1 a0_2 a0_3 a0_4 a0_5 a0_6 a1_0 a1_1 a1_2).bind fun bt177 => ((bonus_of.f a0_0 a0_1 a0_2 a0_3 a0_4 a0_5 a0_6).bind fun bt179 => ((bonus_condition_extra.f bt179.1 bt179.2.1 bt179.2.2.1 bt179.2.2.2.1 bt179.2.2.2.2.1 bt179.2.2.2.2.2.1 bt179.2.2.2.2.2.2.1 bt179.2.2.2.2.2.2.2 a1_2).bind fun t187 => ((bonus_within.f a0_0 a0_1 a0_2 a0_3 a0_4 a0_5 a0_6 a1_2).bind fun t188 => (if t188 = true then (some (decide ((wrap64 (4 * (wrap64 ((wrap64 (bt177.1 * bt177.1)) + (wrap64 (bt177.2 * bt177.2)))))) ≤ (wrap64 ((wrap64 (a0_4 + t187)) * (wrap64 (a0_4 + t187))))))) else (some false)))))
def bonus_good.T2 : Bool × List (List Nat × List Nat) := (true, [([], []), ([0], [0]), ([], []), ([2], [2]), ([], []), ([4], [4]), ([3, 5, 3], [3, 5]), ([1, 6], [1, 6]), ([7, 6, 0, 1, 2, 3, 4, 5, 6, 7], [7])])
def bonus_good.B2 : List Nat := [0, 1, 0, 4, 0, 16, 60, 127, 255]
theorem bonus_good.tab2 : rtab .any (opsOf Tryd.f95 2) = bonus_good.T2 := by kernel_rfl
theorem bonus_good.bits2 : waitsOk bonus_good.T2.2 bonus_good.B2 = true := by kernel_rfl
set_option maxHeartbeats 8000000 in
set_option maxRecDepth 100000 in
theorem bonus_good.calls (a0_0 : Int) (a0_1 : Int) (a0_2 : Int) (a0_3 : Int) (a0_4 : Int) (a0_5 : Int) (a0_6 : Bool) (a1_0 : Int) (a1_1 : Int) (a1_2 : Int) (r : Bool) (w : World) (h : bonus_good.f a0_0 a0_1 a0_2 a0_3 a0_4 a0_5 a0_6 a1_0 a1_1 a1_2 = some r) (hS : SignsAt w) :
    Calls Tryd.prog 95 #[.agg #[.int .i64 a0_0, .int .i64 a0_1, .int .i64 a0_2, .int .i64 a0_3, .int .i64 a0_4, .int .i64 a0_5, .bool a0_6], .agg #[.int .i64 a1_0, .int .i64 a1_1, .int .i64 a1_2]] w fun e w' => e = .returned (.bool r) ∧ Below w.heap.size w w' := by
  have HS := Aside0.mk hS
  clear hS
  have hu27 := Tryd.underlying27
  have hu68 := Tryd.underlying68
  have HB := Aside0.mk (Below.refl w.heap.size w)
  have H : ((bonus_gap.f a0_0 a0_1 a0_2 a0_3 a0_4 a0_5 a0_6 a1_0 a1_1 a1_2).bind fun bt177 => ((bonus_of.f a0_0 a0_1 a0_2 a0_3 a0_4 a0_5 a0_6).bind fun bt179 => ((bonus_condition_extra.f bt179.1 bt179.2.1 bt179.2.2.1 bt179.2.2.2.1 bt179.2.2.2.2.1 bt179.2.2.2.2.2.1 bt179.2.2.2.2.2.2.1 bt179.2.2.2.2.2.2.2 a1_2).bind fun t187 => ((bonus_within.f a0_0 a0_1 a0_2 a0_3 a0_4 a0_5 a0_6 a1_2).bind fun t188 => (if t188 = true then (some (decide ((wrap64 (4 * (wrap64 ((wrap64 (bt177.1 * bt177.1)) + (wrap64 (bt177.2 * bt177.2)))))) ≤ (wrap64 ((wrap64 (a0_4 + t187)) * (wrap64 (a0_4 + t187))))))) else (some false)))))) = some r := h
  clear h
  replace H := Option.bind_eq_some_iff.mp H
  obtain ⟨⟨t177, t178⟩, A30, H⟩ := H
  replace H : ((bonus_of.f a0_0 a0_1 a0_2 a0_3 a0_4 a0_5 a0_6).bind fun bt179 => ((bonus_condition_extra.f bt179.1 bt179.2.1 bt179.2.2.1 bt179.2.2.2.1 bt179.2.2.2.2.1 bt179.2.2.2.2.2.1 bt179.2.2.2.2.2.2.1 bt179.2.2.2.2.2.2.2 a1_2).bind fun t187 => ((bonus_within.f a0_0 a0_1 a0_2 a0_3 a0_4 a0_5 a0_6 a1_2).bind fun t188 => (if t188 = true then (some (decide ((wrap64 (4 * (wrap64 ((wrap64 (t177 * t177)) + (wrap64 (t178 * t178)))))) ≤ (wrap64 ((wrap64 (a0_4 + t187)) * (wrap64 (a0_4 + t187))))))) else (some false))))) = some r := H
  have A3 := Aside0.mk A30
  clear A30
  replace H := Option.bind_eq_some_iff.mp H
  obtain ⟨⟨t179, t180, t181, t182, t183, t184, t185, t186⟩, A40, H⟩ := H
  replace H : ((bonus_condition_extra.f t179 t180 t181 t182 t183 t184 t185 t186 a1_2).bind fun t187 => ((bonus_within.f a0_0 a0_1 a0_2 a0_3 a0_4 a0_5 a0_6 a1_2).bind fun t188 => (if t188 = true then (some (decide ((wrap64 (4 * (wrap64 ((wrap64 (t177 * t177)) + (wrap64 (t178 * t178)))))) ≤ (wrap64 ((wrap64 (a0_4 + t187)) * (wrap64 (a0_4 + t187))))))) else (some false)))) = some r := H
  have A4 := Aside0.mk A40
  clear A40
  replace H := Option.bind_eq_some_iff.mp H
  obtain ⟨t187, A50, H⟩ := H
  replace H : ((bonus_within.f a0_0 a0_1 a0_2 a0_3 a0_4 a0_5 a0_6 a1_2).bind fun t188 => (if t188 = true then (some (decide ((wrap64 (4 * (wrap64 ((wrap64 (t177 * t177)) + (wrap64 (t178 * t178)))))) ≤ (wrap64 ((wrap64 (a0_4 + t187)) * (wrap64 (a0_4 + t187))))))) else (some false))) = some r := H
  have A5 := Aside0.mk A50
  clear A50
  replace H := Option.bind_eq_some_iff.mp H
  obtain ⟨t188, A60, H⟩ := H
  replace H : (if t188 = true then (some (decide ((wrap64 (4 * (wrap64 ((wrap64 (t177 * t177)) + (wrap64 (t178 * t178)))))) ≤ (wrap64 ((wrap64 (a0_4 + t187)) * (wrap64 (a0_4 + t187))))))) else (some false)) = some r := H
  have A6 := Aside0.mk A60
  clear A60
  by_cases c7 : t188 = true
  · subst c7
    have H1 : (some (decide ((wrap64 (4 * (wrap64 ((wrap64 (t177 * t177)) + (wrap64 (t178 * t178)))))) ≤ (wrap64 ((wrap64 (a0_4 + t187)) * (wrap64 (a0_4 + t187))))))) = some r := by rw [if_pos rfl] at H; exact H
    clear H
    have H := H1
    clear H1
    obtain rfl := Option.some.inj H
    go_enter Tryd.func95, Tryd.ntmps95
    try go_wp2_with (first | ((with_reducible refine gate_dst (N := 2) rfl ?_); refine box_event ?hg (N := 2) ?hd (cs := #[.int .i64 a0_0, .int .i64 a0_1, .int .i64 a0_2, .int .i64 a0_3, .int .i64 a0_4, .int .i64 a0_5, .bool a0_6]) (t := 27) ?hr ?_; (case hd => rfl); (case hg => rfl); (case hr => first | (go_simp; done) | (go_simp; rfl)); intro gb175 hg w8 hbox hb; have n0_ := Aside0.mk (below_step (by repeat (first | (with_reducible first | exact HB.out | apply below_alloc | apply pw_below_drewN | apply below_drew1) | exact HB.out)) hb); have n1_ := Aside0.mk (hbox); have n2_ := Aside0.mk ((by rw [hg]; exact (below_size (by repeat (first | (with_reducible first | exact HB.out | apply below_alloc | apply pw_below_drewN | apply below_drew1) | exact HB.out))) : w.heap.size ≤ gb175)); have n3_ := Aside0.mk ((by rw [hg]; exact (below_size (by repeat (first | (with_reducible first | exact HB.out | apply below_alloc | apply pw_below_drewN | apply below_drew1) | exact HB.out))) : w.heap.size ≤ gb175)); clear HB; have HB := n0_; have BK175 := n1_; have GW175 := n2_; have GE175 := n3_; clear n0_ n1_ n2_ n3_; clear hb hbox hg) | ((with_reducible refine gate_dst (N := 3) rfl ?_); refine box_event ?hg (N := 3) ?hd (cs := #[.int .i64 a1_0, .int .i64 a1_1, .int .i64 a1_2]) (t := 68) ?hr ?_; (case hd => rfl); (case hg => rfl); (case hr => first | (go_simp; done) | (go_simp; rfl)); intro gb176 hg w9 hbox hb; have n0_ := Aside0.mk (blk_below (g := gb175) (o := .cells #[.int .i64 a0_0, .int .i64 a0_1, .int .i64 a0_2, .int .i64 a0_3, .int .i64 a0_4, .int .i64 a0_5, .bool a0_6] 27 (0, 0)) (by (with_reducible repeat (first | refine blk_drewN ?_ _ | refine blk_drew ?_ | refine blk_alloc ?_ _)); exact BK175.out) hb); have n1_ := Aside0.mk (below_step (by repeat (first | (with_reducible first | exact HB.out | apply below_alloc | apply pw_below_drewN | apply below_drew1 | refine below_set ?_ GE175.out) | exact HB.out)) hb); have n2_ := Aside0.mk (hbox); have n3_ := Aside0.mk ((by rw [hg]; exact (below_size (by repeat (first | (with_reducible first | exact HB.out | apply below_alloc | apply pw_below_drewN | apply below_drew1 | refine below_set ?_ GE175.out) | exact HB.out))) : w.heap.size ≤ gb176)); have n4_ := Aside0.mk ((by rw [hg]; exact (below_size (by repeat (first | (with_reducible first | exact HB.out | apply below_alloc | apply pw_below_drewN | apply below_drew1 | refine below_set ?_ GE175.out) | exact HB.out))) : w.heap.size ≤ gb176)); have n5_ := Aside0.mk ((by rw [hg]; exact Nat.ne_of_lt (blk_lt (g := gb175) (o := .cells #[.int .i64 a0_0, .int .i64 a0_1, .int .i64 a0_2, .int .i64 a0_3, .int .i64 a0_4, .int .i64 a0_5, .bool a0_6] 27 (0, 0)) (by (with_reducible repeat (first | refine blk_drewN ?_ _ | refine blk_drew ?_ | refine blk_alloc ?_ _)); exact BK175.out)) : gb175 ≠ gb176)); have n6_ := Aside0.mk ((by rw [hg]; exact Nat.ne_of_gt (blk_lt (g := gb175) (o := .cells #[.int .i64 a0_0, .int .i64 a0_1, .int .i64 a0_2, .int .i64 a0_3, .int .i64 a0_4, .int .i64 a0_5, .bool a0_6] 27 (0, 0)) (by (with_reducible repeat (first | refine blk_drewN ?_ _ | refine blk_drew ?_ | refine blk_alloc ?_ _)); exact BK175.out)) : gb176 ≠ gb175)); clear BK175; clear HB; have BK175 := n0_; have HB := n1_; have BK176 := n2_; have GW176 := n3_; have GE176 := n4_; have NB175_176 := n5_; have NB176_175 := n6_; clear n0_ n1_ n2_ n3_ n4_ n5_ n6_; clear hb hbox hg; have hnb10 := NB175_176.out; have hnc10 := NB176_175.out; have hcz11_0 : w9.cell? ⟨gb175, 0, none⟩ = some (.int .i64 a0_0) := (blk_cell BK175.out 0).trans rfl; have hcz11_1 : w9.cell? ⟨gb175, 1, none⟩ = some (.int .i64 a0_1) := (blk_cell BK175.out 1).trans rfl; have hcz11_2 : w9.cell? ⟨gb175, 2, none⟩ = some (.int .i64 a0_2) := (blk_cell BK175.out 2).trans rfl; have hcz11_3 : w9.cell? ⟨gb175, 3, none⟩ = some (.int .i64 a0_3) := (blk_cell BK175.out 3).trans rfl; have hcz11_4 : w9.cell? ⟨gb175, 4, none⟩ = some (.int .i64 a0_4) := (blk_cell BK175.out 4).trans rfl; have hcz11_5 : w9.cell? ⟨gb175, 5, none⟩ = some (.int .i64 a0_5) := (blk_cell BK175.out 5).trans rfl; have hcz11_6 : w9.cell? ⟨gb175, 6, none⟩ = some (.bool a0_6) := (blk_cell BK175.out 6).trans rfl; have hfz11_0 := blk_frozen BK175.out 0; have hfz11_1 := blk_frozen BK175.out 1; have hfz11_2 := blk_frozen BK175.out 2; have hfz11_3 := blk_frozen BK175.out 3; have hfz11_4 := blk_frozen BK175.out 4; have hfz11_5 := blk_frozen BK175.out 5; have hfz11_6 := blk_frozen BK175.out 6; have hcz12_0 : w9.cell? ⟨gb176, 0, none⟩ = some (.int .i64 a1_0) := (blk_cell BK176.out 0).trans rfl; have hcz12_1 : w9.cell? ⟨gb176, 1, none⟩ = some (.int .i64 a1_1) := (blk_cell BK176.out 1).trans rfl; have hcz12_2 : w9.cell? ⟨gb176, 2, none⟩ = some (.int .i64 a1_2) := (blk_cell BK176.out 2).trans rfl; have hfz12_0 := blk_frozen BK176.out 0; have hfz12_1 := blk_frozen BK176.out 1; have hfz12_2 := blk_frozen BK176.out 2) | ((with_reducible refine gate_callee (f := 94) rfl ?_); refine goesL_ (some 11) rfl rfl Tryd.func94 (by kernel_rfl) rfl #[.agg #[.int .i64 a0_0, .int .i64 a0_1, .int .i64 a0_2, .int .i64 a0_3, .int .i64 a0_4, .int .i64 a0_5, .bool a0_6], .agg #[.int .i64 a1_0, .int .i64 a1_1, .int .i64 a1_2]] rfl (by (try simp only [List.map_toArray, List.map_cons, List.map_nil]); first | done | rfl | (simp only [List.length_drop, List.length_take]; rfl)) ?_; (with_reducible refine (bonus_gap.calls a0_0 a0_1 a0_2 a0_3 a0_4 a0_5 a0_6 a1_0 a1_1 a1_2 t177 t178 _ A3.out).mono ?_); rintro e w13 ⟨rfl, hb⟩; refine ⟨_, rfl, ?_⟩; have n0_ := Aside0.mk (blk_below (g := gb175) (o := .cells #[.int .i64 a0_0, .int .i64 a0_1, .int .i64 a0_2, .int .i64 a0_3, .int .i64 a0_4, .int .i64 a0_5, .bool a0_6] 27 (0, 0)) (by (with_reducible repeat (first | refine blk_drewN ?_ _ | refine blk_drew ?_ | refine blk_alloc ?_ _)); exact BK175.out) hb); have n1_ := Aside0.mk (blk_below (g := gb176) (o := .cells #[.int .i64 a1_0, .int .i64 a1_1, .int .i64 a1_2] 68 (0, 0)) (by (with_reducible repeat (first | refine blk_drewN ?_ _ | refine blk_drew ?_ | refine blk_alloc ?_ _)); exact BK176.out) hb); have n2_ := Aside0.mk (below_step (by repeat (first | (with_reducible first | exact HB.out | apply below_alloc | apply pw_below_drewN | apply below_drew1 | refine below_set ?_ GE175.out | refine below_set ?_ GE176.out) | exact HB.out)) hb); clear BK175; clear BK176; clear HB; have BK175 := n0_; have BK176 := n1_; have HB := n2_; clear n0_ n1_ n2_; (try clear hb); (try clear hb2); (try clear hk); (try clear hi)))
    have n0_ := Aside0.mk (blk_drew BK175.out)
    have n1_ := Aside0.mk (blk_drew BK176.out)
    have n2_ := Aside0.mk (below_drew1 HB.out)
    clear BK175
    clear BK176
    clear HB
    have BK175 := n0_
    have BK176 := n1_
    have HB := n2_
    clear n0_ n1_ n2_
    refine start_ (n := 9) (S := fun w' => w'.cell? ⟨gb175, 0, none⟩ = some (.int .i64 a0_0) ∧ w'.cell? ⟨gb175, 1, none⟩ = some (.int .i64 a0_1) ∧ w'.cell? ⟨gb175, 2, none⟩ = some (.int .i64 a0_2) ∧ w'.cell? ⟨gb175, 3, none⟩ = some (.int .i64 a0_3) ∧ w'.cell? ⟨gb175, 4, none⟩ = some (.int .i64 a0_4) ∧ w'.cell? ⟨gb175, 5, none⟩ = some (.int .i64 a0_5) ∧ w'.cell? ⟨gb175, 6, none⟩ = some (.bool a0_6) ∧ w'.cell? ⟨gb176, 0, none⟩ = some (.int .i64 a1_0) ∧ w'.cell? ⟨gb176, 1, none⟩ = some (.int .i64 a1_1) ∧ w'.cell? ⟨gb176, 2, none⟩ = some (.int .i64 a1_2)) (ds := []) #[false, false, false, false, false, false, false, false, false] (by kernel_rfl) rfl rfl ⟨(blk_cell BK175.out 0).trans rfl, (blk_cell BK175.out 1).trans rfl, (blk_cell BK175.out 2).trans rfl, (blk_cell BK175.out 3).trans rfl, (blk_cell BK175.out 4).trans rfl, (blk_cell BK175.out 5).trans rfl, (blk_cell BK175.out 6).trans rfl, (blk_cell BK176.out 0).trans rfl, (blk_cell BK176.out 1).trans rfl, (blk_cell BK176.out 2).trans rfl⟩ (fun hHeld => ?_); refine with_tabW bonus_good.tab2 bonus_good.bits2 (fun HT_ HW_ => ?_)
    generalize w13.drew = w14 at BK175 BK176 HB hHeld ⊢
    refine pure_ (i := 0) (N := some 14) (v := ?_) (a' := ?_) #[true, false, false, false, false, false, false, false, false] rfl rfl (any_of HT_.out (by kernel_rfl)) (fun _ _ _ h => h) (Or.inl ⟨by rfl, ?_⟩) ?_ ?_
    rotate_left
    · intro w'
      go_simp
      with_reducible rfl
    rotate_left
    · simp only [Act.put, List.setIfInBounds_toArray, List.set_cons_zero, List.set_cons_succ, i64_w, i32_w]
      rfl
    refine pure_ (i := 4) (N := some 18) (v := ?_) (a' := ?_) #[true, false, false, false, true, false, false, false, false] rfl rfl (any_of HT_.out (by kernel_rfl)) (fun _ _ _ h => h) (Or.inl ⟨by rfl, ?_⟩) ?_ ?_
    rotate_left
    · intro w'
      go_simp
      with_reducible rfl
    rotate_left
    · simp only [Act.put, List.setIfInBounds_toArray, List.set_cons_zero, List.set_cons_succ, i64_w, i32_w]
      rfl
    refine take_ (i := 1) (N := some 15) (v := ?_) (a' := ?_) #[true, true, false, false, true, false, false, false, false] rfl rfl (take_ofW HT_.out HW_.out (by kernel_rfl)) (fun _ _ _ h => h) (Or.inl ⟨by rfl, ?_⟩) hHeld ?_ ?_
    rotate_left
    · rintro w' ⟨s0, s1, s2, s3, s4, s5, s6, s7, s8, s9⟩
      go_simp
      with_reducible rfl
    rotate_left
    · simp only [Act.put, List.setIfInBounds_toArray, List.set_cons_zero, List.set_cons_succ, i64_w, i32_w]
      rfl
    refine take_ (i := 2) (N := some 16) (v := ?_) (a' := ?_) #[true, true, true, false, true, false, false, false, false] rfl rfl (take_ofW HT_.out HW_.out (by kernel_rfl)) (fun _ _ _ h => h) (Or.inl ⟨by rfl, ?_⟩) hHeld ?_ ?_
    rotate_left
    · rintro w' ⟨s0, s1, s2, s3, s4, s5, s6, s7, s8, s9⟩
      go_simp
      with_reducible rfl
    rotate_left
    · simp only [Act.put, List.setIfInBounds_toArray, List.set_cons_zero, List.set_cons_succ, i64_w, i32_w]
      rfl
    refine take_ (i := 5) (N := some 19) (v := ?_) (a' := ?_) #[true, true, true, false, true, true, false, false, false] rfl rfl (take_ofW HT_.out HW_.out (by kernel_rfl)) (fun _ _ _ h => h) (Or.inl ⟨by rfl, ?_⟩) hHeld ?_ ?_
    rotate_left
    · rintro w' ⟨s0, s1, s2, s3, s4, s5, s6, s7, s8, s9⟩
      go_simp
      with_reducible rfl
    rotate_left
    · simp only [Act.put, List.setIfInBounds_toArray, List.set_cons_zero, List.set_cons_succ, i64_w, i32_w]
      rfl
    refine one_ (i := 3) (N := some 17) #[true, true, true, true, true, true, false, false, false] rfl rfl (one_of HT_.out (by kernel_rfl)) (by decide) (fun K hK => ?_)
    refine goes_ Tryd.func67 (by kernel_rfl) rfl #[.agg #[.int .i64 a0_0, .int .i64 a0_1, .int .i64 a0_2, .int .i64 a0_3, .int .i64 a0_4, .int .i64 a0_5, .bool a0_6]] (by rfl) rfl rfl (by (try simp only [List.map_toArray, List.map_cons, List.map_nil]); first | done | rfl | (simp only [List.length_drop, List.length_take]; rfl)) ?_
    with_reducible refine (bonus_of.calls a0_0 a0_1 a0_2 a0_3 a0_4 a0_5 a0_6 t179 t180 t181 t182 t183 t184 t185 t186 _ A4.out (by exact sig_below HS.out (by repeat (first | (with_reducible first | exact HB.out | apply below_alloc | apply pw_below_drewN | apply below_drew1 | refine below_set ?_ GE175.out | refine below_set ?_ GE176.out) | exact HB.out)))).mono ?_
    rintro e w15 ⟨rfl, hb⟩
    refine ⟨_, rfl, ?_⟩
    have n0_ := Aside0.mk (blk_below (g := gb175) (o := .cells #[.int .i64 a0_0, .int .i64 a0_1, .int .i64 a0_2, .int .i64 a0_3, .int .i64 a0_4, .int .i64 a0_5, .bool a0_6] 27 (0, 0)) (by (with_reducible repeat (first | refine blk_drewN ?_ _ | refine blk_drew ?_ | refine blk_alloc ?_ _)); exact BK175.out) hb)
    have n1_ := Aside0.mk (blk_below (g := gb176) (o := .cells #[.int .i64 a1_0, .int .i64 a1_1, .int .i64 a1_2] 68 (0, 0)) (by (with_reducible repeat (first | refine blk_drewN ?_ _ | refine blk_drew ?_ | refine blk_alloc ?_ _)); exact BK176.out) hb)
    have n2_ := Aside0.mk (below_step (by repeat (first | (with_reducible first | exact HB.out | apply below_alloc | apply pw_below_drewN | apply below_drew1 | refine below_set ?_ GE175.out | refine below_set ?_ GE176.out) | exact HB.out)) hb)
    clear BK175
    clear BK176
    clear HB
    have BK175 := n0_
    have BK176 := n1_
    have HB := n2_
    clear n0_ n1_ n2_
    (try clear hb)
    (try clear hb2)
    (try clear hk)
    (try clear hi)
    refine hK.out _ _ ⟨(blk_cell BK175.out 0).trans rfl, (blk_cell BK175.out 1).trans rfl, (blk_cell BK175.out 2).trans rfl, (blk_cell BK175.out 3).trans rfl, (blk_cell BK175.out 4).trans rfl, (blk_cell BK175.out 5).trans rfl, (blk_cell BK175.out 6).trans rfl, (blk_cell BK176.out 0).trans rfl, (blk_cell BK176.out 1).trans rfl, (blk_cell BK176.out 2).trans rfl⟩ (fun hHeld => ?_)
    clear hK K
    refine norm_ (a' := ?_) ?_ ?_
    rotate_left
    · show Act.put _ (some 17) _ = _
      simp only [Act.put, List.setIfInBounds_toArray, List.set_cons_zero, List.set_cons_succ, i64_w, i32_w]
      rfl
    refine one_ (i := 6) (N := some 20) #[true, true, true, true, true, true, true, false, false] rfl rfl (one_of HT_.out (by kernel_rfl)) (by decide) (fun K hK => ?_)
    refine goes_ Tryd.func77 (by kernel_rfl) rfl #[.agg #[.int .i64 t179, .int .i64 t180, .int .i64 t181, .int .i64 t182, .int .i64 t183, .int .i64 t184, .bool t185, .int .i64 t186], .int .i64 a1_2] (by rfl) rfl rfl (by (try simp only [List.map_toArray, List.map_cons, List.map_nil]); first | done | rfl | (simp only [List.length_drop, List.length_take]; rfl)) ?_
    with_reducible refine (bonus_condition_extra.calls t179 t180 t181 t182 t183 t184 t185 t186 a1_2 t187 _ A5.out).mono ?_
    rintro e w16 ⟨rfl, hb⟩
    refine ⟨_, rfl, ?_⟩
    have n0_ := Aside0.mk (blk_below (g := gb175) (o := .cells #[.int .i64 a0_0, .int .i64 a0_1, .int .i64 a0_2, .int .i64 a0_3, .int .i64 a0_4, .int .i64 a0_5, .bool a0_6] 27 (0, 0)) (by (with_reducible repeat (first | refine blk_drewN ?_ _ | refine blk_drew ?_ | refine blk_alloc ?_ _)); exact BK175.out) hb)
    have n1_ := Aside0.mk (blk_below (g := gb176) (o := .cells #[.int .i64 a1_0, .int .i64 a1_1, .int .i64 a1_2] 68 (0, 0)) (by (with_reducible repeat (first | refine blk_drewN ?_ _ | refine blk_drew ?_ | refine blk_alloc ?_ _)); exact BK176.out) hb)
    have n2_ := Aside0.mk (below_step (by repeat (first | (with_reducible first | exact HB.out | apply below_alloc | apply pw_below_drewN | apply below_drew1 | refine below_set ?_ GE175.out | refine below_set ?_ GE176.out) | exact HB.out)) hb)
    clear BK175
    clear BK176
    clear HB
    have BK175 := n0_
    have BK176 := n1_
    have HB := n2_
    clear n0_ n1_ n2_
    (try clear hb)
    (try clear hb2)
    (try clear hk)
    (try clear hi)
    refine hK.out _ _ ⟨(blk_cell BK175.out 0).trans rfl, (blk_cell BK175.out 1).trans rfl, (blk_cell BK175.out 2).trans rfl, (blk_cell BK175.out 3).trans rfl, (blk_cell BK175.out 4).trans rfl, (blk_cell BK175.out 5).trans rfl, (blk_cell BK175.out 6).trans rfl, (blk_cell BK176.out 0).trans rfl, (blk_cell BK176.out 1).trans rfl, (blk_cell BK176.out 2).trans rfl⟩ (fun hHeld => ?_)
    clear hK K
    refine norm_ (a' := ?_) ?_ ?_
    rotate_left
    · show Act.put _ (some 20) _ = _
      simp only [Act.put, List.setIfInBounds_toArray, List.set_cons_zero, List.set_cons_succ, i64_w, i32_w]
      rfl
    refine pure_ (i := 7) (N := some 21) (v := ?_) (a' := ?_) #[true, true, true, true, true, true, true, true, false] rfl rfl (any_of HT_.out (by kernel_rfl)) (fun _ _ _ h => h) (Or.inl ⟨by rfl, ?_⟩) ?_ ?_
    rotate_left
    · intro w'
      go_simp
      with_reducible rfl
    rotate_left
    · simp only [Act.put, List.setIfInBounds_toArray, List.set_cons_zero, List.set_cons_succ, i64_w, i32_w]
      rfl
    refine pure_ (i := 8) (N := some 7) (v := ?_) (a' := ?_) #[true, true, true, true, true, true, true, true, true] rfl rfl (any_of HT_.out (by kernel_rfl)) (fun _ _ _ h => h) (Or.inl ⟨by rfl, ?_⟩) ?_ ?_
    rotate_left
    · intro w'
      go_simp
      with_reducible rfl
    rotate_left
    · simp only [Act.put, List.setIfInBounds_toArray, List.set_cons_zero, List.set_cons_succ, i64_w, i32_w]
      rfl
    refine done_ (done_of HT_.out (by kernel_rfl)) ?_
    have hcz17_0 : w16.cell? ⟨gb175, 0, none⟩ = some (.int .i64 a0_0) := (blk_cell BK175.out 0).trans rfl
    have hcz17_1 : w16.cell? ⟨gb175, 1, none⟩ = some (.int .i64 a0_1) := (blk_cell BK175.out 1).trans rfl
    have hcz17_2 : w16.cell? ⟨gb175, 2, none⟩ = some (.int .i64 a0_2) := (blk_cell BK175.out 2).trans rfl
    have hcz17_3 : w16.cell? ⟨gb175, 3, none⟩ = some (.int .i64 a0_3) := (blk_cell BK175.out 3).trans rfl
    have hcz17_4 : w16.cell? ⟨gb175, 4, none⟩ = some (.int .i64 a0_4) := (blk_cell BK175.out 4).trans rfl
    have hcz17_5 : w16.cell? ⟨gb175, 5, none⟩ = some (.int .i64 a0_5) := (blk_cell BK175.out 5).trans rfl
    have hcz17_6 : w16.cell? ⟨gb175, 6, none⟩ = some (.bool a0_6) := (blk_cell BK175.out 6).trans rfl
    have hfz17_0 := blk_frozen BK175.out 0
    have hfz17_1 := blk_frozen BK175.out 1
    have hfz17_2 := blk_frozen BK175.out 2
    have hfz17_3 := blk_frozen BK175.out 3
    have hfz17_4 := blk_frozen BK175.out 4
    have hfz17_5 := blk_frozen BK175.out 5
    have hfz17_6 := blk_frozen BK175.out 6
    have hcz18_0 : w16.cell? ⟨gb176, 0, none⟩ = some (.int .i64 a1_0) := (blk_cell BK176.out 0).trans rfl
    have hcz18_1 : w16.cell? ⟨gb176, 1, none⟩ = some (.int .i64 a1_1) := (blk_cell BK176.out 1).trans rfl
    have hcz18_2 : w16.cell? ⟨gb176, 2, none⟩ = some (.int .i64 a1_2) := (blk_cell BK176.out 2).trans rfl
    have hfz18_0 := blk_frozen BK176.out 0
    have hfz18_1 := blk_frozen BK176.out 1
    have hfz18_2 := blk_frozen BK176.out 2
    try go_wp2_with (first | ((with_reducible refine gate_callee (f := 76) rfl ?_); refine goesL_ (some 25) rfl rfl Tryd.func76 (by kernel_rfl) rfl #[.agg #[.int .i64 a0_0, .int .i64 a0_1, .int .i64 a0_2, .int .i64 a0_3, .int .i64 a0_4, .int .i64 a0_5, .bool a0_6], .int .i64 a1_2] rfl (by (try simp only [List.map_toArray, List.map_cons, List.map_nil]); first | done | rfl | (simp only [List.length_drop, List.length_take]; rfl)) ?_; (with_reducible refine (bonus_within.calls a0_0 a0_1 a0_2 a0_3 a0_4 a0_5 a0_6 a1_2 true _ A6.out).mono ?_); rintro e w19 ⟨rfl, hb⟩; refine ⟨_, rfl, ?_⟩; have n0_ := Aside0.mk (blk_below (g := gb175) (o := .cells #[.int .i64 a0_0, .int .i64 a0_1, .int .i64 a0_2, .int .i64 a0_3, .int .i64 a0_4, .int .i64 a0_5, .bool a0_6] 27 (0, 0)) (by (with_reducible repeat (first | refine blk_drewN ?_ _ | refine blk_drew ?_ | refine blk_alloc ?_ _)); exact BK175.out) hb); have n1_ := Aside0.mk (blk_below (g := gb176) (o := .cells #[.int .i64 a1_0, .int .i64 a1_1, .int .i64 a1_2] 68 (0, 0)) (by (with_reducible repeat (first | refine blk_drewN ?_ _ | refine blk_drew ?_ | refine blk_alloc ?_ _)); exact BK176.out) hb); have n2_ := Aside0.mk (below_step (by repeat (first | (with_reducible first | exact HB.out | apply below_alloc | apply pw_below_drewN | apply below_drew1 | refine below_set ?_ GE175.out | refine below_set ?_ GE176.out) | exact HB.out)) hb); clear BK175; clear BK176; clear HB; have BK175 := n0_; have BK176 := n1_; have HB := n2_; clear n0_ n1_ n2_; (try clear hb); (try clear hb2); (try clear hk); (try clear hi)))
    go_ret
    exact ⟨by first | rfl | (simp [errW_none, errW_some] <;> rfl) | (simp [*, errW_none, errW_some] <;> rfl), by repeat (first | (with_reducible first | exact HB.out | apply below_alloc | apply pw_below_drewN | apply below_drew1 | refine below_set ?_ GE175.out | refine below_set ?_ GE176.out) | exact HB.out)⟩
  · replace c7 := Bool.eq_false_iff.mpr c7
    subst c7
    have H1 : (some false) = some r := by rw [if_neg (show ¬ (false = true) by decide)] at H; exact H
    clear H
    have H := H1
    clear H1
    obtain rfl := Option.some.inj H
    go_enter Tryd.func95, Tryd.ntmps95
    try go_wp2_with (first | ((with_reducible refine gate_dst (N := 2) rfl ?_); refine box_event ?hg (N := 2) ?hd (cs := #[.int .i64 a0_0, .int .i64 a0_1, .int .i64 a0_2, .int .i64 a0_3, .int .i64 a0_4, .int .i64 a0_5, .bool a0_6]) (t := 27) ?hr ?_; (case hd => rfl); (case hg => rfl); (case hr => first | (go_simp; done) | (go_simp; rfl)); intro gb175 hg w20 hbox hb; have n0_ := Aside0.mk (below_step (by repeat (first | (with_reducible first | exact HB.out | apply below_alloc | apply pw_below_drewN | apply below_drew1) | exact HB.out)) hb); have n1_ := Aside0.mk (hbox); have n2_ := Aside0.mk ((by rw [hg]; exact (below_size (by repeat (first | (with_reducible first | exact HB.out | apply below_alloc | apply pw_below_drewN | apply below_drew1) | exact HB.out))) : w.heap.size ≤ gb175)); have n3_ := Aside0.mk ((by rw [hg]; exact (below_size (by repeat (first | (with_reducible first | exact HB.out | apply below_alloc | apply pw_below_drewN | apply below_drew1) | exact HB.out))) : w.heap.size ≤ gb175)); clear HB; have HB := n0_; have BK175 := n1_; have GW175 := n2_; have GE175 := n3_; clear n0_ n1_ n2_ n3_; clear hb hbox hg) | ((with_reducible refine gate_dst (N := 3) rfl ?_); refine box_event ?hg (N := 3) ?hd (cs := #[.int .i64 a1_0, .int .i64 a1_1, .int .i64 a1_2]) (t := 68) ?hr ?_; (case hd => rfl); (case hg => rfl); (case hr => first | (go_simp; done) | (go_simp; rfl)); intro gb176 hg w21 hbox hb; have n0_ := Aside0.mk (blk_below (g := gb175) (o := .cells #[.int .i64 a0_0, .int .i64 a0_1, .int .i64 a0_2, .int .i64 a0_3, .int .i64 a0_4, .int .i64 a0_5, .bool a0_6] 27 (0, 0)) (by (with_reducible repeat (first | refine blk_drewN ?_ _ | refine blk_drew ?_ | refine blk_alloc ?_ _)); exact BK175.out) hb); have n1_ := Aside0.mk (below_step (by repeat (first | (with_reducible first | exact HB.out | apply below_alloc | apply pw_below_drewN | apply below_drew1 | refine below_set ?_ GE175.out) | exact HB.out)) hb); have n2_ := Aside0.mk (hbox); have n3_ := Aside0.mk ((by rw [hg]; exact (below_size (by repeat (first | (with_reducible first | exact HB.out | apply below_alloc | apply pw_below_drewN | apply below_drew1 | refine below_set ?_ GE175.out) | exact HB.out))) : w.heap.size ≤ gb176)); have n4_ := Aside0.mk ((by rw [hg]; exact (below_size (by repeat (first | (with_reducible first | exact HB.out | apply below_alloc | apply pw_below_drewN | apply below_drew1 | refine below_set ?_ GE175.out) | exact HB.out))) : w.heap.size ≤ gb176)); have n5_ := Aside0.mk ((by rw [hg]; exact Nat.ne_of_lt (blk_lt (g := gb175) (o := .cells #[.int .i64 a0_0, .int .i64 a0_1, .int .i64 a0_2, .int .i64 a0_3, .int .i64 a0_4, .int .i64 a0_5, .bool a0_6] 27 (0, 0)) (by (with_reducible repeat (first | refine blk_drewN ?_ _ | refine blk_drew ?_ | refine blk_alloc ?_ _)); exact BK175.out)) : gb175 ≠ gb176)); have n6_ := Aside0.mk ((by rw [hg]; exact Nat.ne_of_gt (blk_lt (g := gb175) (o := .cells #[.int .i64 a0_0, .int .i64 a0_1, .int .i64 a0_2, .int .i64 a0_3, .int .i64 a0_4, .int .i64 a0_5, .bool a0_6] 27 (0, 0)) (by (with_reducible repeat (first | refine blk_drewN ?_ _ | refine blk_drew ?_ | refine blk_alloc ?_ _)); exact BK175.out)) : gb176 ≠ gb175)); clear BK175; clear HB; have BK175 := n0_; have HB := n1_; have BK176 := n2_; have GW176 := n3_; have GE176 := n4_; have NB175_176 := n5_; have NB176_175 := n6_; clear n0_ n1_ n2_ n3_ n4_ n5_ n6_; clear hb hbox hg; have hnb22 := NB175_176.out; have hnc22 := NB176_175.out; have hcz23_0 : w21.cell? ⟨gb175, 0, none⟩ = some (.int .i64 a0_0) := (blk_cell BK175.out 0).trans rfl; have hcz23_1 : w21.cell? ⟨gb175, 1, none⟩ = some (.int .i64 a0_1) := (blk_cell BK175.out 1).trans rfl; have hcz23_2 : w21.cell? ⟨gb175, 2, none⟩ = some (.int .i64 a0_2) := (blk_cell BK175.out 2).trans rfl; have hcz23_3 : w21.cell? ⟨gb175, 3, none⟩ = some (.int .i64 a0_3) := (blk_cell BK175.out 3).trans rfl; have hcz23_4 : w21.cell? ⟨gb175, 4, none⟩ = some (.int .i64 a0_4) := (blk_cell BK175.out 4).trans rfl; have hcz23_5 : w21.cell? ⟨gb175, 5, none⟩ = some (.int .i64 a0_5) := (blk_cell BK175.out 5).trans rfl; have hcz23_6 : w21.cell? ⟨gb175, 6, none⟩ = some (.bool a0_6) := (blk_cell BK175.out 6).trans rfl; have hfz23_0 := blk_frozen BK175.out 0; have hfz23_1 := blk_frozen BK175.out 1; have hfz23_2 := blk_frozen BK175.out 2; have hfz23_3 := blk_frozen BK175.out 3; have hfz23_4 := blk_frozen BK175.out 4; have hfz23_5 := blk_frozen BK175.out 5; have hfz23_6 := blk_frozen BK175.out 6; have hcz24_0 : w21.cell? ⟨gb176, 0, none⟩ = some (.int .i64 a1_0) := (blk_cell BK176.out 0).trans rfl; have hcz24_1 : w21.cell? ⟨gb176, 1, none⟩ = some (.int .i64 a1_1) := (blk_cell BK176.out 1).trans rfl; have hcz24_2 : w21.cell? ⟨gb176, 2, none⟩ = some (.int .i64 a1_2) := (blk_cell BK176.out 2).trans rfl; have hfz24_0 := blk_frozen BK176.out 0; have hfz24_1 := blk_frozen BK176.out 1; have hfz24_2 := blk_frozen BK176.out 2) | ((with_reducible refine gate_callee (f := 94) rfl ?_); refine goesL_ (some 11) rfl rfl Tryd.func94 (by kernel_rfl) rfl #[.agg #[.int .i64 a0_0, .int .i64 a0_1, .int .i64 a0_2, .int .i64 a0_3, .int .i64 a0_4, .int .i64 a0_5, .bool a0_6], .agg #[.int .i64 a1_0, .int .i64 a1_1, .int .i64 a1_2]] rfl (by (try simp only [List.map_toArray, List.map_cons, List.map_nil]); first | done | rfl | (simp only [List.length_drop, List.length_take]; rfl)) ?_; (with_reducible refine (bonus_gap.calls a0_0 a0_1 a0_2 a0_3 a0_4 a0_5 a0_6 a1_0 a1_1 a1_2 t177 t178 _ A3.out).mono ?_); rintro e w25 ⟨rfl, hb⟩; refine ⟨_, rfl, ?_⟩; have n0_ := Aside0.mk (blk_below (g := gb175) (o := .cells #[.int .i64 a0_0, .int .i64 a0_1, .int .i64 a0_2, .int .i64 a0_3, .int .i64 a0_4, .int .i64 a0_5, .bool a0_6] 27 (0, 0)) (by (with_reducible repeat (first | refine blk_drewN ?_ _ | refine blk_drew ?_ | refine blk_alloc ?_ _)); exact BK175.out) hb); have n1_ := Aside0.mk (blk_below (g := gb176) (o := .cells #[.int .i64 a1_0, .int .i64 a1_1, .int .i64 a1_2] 68 (0, 0)) (by (with_reducible repeat (first | refine blk_drewN ?_ _ | refine blk_drew ?_ | refine blk_alloc ?_ _)); exact BK176.out) hb); have n2_ := Aside0.mk (below_step (by repeat (first | (with_reducible first | exact HB.out | apply below_alloc | apply pw_below_drewN | apply below_drew1 | refine below_set ?_ GE175.out | refine below_set ?_ GE176.out) | exact HB.out)) hb); clear BK175; clear BK176; clear HB; have BK175 := n0_; have BK176 := n1_; have HB := n2_; clear n0_ n1_ n2_; (try clear hb); (try clear hb2); (try clear hk); (try clear hi)))
    have n0_ := Aside0.mk (blk_drew BK175.out)
    have n1_ := Aside0.mk (blk_drew BK176.out)
    have n2_ := Aside0.mk (below_drew1 HB.out)
    clear BK175
    clear BK176
    clear HB
    have BK175 := n0_
    have BK176 := n1_
    have HB := n2_
    clear n0_ n1_ n2_
    refine start_ (n := 9) (S := fun w' => w'.cell? ⟨gb175, 0, none⟩ = some (.int .i64 a0_0) ∧ w'.cell? ⟨gb175, 1, none⟩ = some (.int .i64 a0_1) ∧ w'.cell? ⟨gb175, 2, none⟩ = some (.int .i64 a0_2) ∧ w'.cell? ⟨gb175, 3, none⟩ = some (.int .i64 a0_3) ∧ w'.cell? ⟨gb175, 4, none⟩ = some (.int .i64 a0_4) ∧ w'.cell? ⟨gb175, 5, none⟩ = some (.int .i64 a0_5) ∧ w'.cell? ⟨gb175, 6, none⟩ = some (.bool a0_6) ∧ w'.cell? ⟨gb176, 0, none⟩ = some (.int .i64 a1_0) ∧ w'.cell? ⟨gb176, 1, none⟩ = some (.int .i64 a1_1) ∧ w'.cell? ⟨gb176, 2, none⟩ = some (.int .i64 a1_2)) (ds := []) #[false, false, false, false, false, false, false, false, false] (by kernel_rfl) rfl rfl ⟨(blk_cell BK175.out 0).trans rfl, (blk_cell BK175.out 1).trans rfl, (blk_cell BK175.out 2).trans rfl, (blk_cell BK175.out 3).trans rfl, (blk_cell BK175.out 4).trans rfl, (blk_cell BK175.out 5).trans rfl, (blk_cell BK175.out 6).trans rfl, (blk_cell BK176.out 0).trans rfl, (blk_cell BK176.out 1).trans rfl, (blk_cell BK176.out 2).trans rfl⟩ (fun hHeld => ?_); refine with_tabW bonus_good.tab2 bonus_good.bits2 (fun HT_ HW_ => ?_)
    generalize w25.drew = w26 at BK175 BK176 HB hHeld ⊢
    refine pure_ (i := 0) (N := some 14) (v := ?_) (a' := ?_) #[true, false, false, false, false, false, false, false, false] rfl rfl (any_of HT_.out (by kernel_rfl)) (fun _ _ _ h => h) (Or.inl ⟨by rfl, ?_⟩) ?_ ?_
    rotate_left
    · intro w'
      go_simp
      with_reducible rfl
    rotate_left
    · simp only [Act.put, List.setIfInBounds_toArray, List.set_cons_zero, List.set_cons_succ, i64_w, i32_w]
      rfl
    refine pure_ (i := 4) (N := some 18) (v := ?_) (a' := ?_) #[true, false, false, false, true, false, false, false, false] rfl rfl (any_of HT_.out (by kernel_rfl)) (fun _ _ _ h => h) (Or.inl ⟨by rfl, ?_⟩) ?_ ?_
    rotate_left
    · intro w'
      go_simp
      with_reducible rfl
    rotate_left
    · simp only [Act.put, List.setIfInBounds_toArray, List.set_cons_zero, List.set_cons_succ, i64_w, i32_w]
      rfl
    refine take_ (i := 1) (N := some 15) (v := ?_) (a' := ?_) #[true, true, false, false, true, false, false, false, false] rfl rfl (take_ofW HT_.out HW_.out (by kernel_rfl)) (fun _ _ _ h => h) (Or.inl ⟨by rfl, ?_⟩) hHeld ?_ ?_
    rotate_left
    · rintro w' ⟨s0, s1, s2, s3, s4, s5, s6, s7, s8, s9⟩
      go_simp
      with_reducible rfl
    rotate_left
    · simp only [Act.put, List.setIfInBounds_toArray, List.set_cons_zero, List.set_cons_succ, i64_w, i32_w]
      rfl
    refine take_ (i := 2) (N := some 16) (v := ?_) (a' := ?_) #[true, true, true, false, true, false, false, false, false] rfl rfl (take_ofW HT_.out HW_.out (by kernel_rfl)) (fun _ _ _ h => h) (Or.inl ⟨by rfl, ?_⟩) hHeld ?_ ?_
    rotate_left
    · rintro w' ⟨s0, s1, s2, s3, s4, s5, s6, s7, s8, s9⟩
      go_simp
      with_reducible rfl
    rotate_left
    · simp only [Act.put, List.setIfInBounds_toArray, List.set_cons_zero, List.set_cons_succ, i64_w, i32_w]
      rfl
    refine take_ (i := 5) (N := some 19) (v := ?_) (a' := ?_) #[true, true, true, false, true, true, false, false, false] rfl rfl (take_ofW HT_.out HW_.out (by kernel_rfl)) (fun _ _ _ h => h) (Or.inl ⟨by rfl, ?_⟩) hHeld ?_ ?_
    rotate_left
    · rintro w' ⟨s0, s1, s2, s3, s4, s5, s6, s7, s8, s9⟩
      go_simp
      with_reducible rfl
    rotate_left
    · simp only [Act.put, List.setIfInBounds_toArray, List.set_cons_zero, List.set_cons_succ, i64_w, i32_w]
      rfl
    refine one_ (i := 3) (N := some 17) #[true, true, true, true, true, true, false, false, false] rfl rfl (one_of HT_.out (by kernel_rfl)) (by decide) (fun K hK => ?_)
    refine goes_ Tryd.func67 (by kernel_rfl) rfl #[.agg #[.int .i64 a0_0, .int .i64 a0_1, .int .i64 a0_2, .int .i64 a0_3, .int .i64 a0_4, .int .i64 a0_5, .bool a0_6]] (by rfl) rfl rfl (by (try simp only [List.map_toArray, List.map_cons, List.map_nil]); first | done | rfl | (simp only [List.length_drop, List.length_take]; rfl)) ?_
    with_reducible refine (bonus_of.calls a0_0 a0_1 a0_2 a0_3 a0_4 a0_5 a0_6 t179 t180 t181 t182 t183 t184 t185 t186 _ A4.out (by exact sig_below HS.out (by repeat (first | (with_reducible first | exact HB.out | apply below_alloc | apply pw_below_drewN | apply below_drew1 | refine below_set ?_ GE175.out | refine below_set ?_ GE176.out) | exact HB.out)))).mono ?_
    rintro e w27 ⟨rfl, hb⟩
    refine ⟨_, rfl, ?_⟩
    have n0_ := Aside0.mk (blk_below (g := gb175) (o := .cells #[.int .i64 a0_0, .int .i64 a0_1, .int .i64 a0_2, .int .i64 a0_3, .int .i64 a0_4, .int .i64 a0_5, .bool a0_6] 27 (0, 0)) (by (with_reducible repeat (first | refine blk_drewN ?_ _ | refine blk_drew ?_ | refine blk_alloc ?_ _)); exact BK175.out) hb)
    have n1_ := Aside0.mk (blk_below (g := gb176) (o := .cells #[.int .i64 a1_0, .int .i64 a1_1, .int .i64 a1_2] 68 (0, 0)) (by (with_reducible repeat (first | refine blk_drewN ?_ _ | refine blk_drew ?_ | refine blk_alloc ?_ _)); exact BK176.out) hb)
    have n2_ := Aside0.mk (below_step (by repeat (first | (with_reducible first | exact HB.out | apply below_alloc | apply pw_below_drewN | apply below_drew1 | refine below_set ?_ GE175.out | refine below_set ?_ GE176.out) | exact HB.out)) hb)
    clear BK175
    clear BK176
    clear HB
    have BK175 := n0_
    have BK176 := n1_
    have HB := n2_
    clear n0_ n1_ n2_
    (try clear hb)
    (try clear hb2)
    (try clear hk)
    (try clear hi)
    refine hK.out _ _ ⟨(blk_cell BK175.out 0).trans rfl, (blk_cell BK175.out 1).trans rfl, (blk_cell BK175.out 2).trans rfl, (blk_cell BK175.out 3).trans rfl, (blk_cell BK175.out 4).trans rfl, (blk_cell BK175.out 5).trans rfl, (blk_cell BK175.out 6).trans rfl, (blk_cell BK176.out 0).trans rfl, (blk_cell BK176.out 1).trans rfl, (blk_cell BK176.out 2).trans rfl⟩ (fun hHeld => ?_)
    clear hK K
    refine norm_ (a' := ?_) ?_ ?_
    rotate_left
    · show Act.put _ (some 17) _ = _
      simp only [Act.put, List.setIfInBounds_toArray, List.set_cons_zero, List.set_cons_succ, i64_w, i32_w]
      rfl
    refine one_ (i := 6) (N := some 20) #[true, true, true, true, true, true, true, false, false] rfl rfl (one_of HT_.out (by kernel_rfl)) (by decide) (fun K hK => ?_)
    refine goes_ Tryd.func77 (by kernel_rfl) rfl #[.agg #[.int .i64 t179, .int .i64 t180, .int .i64 t181, .int .i64 t182, .int .i64 t183, .int .i64 t184, .bool t185, .int .i64 t186], .int .i64 a1_2] (by rfl) rfl rfl (by (try simp only [List.map_toArray, List.map_cons, List.map_nil]); first | done | rfl | (simp only [List.length_drop, List.length_take]; rfl)) ?_
    with_reducible refine (bonus_condition_extra.calls t179 t180 t181 t182 t183 t184 t185 t186 a1_2 t187 _ A5.out).mono ?_
    rintro e w28 ⟨rfl, hb⟩
    refine ⟨_, rfl, ?_⟩
    have n0_ := Aside0.mk (blk_below (g := gb175) (o := .cells #[.int .i64 a0_0, .int .i64 a0_1, .int .i64 a0_2, .int .i64 a0_3, .int .i64 a0_4, .int .i64 a0_5, .bool a0_6] 27 (0, 0)) (by (with_reducible repeat (first | refine blk_drewN ?_ _ | refine blk_drew ?_ | refine blk_alloc ?_ _)); exact BK175.out) hb)
    have n1_ := Aside0.mk (blk_below (g := gb176) (o := .cells #[.int .i64 a1_0, .int .i64 a1_1, .int .i64 a1_2] 68 (0, 0)) (by (with_reducible repeat (first | refine blk_drewN ?_ _ | refine blk_drew ?_ | refine blk_alloc ?_ _)); exact BK176.out) hb)
    have n2_ := Aside0.mk (below_step (by repeat (first | (with_reducible first | exact HB.out | apply below_alloc | apply pw_below_drewN | apply below_drew1 | refine below_set ?_ GE175.out | refine below_set ?_ GE176.out) | exact HB.out)) hb)
    clear BK175
    clear BK176
    clear HB
    have BK175 := n0_
    have BK176 := n1_
    have HB := n2_
    clear n0_ n1_ n2_
    (try clear hb)
    (try clear hb2)
    (try clear hk)
    (try clear hi)
    refine hK.out _ _ ⟨(blk_cell BK175.out 0).trans rfl, (blk_cell BK175.out 1).trans rfl, (blk_cell BK175.out 2).trans rfl, (blk_cell BK175.out 3).trans rfl, (blk_cell BK175.out 4).trans rfl, (blk_cell BK175.out 5).trans rfl, (blk_cell BK175.out 6).trans rfl, (blk_cell BK176.out 0).trans rfl, (blk_cell BK176.out 1).trans rfl, (blk_cell BK176.out 2).trans rfl⟩ (fun hHeld => ?_)
    clear hK K
    refine norm_ (a' := ?_) ?_ ?_
    rotate_left
    · show Act.put _ (some 20) _ = _
      simp only [Act.put, List.setIfInBounds_toArray, List.set_cons_zero, List.set_cons_succ, i64_w, i32_w]
      rfl
    refine pure_ (i := 7) (N := some 21) (v := ?_) (a' := ?_) #[true, true, true, true, true, true, true, true, false] rfl rfl (any_of HT_.out (by kernel_rfl)) (fun _ _ _ h => h) (Or.inl ⟨by rfl, ?_⟩) ?_ ?_
    rotate_left
    · intro w'
      go_simp
      with_reducible rfl
    rotate_left
    · simp only [Act.put, List.setIfInBounds_toArray, List.set_cons_zero, List.set_cons_succ, i64_w, i32_w]
      rfl
    refine pure_ (i := 8) (N := some 7) (v := ?_) (a' := ?_) #[true, true, true, true, true, true, true, true, true] rfl rfl (any_of HT_.out (by kernel_rfl)) (fun _ _ _ h => h) (Or.inl ⟨by rfl, ?_⟩) ?_ ?_
    rotate_left
    · intro w'
      go_simp
      with_reducible rfl
    rotate_left
    · simp only [Act.put, List.setIfInBounds_toArray, List.set_cons_zero, List.set_cons_succ, i64_w, i32_w]
      rfl
    refine done_ (done_of HT_.out (by kernel_rfl)) ?_
    have hcz29_0 : w28.cell? ⟨gb175, 0, none⟩ = some (.int .i64 a0_0) := (blk_cell BK175.out 0).trans rfl
    have hcz29_1 : w28.cell? ⟨gb175, 1, none⟩ = some (.int .i64 a0_1) := (blk_cell BK175.out 1).trans rfl
    have hcz29_2 : w28.cell? ⟨gb175, 2, none⟩ = some (.int .i64 a0_2) := (blk_cell BK175.out 2).trans rfl
    have hcz29_3 : w28.cell? ⟨gb175, 3, none⟩ = some (.int .i64 a0_3) := (blk_cell BK175.out 3).trans rfl
    have hcz29_4 : w28.cell? ⟨gb175, 4, none⟩ = some (.int .i64 a0_4) := (blk_cell BK175.out 4).trans rfl
    have hcz29_5 : w28.cell? ⟨gb175, 5, none⟩ = some (.int .i64 a0_5) := (blk_cell BK175.out 5).trans rfl
    have hcz29_6 : w28.cell? ⟨gb175, 6, none⟩ = some (.bool a0_6) := (blk_cell BK175.out 6).trans rfl
    have hfz29_0 := blk_frozen BK175.out 0
    have hfz29_1 := blk_frozen BK175.out 1
    have hfz29_2 := blk_frozen BK175.out 2
    have hfz29_3 := blk_frozen BK175.out 3
    have hfz29_4 := blk_frozen BK175.out 4
    have hfz29_5 := blk_frozen BK175.out 5
    have hfz29_6 := blk_frozen BK175.out 6
    have hcz30_0 : w28.cell? ⟨gb176, 0, none⟩ = some (.int .i64 a1_0) := (blk_cell BK176.out 0).trans rfl
    have hcz30_1 : w28.cell? ⟨gb176, 1, none⟩ = some (.int .i64 a1_1) := (blk_cell BK176.out 1).trans rfl
    have hcz30_2 : w28.cell? ⟨gb176, 2, none⟩ = some (.int .i64 a1_2) := (blk_cell BK176.out 2).trans rfl
    have hfz30_0 := blk_frozen BK176.out 0
    have hfz30_1 := blk_frozen BK176.out 1
    have hfz30_2 := blk_frozen BK176.out 2
    try go_wp2_with (first | ((with_reducible refine gate_callee (f := 76) rfl ?_); refine goesL_ (some 25) rfl rfl Tryd.func76 (by kernel_rfl) rfl #[.agg #[.int .i64 a0_0, .int .i64 a0_1, .int .i64 a0_2, .int .i64 a0_3, .int .i64 a0_4, .int .i64 a0_5, .bool a0_6], .int .i64 a1_2] rfl (by (try simp only [List.map_toArray, List.map_cons, List.map_nil]); first | done | rfl | (simp only [List.length_drop, List.length_take]; rfl)) ?_; (with_reducible refine (bonus_within.calls a0_0 a0_1 a0_2 a0_3 a0_4 a0_5 a0_6 a1_2 false _ A6.out).mono ?_); rintro e w31 ⟨rfl, hb⟩; refine ⟨_, rfl, ?_⟩; have n0_ := Aside0.mk (blk_below (g := gb175) (o := .cells #[.int .i64 a0_0, .int .i64 a0_1, .int .i64 a0_2, .int .i64 a0_3, .int .i64 a0_4, .int .i64 a0_5, .bool a0_6] 27 (0, 0)) (by (with_reducible repeat (first | refine blk_drewN ?_ _ | refine blk_drew ?_ | refine blk_alloc ?_ _)); exact BK175.out) hb); have n1_ := Aside0.mk (blk_below (g := gb176) (o := .cells #[.int .i64 a1_0, .int .i64 a1_1, .int .i64 a1_2] 68 (0, 0)) (by (with_reducible repeat (first | refine blk_drewN ?_ _ | refine blk_drew ?_ | refine blk_alloc ?_ _)); exact BK176.out) hb); have n2_ := Aside0.mk (below_step (by repeat (first | (with_reducible first | exact HB.out | apply below_alloc | apply pw_below_drewN | apply below_drew1 | refine below_set ?_ GE175.out | refine below_set ?_ GE176.out) | exact HB.out)) hb); clear BK175; clear BK176; clear HB; have BK175 := n0_; have BK176 := n1_; have HB := n2_; clear n0_ n1_ n2_; (try clear hb); (try clear hb2); (try clear hk); (try clear hi)))
    go_ret
    exact ⟨by first | rfl | (simp [errW_none, errW_some] <;> rfl) | (simp [*, errW_none, errW_some] <;> rfl), by repeat (first | (with_reducible first | exact HB.out | apply below_alloc | apply pw_below_drewN | apply below_drew1 | refine below_set ?_ GE175.out | refine below_set ?_ GE176.out) | exact HB.out)⟩

/-! ### bonus_Keeps: function 45 -/
def bonus_Keeps.f (k : Nat) (a0_0 : Int) (a0_1 : Int) (a0_2 : Int) (a0_3 : Int) (a0_4 : Int) (a0_5 : Int) (a0_6 : Bool) (a1_0 : Int) (a1_1 : Int) (a1_2 : Int) : Option (Bool × Int) := (bonus_both.f k a0_0 a0_1 a0_2 a0_3 a0_4 a0_5 a0_6 a1_0 a1_1 a1_2).bind fun t191 => (if t191 = 0 then ((bonus_good.f a0_0 a0_1 a0_2 a0_3 a0_4 a0_5 a0_6 a1_0 a1_1 a1_2).bind fun t192 => (some (t192, 0))) else (some (false, t191)))
theorem bonus_Keeps.mono : ∀ a0 a1 a2 a3 a4 a5 a6 a7 a8 a9 k, LeO (bonus_Keeps.f k a0 a1 a2 a3 a4 a5 a6 a7 a8 a9) (bonus_Keeps.f (k + 1) a0 a1 a2 a3 a4 a5 a6 a7 a8 a9) := by
  intro a0 a1 a2 a3 a4 a5 a6 a7 a8 a9 k
  unfold bonus_Keeps.f
  repeat' first
      | (with_reducible exact bonus_both.mono _ _ _ _ _ _ _ _ _ _ _)
      | (with_reducible exact LeO.refl _)
      | (with_reducible exact LeO.none _)
      | (with_reducible refine LeO.ite ?_ ?_)
      | (with_reducible refine LeO.bind ?_ (fun _ => ?_))
      | exact bonus_both.mono _ _ _ _ _ _ _ _ _ _ _
      | exact LeO.none _
      | refine LeO.ite ?_ ?_
      | refine LeO.bind ?_ (fun _ => ?_)
set_option maxHeartbeats 8000000 in
set_option maxRecDepth 100000 in
theorem bonus_Keeps.calls (k : Nat) (a0_0 : Int) (a0_1 : Int) (a0_2 : Int) (a0_3 : Int) (a0_4 : Int) (a0_5 : Int) (a0_6 : Bool) (a1_0 : Int) (a1_1 : Int) (a1_2 : Int) (r1 : Bool) (r2 : Int) (w : World) (h : bonus_Keeps.f k a0_0 a0_1 a0_2 a0_3 a0_4 a0_5 a0_6 a1_0 a1_1 a1_2 = some (r1, r2)) (hS : SignsAt w) :
    Calls Tryd.prog 45 #[.agg #[.int .i64 a0_0, .int .i64 a0_1, .int .i64 a0_2, .int .i64 a0_3, .int .i64 a0_4, .int .i64 a0_5, .bool a0_6], .agg #[.int .i64 a1_0, .int .i64 a1_1, .int .i64 a1_2]] w fun e w' => e = .returned (.tuple #[.bool r1, .int .i64 r2]) ∧ Below w.heap.size w w' := by
  have HS := Aside0.mk hS
  clear hS
  have hu27 := Tryd.underlying27
  have hu68 := Tryd.underlying68
  have HB := Aside0.mk (Below.refl w.heap.size w)
  have H : ((bonus_both.f k a0_0 a0_1 a0_2 a0_3 a0_4 a0_5 a0_6 a1_0 a1_1 a1_2).bind fun t191 => (if t191 = 0 then ((bonus_good.f a0_0 a0_1 a0_2 a0_3 a0_4 a0_5 a0_6 a1_0 a1_1 a1_2).bind fun t192 => (some (t192, 0))) else (some (false, t191)))) = some (r1, r2) := h
  clear h
  replace H := Option.bind_eq_some_iff.mp H
  obtain ⟨t191, A30, H⟩ := H
  replace H : (if t191 = 0 then ((bonus_good.f a0_0 a0_1 a0_2 a0_3 a0_4 a0_5 a0_6 a1_0 a1_1 a1_2).bind fun t192 => (some (t192, 0))) else (some (false, t191))) = some (r1, r2) := H
  have A3 := Aside0.mk A30
  clear A30
  by_cases c4 : t191 = 0
  · rw [if_pos c4] at H
    have c4b0 : (t191 == 0) = true := beq_iff_eq.mpr c4
    have c4b1 : (t191 != 0) = false := bne_eq_false_iff_eq.mpr c4
    clear c4
    replace H := Option.bind_eq_some_iff.mp H
    obtain ⟨t192, A50, H⟩ := H
    replace H : (some (t192, 0)) = some (r1, r2) := H
    have A5 := Aside0.mk A50
    clear A50
    simp only [Option.some.injEq, Prod.mk.injEq] at H
    obtain ⟨rfl, rfl⟩ := H
    go_enter Tryd.func45, Tryd.ntmps45
    go_wp2_with (first | ((with_reducible refine gate_dst (N := 2) rfl ?_); refine box_event ?hg (N := 2) ?hd (cs := #[.int .i64 a0_0, .int .i64 a0_1, .int .i64 a0_2, .int .i64 a0_3, .int .i64 a0_4, .int .i64 a0_5, .bool a0_6]) (t := 27) ?hr ?_; (case hd => rfl); (case hg => rfl); (case hr => first | (go_simp; done) | (go_simp; rfl)); intro gb189 hg w6 hbox hb; have n0_ := Aside0.mk (below_step (by repeat (first | (with_reducible first | exact HB.out | apply below_alloc | apply pw_below_drewN | apply below_drew1) | exact HB.out)) hb); have n1_ := Aside0.mk (hbox); have n2_ := Aside0.mk ((by rw [hg]; exact (below_size (by repeat (first | (with_reducible first | exact HB.out | apply below_alloc | apply pw_below_drewN | apply below_drew1) | exact HB.out))) : w.heap.size ≤ gb189)); have n3_ := Aside0.mk ((by rw [hg]; exact (below_size (by repeat (first | (with_reducible first | exact HB.out | apply below_alloc | apply pw_below_drewN | apply below_drew1) | exact HB.out))) : w.heap.size ≤ gb189)); clear HB; have HB := n0_; have BK189 := n1_; have GW189 := n2_; have GE189 := n3_; clear n0_ n1_ n2_ n3_; clear hb hbox hg) | ((with_reducible refine gate_dst (N := 3) rfl ?_); refine box_event ?hg (N := 3) ?hd (cs := #[.int .i64 a1_0, .int .i64 a1_1, .int .i64 a1_2]) (t := 68) ?hr ?_; (case hd => rfl); (case hg => rfl); (case hr => first | (go_simp; done) | (go_simp; rfl)); intro gb190 hg w7 hbox hb; have n0_ := Aside0.mk (blk_below (g := gb189) (o := .cells #[.int .i64 a0_0, .int .i64 a0_1, .int .i64 a0_2, .int .i64 a0_3, .int .i64 a0_4, .int .i64 a0_5, .bool a0_6] 27 (0, 0)) (by (with_reducible repeat (first | refine blk_drewN ?_ _ | refine blk_drew ?_ | refine blk_alloc ?_ _)); exact BK189.out) hb); have n1_ := Aside0.mk (below_step (by repeat (first | (with_reducible first | exact HB.out | apply below_alloc | apply pw_below_drewN | apply below_drew1 | refine below_set ?_ GE189.out) | exact HB.out)) hb); have n2_ := Aside0.mk (hbox); have n3_ := Aside0.mk ((by rw [hg]; exact (below_size (by repeat (first | (with_reducible first | exact HB.out | apply below_alloc | apply pw_below_drewN | apply below_drew1 | refine below_set ?_ GE189.out) | exact HB.out))) : w.heap.size ≤ gb190)); have n4_ := Aside0.mk ((by rw [hg]; exact (below_size (by repeat (first | (with_reducible first | exact HB.out | apply below_alloc | apply pw_below_drewN | apply below_drew1 | refine below_set ?_ GE189.out) | exact HB.out))) : w.heap.size ≤ gb190)); have n5_ := Aside0.mk ((by rw [hg]; exact Nat.ne_of_lt (blk_lt (g := gb189) (o := .cells #[.int .i64 a0_0, .int .i64 a0_1, .int .i64 a0_2, .int .i64 a0_3, .int .i64 a0_4, .int .i64 a0_5, .bool a0_6] 27 (0, 0)) (by (with_reducible repeat (first | refine blk_drewN ?_ _ | refine blk_drew ?_ | refine blk_alloc ?_ _)); exact BK189.out)) : gb189 ≠ gb190)); have n6_ := Aside0.mk ((by rw [hg]; exact Nat.ne_of_gt (blk_lt (g := gb189) (o := .cells #[.int .i64 a0_0, .int .i64 a0_1, .int .i64 a0_2, .int .i64 a0_3, .int .i64 a0_4, .int .i64 a0_5, .bool a0_6] 27 (0, 0)) (by (with_reducible repeat (first | refine blk_drewN ?_ _ | refine blk_drew ?_ | refine blk_alloc ?_ _)); exact BK189.out)) : gb190 ≠ gb189)); clear BK189; clear HB; have BK189 := n0_; have HB := n1_; have BK190 := n2_; have GW190 := n3_; have GE190 := n4_; have NB189_190 := n5_; have NB190_189 := n6_; clear n0_ n1_ n2_ n3_ n4_ n5_ n6_; clear hb hbox hg; have hnb8 := NB189_190.out; have hnc8 := NB190_189.out; have hcz9_0 : w7.cell? ⟨gb189, 0, none⟩ = some (.int .i64 a0_0) := (blk_cell BK189.out 0).trans rfl; have hcz9_1 : w7.cell? ⟨gb189, 1, none⟩ = some (.int .i64 a0_1) := (blk_cell BK189.out 1).trans rfl; have hcz9_2 : w7.cell? ⟨gb189, 2, none⟩ = some (.int .i64 a0_2) := (blk_cell BK189.out 2).trans rfl; have hcz9_3 : w7.cell? ⟨gb189, 3, none⟩ = some (.int .i64 a0_3) := (blk_cell BK189.out 3).trans rfl; have hcz9_4 : w7.cell? ⟨gb189, 4, none⟩ = some (.int .i64 a0_4) := (blk_cell BK189.out 4).trans rfl; have hcz9_5 : w7.cell? ⟨gb189, 5, none⟩ = some (.int .i64 a0_5) := (blk_cell BK189.out 5).trans rfl; have hcz9_6 : w7.cell? ⟨gb189, 6, none⟩ = some (.bool a0_6) := (blk_cell BK189.out 6).trans rfl; have hfz9_0 := blk_frozen BK189.out 0; have hfz9_1 := blk_frozen BK189.out 1; have hfz9_2 := blk_frozen BK189.out 2; have hfz9_3 := blk_frozen BK189.out 3; have hfz9_4 := blk_frozen BK189.out 4; have hfz9_5 := blk_frozen BK189.out 5; have hfz9_6 := blk_frozen BK189.out 6; have hcz10_0 : w7.cell? ⟨gb190, 0, none⟩ = some (.int .i64 a1_0) := (blk_cell BK190.out 0).trans rfl; have hcz10_1 : w7.cell? ⟨gb190, 1, none⟩ = some (.int .i64 a1_1) := (blk_cell BK190.out 1).trans rfl; have hcz10_2 : w7.cell? ⟨gb190, 2, none⟩ = some (.int .i64 a1_2) := (blk_cell BK190.out 2).trans rfl; have hfz10_0 := blk_frozen BK190.out 0; have hfz10_1 := blk_frozen BK190.out 1; have hfz10_2 := blk_frozen BK190.out 2) | ((with_reducible refine gate_callee (f := 93) rfl ?_); refine goesL_ (some 9) rfl rfl Tryd.func93 (by kernel_rfl) rfl #[.agg #[.int .i64 a0_0, .int .i64 a0_1, .int .i64 a0_2, .int .i64 a0_3, .int .i64 a0_4, .int .i64 a0_5, .bool a0_6], .agg #[.int .i64 a1_0, .int .i64 a1_1, .int .i64 a1_2]] rfl (by (try simp only [List.map_toArray, List.map_cons, List.map_nil]); first | done | rfl | (simp only [List.length_drop, List.length_take]; rfl)) ?_; (with_reducible refine (bonus_both.calls k a0_0 a0_1 a0_2 a0_3 a0_4 a0_5 a0_6 a1_0 a1_1 a1_2 t191 _ A3.out).mono ?_); rintro e w11 ⟨rfl, hb⟩; refine ⟨_, rfl, ?_⟩; have n0_ := Aside0.mk (blk_below (g := gb189) (o := .cells #[.int .i64 a0_0, .int .i64 a0_1, .int .i64 a0_2, .int .i64 a0_3, .int .i64 a0_4, .int .i64 a0_5, .bool a0_6] 27 (0, 0)) (by (with_reducible repeat (first | refine blk_drewN ?_ _ | refine blk_drew ?_ | refine blk_alloc ?_ _)); exact BK189.out) hb); have n1_ := Aside0.mk (blk_below (g := gb190) (o := .cells #[.int .i64 a1_0, .int .i64 a1_1, .int .i64 a1_2] 68 (0, 0)) (by (with_reducible repeat (first | refine blk_drewN ?_ _ | refine blk_drew ?_ | refine blk_alloc ?_ _)); exact BK190.out) hb); have n2_ := Aside0.mk (below_step (by repeat (first | (with_reducible first | exact HB.out | apply below_alloc | apply pw_below_drewN | apply below_drew1 | refine below_set ?_ GE189.out | refine below_set ?_ GE190.out) | exact HB.out)) hb); clear BK189; clear BK190; clear HB; have BK189 := n0_; have BK190 := n1_; have HB := n2_; clear n0_ n1_ n2_; (try clear hb); (try clear hb2); (try clear hk); (try clear hi); have hcz12_0 : w11.cell? ⟨gb189, 0, none⟩ = some (.int .i64 a0_0) := (blk_cell BK189.out 0).trans rfl; have hcz12_1 : w11.cell? ⟨gb189, 1, none⟩ = some (.int .i64 a0_1) := (blk_cell BK189.out 1).trans rfl; have hcz12_2 : w11.cell? ⟨gb189, 2, none⟩ = some (.int .i64 a0_2) := (blk_cell BK189.out 2).trans rfl; have hcz12_3 : w11.cell? ⟨gb189, 3, none⟩ = some (.int .i64 a0_3) := (blk_cell BK189.out 3).trans rfl; have hcz12_4 : w11.cell? ⟨gb189, 4, none⟩ = some (.int .i64 a0_4) := (blk_cell BK189.out 4).trans rfl; have hcz12_5 : w11.cell? ⟨gb189, 5, none⟩ = some (.int .i64 a0_5) := (blk_cell BK189.out 5).trans rfl; have hcz12_6 : w11.cell? ⟨gb189, 6, none⟩ = some (.bool a0_6) := (blk_cell BK189.out 6).trans rfl; have hfz12_0 := blk_frozen BK189.out 0; have hfz12_1 := blk_frozen BK189.out 1; have hfz12_2 := blk_frozen BK189.out 2; have hfz12_3 := blk_frozen BK189.out 3; have hfz12_4 := blk_frozen BK189.out 4; have hfz12_5 := blk_frozen BK189.out 5; have hfz12_6 := blk_frozen BK189.out 6; have hcz13_0 : w11.cell? ⟨gb190, 0, none⟩ = some (.int .i64 a1_0) := (blk_cell BK190.out 0).trans rfl; have hcz13_1 : w11.cell? ⟨gb190, 1, none⟩ = some (.int .i64 a1_1) := (blk_cell BK190.out 1).trans rfl; have hcz13_2 : w11.cell? ⟨gb190, 2, none⟩ = some (.int .i64 a1_2) := (blk_cell BK190.out 2).trans rfl; have hfz13_0 := blk_frozen BK190.out 0; have hfz13_1 := blk_frozen BK190.out 1; have hfz13_2 := blk_frozen BK190.out 2) | ((with_reducible refine gate_callee (f := 95) rfl ?_); refine goesL_ (some 15) rfl rfl Tryd.func95 (by kernel_rfl) rfl #[.agg #[.int .i64 a0_0, .int .i64 a0_1, .int .i64 a0_2, .int .i64 a0_3, .int .i64 a0_4, .int .i64 a0_5, .bool a0_6], .agg #[.int .i64 a1_0, .int .i64 a1_1, .int .i64 a1_2]] rfl (by (try simp only [List.map_toArray, List.map_cons, List.map_nil]); first | done | rfl | (simp only [List.length_drop, List.length_take]; rfl)) ?_; (with_reducible refine (bonus_good.calls a0_0 a0_1 a0_2 a0_3 a0_4 a0_5 a0_6 a1_0 a1_1 a1_2 t192 _ A5.out (by exact sig_below HS.out (by repeat (first | (with_reducible first | exact HB.out | apply below_alloc | apply pw_below_drewN | apply below_drew1 | refine below_set ?_ GE189.out | refine below_set ?_ GE190.out) | exact HB.out)))).mono ?_); rintro e w14 ⟨rfl, hb⟩; refine ⟨_, rfl, ?_⟩; have n0_ := Aside0.mk (blk_below (g := gb189) (o := .cells #[.int .i64 a0_0, .int .i64 a0_1, .int .i64 a0_2, .int .i64 a0_3, .int .i64 a0_4, .int .i64 a0_5, .bool a0_6] 27 (0, 0)) (by (with_reducible repeat (first | refine blk_drewN ?_ _ | refine blk_drew ?_ | refine blk_alloc ?_ _)); exact BK189.out) hb); have n1_ := Aside0.mk (blk_below (g := gb190) (o := .cells #[.int .i64 a1_0, .int .i64 a1_1, .int .i64 a1_2] 68 (0, 0)) (by (with_reducible repeat (first | refine blk_drewN ?_ _ | refine blk_drew ?_ | refine blk_alloc ?_ _)); exact BK190.out) hb); have n2_ := Aside0.mk (below_step (by repeat (first | (with_reducible first | exact HB.out | apply below_alloc | apply pw_below_drewN | apply below_drew1 | refine below_set ?_ GE189.out | refine below_set ?_ GE190.out) | exact HB.out)) hb); clear BK189; clear BK190; clear HB; have BK189 := n0_; have BK190 := n1_; have HB := n2_; clear n0_ n1_ n2_; (try clear hb); (try clear hb2); (try clear hk); (try clear hi)))
    go_ret2
    exact ⟨by first | rfl | (simp [errW_none, errW_some] <;> rfl) | (simp [*, errW_none, errW_some] <;> rfl), by repeat (first | (with_reducible first | exact HB.out | apply below_alloc | apply pw_below_drewN | apply below_drew1 | refine below_set ?_ GE189.out | refine below_set ?_ GE190.out) | exact HB.out)⟩
  · rw [if_neg c4] at H
    have c4b0 : (t191 == 0) = false := beq_eq_false_iff_ne.mpr c4
    have c4b1 : (t191 != 0) = true := bne_iff_ne.mpr c4
    simp only [Option.some.injEq, Prod.mk.injEq] at H
    obtain ⟨rfl, rfl⟩ := H
    go_enter Tryd.func45, Tryd.ntmps45
    go_wp2_with (first | ((with_reducible refine gate_dst (N := 2) rfl ?_); refine box_event ?hg (N := 2) ?hd (cs := #[.int .i64 a0_0, .int .i64 a0_1, .int .i64 a0_2, .int .i64 a0_3, .int .i64 a0_4, .int .i64 a0_5, .bool a0_6]) (t := 27) ?hr ?_; (case hd => rfl); (case hg => rfl); (case hr => first | (go_simp; done) | (go_simp; rfl)); intro gb189 hg w15 hbox hb; have n0_ := Aside0.mk (below_step (by repeat (first | (with_reducible first | exact HB.out | apply below_alloc | apply pw_below_drewN | apply below_drew1) | exact HB.out)) hb); have n1_ := Aside0.mk (hbox); have n2_ := Aside0.mk ((by rw [hg]; exact (below_size (by repeat (first | (with_reducible first | exact HB.out | apply below_alloc | apply pw_below_drewN | apply below_drew1) | exact HB.out))) : w.heap.size ≤ gb189)); have n3_ := Aside0.mk ((by rw [hg]; exact (below_size (by repeat (first | (with_reducible first | exact HB.out | apply below_alloc | apply pw_below_drewN | apply below_drew1) | exact HB.out))) : w.heap.size ≤ gb189)); clear HB; have HB := n0_; have BK189 := n1_; have GW189 := n2_; have GE189 := n3_; clear n0_ n1_ n2_ n3_; clear hb hbox hg) | ((with_reducible refine gate_dst (N := 3) rfl ?_); refine box_event ?hg (N := 3) ?hd (cs := #[.int .i64 a1_0, .int .i64 a1_1, .int .i64 a1_2]) (t := 68) ?hr ?_; (case hd => rfl); (case hg => rfl); (case hr => first | (go_simp; done) | (go_simp; rfl)); intro gb190 hg w16 hbox hb; have n0_ := Aside0.mk (blk_below (g := gb189) (o := .cells #[.int .i64 a0_0, .int .i64 a0_1, .int .i64 a0_2, .int .i64 a0_3, .int .i64 a0_4, .int .i64 a0_5, .bool a0_6] 27 (0, 0)) (by (with_reducible repeat (first | refine blk_drewN ?_ _ | refine blk_drew ?_ | refine blk_alloc ?_ _)); exact BK189.out) hb); have n1_ := Aside0.mk (below_step (by repeat (first | (with_reducible first | exact HB.out | apply below_alloc | apply pw_below_drewN | apply below_drew1 | refine below_set ?_ GE189.out) | exact HB.out)) hb); have n2_ := Aside0.mk (hbox); have n3_ := Aside0.mk ((by rw [hg]; exact (below_size (by repeat (first | (with_reducible first | exact HB.out | apply below_alloc | apply pw_below_drewN | apply below_drew1 | refine below_set ?_ GE189.out) | exact HB.out))) : w.heap.size ≤ gb190)); have n4_ := Aside0.mk ((by rw [hg]; exact (below_size (by repeat (first | (with_reducible first | exact HB.out | apply below_alloc | apply pw_below_drewN | apply below_drew1 | refine below_set ?_ GE189.out) | exact HB.out))) : w.heap.size ≤ gb190)); have n5_ := Aside0.mk ((by rw [hg]; exact Nat.ne_of_lt (blk_lt (g := gb189) (o := .cells #[.int .i64 a0_0, .int .i64 a0_1, .int .i64 a0_2, .int .i64 a0_3, .int .i64 a0_4, .int .i64 a0_5, .bool a0_6] 27 (0, 0)) (by (with_reducible repeat (first | refine blk_drewN ?_ _ | refine blk_drew ?_ | refine blk_alloc ?_ _)); exact BK189.out)) : gb189 ≠ gb190)); have n6_ := Aside0.mk ((by rw [hg]; exact Nat.ne_of_gt (blk_lt (g := gb189) (o := .cells #[.int .i64 a0_0, .int .i64 a0_1, .int .i64 a0_2, .int .i64 a0_3, .int .i64 a0_4, .int .i64 a0_5, .bool a0_6] 27 (0, 0)) (by (with_reducible repeat (first | refine blk_drewN ?_ _ | refine blk_drew ?_ | refine blk_alloc ?_ _)); exact BK189.out)) : gb190 ≠ gb189)); clear BK189; clear HB; have BK189 := n0_; have HB := n1_; have BK190 := n2_; have GW190 := n3_; have GE190 := n4_; have NB189_190 := n5_; have NB190_189 := n6_; clear n0_ n1_ n2_ n3_ n4_ n5_ n6_; clear hb hbox hg; have hnb17 := NB189_190.out; have hnc17 := NB190_189.out; have hcz18_0 : w16.cell? ⟨gb189, 0, none⟩ = some (.int .i64 a0_0) := (blk_cell BK189.out 0).trans rfl; have hcz18_1 : w16.cell? ⟨gb189, 1, none⟩ = some (.int .i64 a0_1) := (blk_cell BK189.out 1).trans rfl; have hcz18_2 : w16.cell? ⟨gb189, 2, none⟩ = some (.int .i64 a0_2) := (blk_cell BK189.out 2).trans rfl; have hcz18_3 : w16.cell? ⟨gb189, 3, none⟩ = some (.int .i64 a0_3) := (blk_cell BK189.out 3).trans rfl; have hcz18_4 : w16.cell? ⟨gb189, 4, none⟩ = some (.int .i64 a0_4) := (blk_cell BK189.out 4).trans rfl; have hcz18_5 : w16.cell? ⟨gb189, 5, none⟩ = some (.int .i64 a0_5) := (blk_cell BK189.out 5).trans rfl; have hcz18_6 : w16.cell? ⟨gb189, 6, none⟩ = some (.bool a0_6) := (blk_cell BK189.out 6).trans rfl; have hfz18_0 := blk_frozen BK189.out 0; have hfz18_1 := blk_frozen BK189.out 1; have hfz18_2 := blk_frozen BK189.out 2; have hfz18_3 := blk_frozen BK189.out 3; have hfz18_4 := blk_frozen BK189.out 4; have hfz18_5 := blk_frozen BK189.out 5; have hfz18_6 := blk_frozen BK189.out 6; have hcz19_0 : w16.cell? ⟨gb190, 0, none⟩ = some (.int .i64 a1_0) := (blk_cell BK190.out 0).trans rfl; have hcz19_1 : w16.cell? ⟨gb190, 1, none⟩ = some (.int .i64 a1_1) := (blk_cell BK190.out 1).trans rfl; have hcz19_2 : w16.cell? ⟨gb190, 2, none⟩ = some (.int .i64 a1_2) := (blk_cell BK190.out 2).trans rfl; have hfz19_0 := blk_frozen BK190.out 0; have hfz19_1 := blk_frozen BK190.out 1; have hfz19_2 := blk_frozen BK190.out 2) | ((with_reducible refine gate_callee (f := 93) rfl ?_); refine goesL_ (some 9) rfl rfl Tryd.func93 (by kernel_rfl) rfl #[.agg #[.int .i64 a0_0, .int .i64 a0_1, .int .i64 a0_2, .int .i64 a0_3, .int .i64 a0_4, .int .i64 a0_5, .bool a0_6], .agg #[.int .i64 a1_0, .int .i64 a1_1, .int .i64 a1_2]] rfl (by (try simp only [List.map_toArray, List.map_cons, List.map_nil]); first | done | rfl | (simp only [List.length_drop, List.length_take]; rfl)) ?_; (with_reducible refine (bonus_both.calls k a0_0 a0_1 a0_2 a0_3 a0_4 a0_5 a0_6 a1_0 a1_1 a1_2 t191 _ A3.out).mono ?_); rintro e w20 ⟨rfl, hb⟩; refine ⟨_, rfl, ?_⟩; have n0_ := Aside0.mk (blk_below (g := gb189) (o := .cells #[.int .i64 a0_0, .int .i64 a0_1, .int .i64 a0_2, .int .i64 a0_3, .int .i64 a0_4, .int .i64 a0_5, .bool a0_6] 27 (0, 0)) (by (with_reducible repeat (first | refine blk_drewN ?_ _ | refine blk_drew ?_ | refine blk_alloc ?_ _)); exact BK189.out) hb); have n1_ := Aside0.mk (blk_below (g := gb190) (o := .cells #[.int .i64 a1_0, .int .i64 a1_1, .int .i64 a1_2] 68 (0, 0)) (by (with_reducible repeat (first | refine blk_drewN ?_ _ | refine blk_drew ?_ | refine blk_alloc ?_ _)); exact BK190.out) hb); have n2_ := Aside0.mk (below_step (by repeat (first | (with_reducible first | exact HB.out | apply below_alloc | apply pw_below_drewN | apply below_drew1 | refine below_set ?_ GE189.out | refine below_set ?_ GE190.out) | exact HB.out)) hb); clear BK189; clear BK190; clear HB; have BK189 := n0_; have BK190 := n1_; have HB := n2_; clear n0_ n1_ n2_; (try clear hb); (try clear hb2); (try clear hk); (try clear hi)))
    go_ret2
    exact ⟨by first | rfl | (simp [errW_none, errW_some] <;> rfl) | (simp [*, errW_none, errW_some] <;> rfl), by repeat (first | (with_reducible first | exact HB.out | apply below_alloc | apply pw_below_drewN | apply below_drew1 | refine below_set ?_ GE189.out | refine below_set ?_ GE190.out) | exact HB.out)⟩

end Go.Proofs.YtjemaonejkepcaaDoor.B
